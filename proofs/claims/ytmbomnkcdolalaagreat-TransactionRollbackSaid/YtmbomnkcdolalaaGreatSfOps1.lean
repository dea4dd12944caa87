/- The checker's operands, and the operations that only compute or read. -/
import Derived.Test.YtmbomnkcdolalaaGreatSfInv
import Derived.Laws.StructEq
import Derived.Laws.Tables
import Derived.Great.BuildSlice
set_option linter.all false
namespace Go.Sf
open Go.RowKit (Below)
def LD:Value->Bool
 |.slice none 0 0=>true|_=>false
variable{v:Value}
theorem JB(h:LD v=true):v=.slice none 0 0:=by grind[LD]
def kA(f:FuncId):Value->Bool
 |.func (.func g) first caps=>f==g&&first.size==0&&caps.size==0
 |_=>false
variable{f:FuncId}
theorem nf(h:kA f v=true):v=.func (.func f) #[] #[]:=by
 unfold kA at h
 grind
def eW(k:IntKind)(n:Int):Value->Bool
 |.int k' m=>k==k'&&n==m|_=>false
theorem kB{k:IntKind}{n:Int}(h:eW k n v=true):v=.int k n:=by
 unfold eW at h
 grind
def Z1(b:Bool):Value->Bool
 |.bool c=>b==c|_=>false
variable{b:Bool}
theorem gW(h:Z1 b v=true):v=.bool b:=by
 unfold Z1 at h
 grind
def eX(s:ByteArray):Value->Bool
 |.string r=>s.data==r.data|_=>false
theorem kD{s:ByteArray}(h:eX s v=true):v=.string s:=by
 unfold eX at h
 grind [ByteArray.ext]
def d8:Value->Option (List Value)
 |.agg vs=>some vs.toList|_=>none
theorem jm{l:List Value}(h:d8 v=some l):v=.agg l.toArray:=by
 unfold d8 at h;split at h
 .simp at h;subst h;simp
 .cases h
mutual
def D5:TV->Value->Bool
 |.int k n,v=>eW k n v&&decide (k.min<=n/\n<=k.max)|.bool b,v=>Z1 b v|.str s,v=>eX s v&&decide (s.size<=Ir)|.list _ es,v=>es.isEmpty&&LD v|.agg ts,v=>match d8 v with|some vs=>JS ts vs&&vs.all Value.oneCell'|none=>false
 |.clo f cs,v=>cs.isEmpty&&kA f v|.nil,v=>LD v|.undef,v=>v.oneCell'|_,_=>false
def JS:Fq->List Value->Bool
 |[],vs=>vs.isEmpty|t::ts,vs=>match vs with|v::vs=>D5 t v&&JS ts vs|[]=>false
end
mutual
theorem Gm(w:World)(F:Nat->Nat->Prop):∀(t:TV)(v:Value),D5 t v=true->Al w F t v/\t.WF
 |.undef,v,h=>by
  simp only[D5]at h;exact⟨by simpa[Al]using h,trivial⟩
 |.xl _ _,v,h=>by simp[D5]at h|.nil,v,h=>by
  simp only[D5]at h;exact⟨JB h,trivial⟩
 |.pt _,v,h=>by simp[D5]at h|.int k n,v,h=>by
  simp only[D5,pq,zzX]at h;exact⟨kB h.1,h.2⟩
 |.bool b,v,h=>by
  simp only[D5]at h;exact⟨gW h,trivial⟩
 |.str s,v,h=>by
  simp only[D5,pq,zzX]at h;exact⟨kD h.1,h.2⟩
 |.list n es,v,h=>by
  simp only[D5,pq,List.isEmpty_iff]at h
  grind [TV.WF,TV.x8,Al,JB]
 |.agg ts,v,h=>by
  simp only[D5]at h;split at h
  .rename_i vs hv;rw[pq]at h;have:=PX w F ts vs h.1;refine⟨?_,by simpa[TV.WF]using this.2⟩;simp only[Al];exact⟨_,jm hv,by simpa using this.1,by simpa using h.2⟩
  .cases h
 |.clo f cs,v,h=>by
  simp only[D5,pq,List.isEmpty_iff]at h;obtain⟨rfl,h⟩:=h;refine⟨?_,by simp[TV.WF,TV.x8]⟩;simp only[Al];exact⟨#[],nf h,rfl⟩
theorem PX(w:World)(F:Nat->Nat->Prop):∀(ts:Fq)(vs:List Value),JS ts vs=true->AT w F ts vs/\TV.x8 ts
 |[],vs,h=>by simp[JS]at h;subst h;exact⟨rfl,trivial⟩|t::ts,vs,h=>by
  cases vs with
  |nil=>simp[JS]at h|cons v vs=>
   simp only[JS,pq]at h;have g:=Gm w F t v h.1;have l:=PX w F ts vs h.2;exact⟨⟨v,vs,rfl,g.1,l.1⟩,g.2,l.2⟩
end
def AN(x:Operand):AG->Bool
 |.s m=>match x with|.tmp n=>n==m|_=>false
 |.c t=>match x with|.const v=>D5 t v|.func f=>D5 t (.func (.func f) #[] #[])|_=>false
section
variable{F0:Nat->Nat->Prop}{w0:W0}{O:AB}{a:Act}{w:World}{G:BQ}
variable{s:Nat}
theorem NU(h:AU F0 w0 O a w G){i:Option Nat}:∀b lo o,G s i=some (b,lo)->o<lo->¬AX w0.heap.size F0 G b o:=by
 intro b lo o l ho hf;rcases hf with⟨m,g⟩|⟨s',q,lo',p,r⟩
 .exact(h.lt _ _ _ _ l).2.elim (fun e=>by omega) (fun e=>h.below.free _ _ _ (e _ (az _)) g)
 .obtain⟨rfl,rfl⟩:=h.pr _ _ _ _ _ _ _ p l
  grind
variable{n:Nat}
theorem BZ(h:AU F0 w0 O a w G){e:EV}(he:O.get n=e)(g:e≠.undef):n<a.tmps.size:=by
 rcases Nat.lt_or_ge n a.tmps.size with l|m
 .exact l
 .exact absurd ((h.dom n m).symm.trans he).symm g
theorem Ad(h:AU F0 w0 O a w G){e:EV}(he:O.get n=e)(g:e≠.undef):AP a w (AX w0.heap.size F0 G) G O n e (slot a n):=by
 have:=h.slots n (BZ h he g)
 rwa [he]at this
variable{x:Operand}{y:AG}
theorem Aw(h:AU F0 w0 O a w G)(l:AN x y=true){t:TV}(hv:y.val O=some t):Al w (AX w0.heap.size F0 G) t (a.eval x)/\t.WF:=by
 cases y with
 |s m=>
  cases x<;>simp[AN]at l;subst l;rename_i n;simp only[AG.val,AG.ev]at hv;have p:=h.wf n;cases he:O.get n with
  |tv r=>
   rw [he]at hv p;simp only[EV.val,po]at hv;subst hv;exact⟨Ad h he (by simp),p⟩
  |ow r=>
   rw [he]at hv p;simp only[EV.val,po]at hv;subst hv;exact⟨Bp.rep (Ad h he (by simp)) (fun b lo o u ho=>NU h b lo o u ho),p⟩
  |undef=>rw[he]at hv;simp[EV.val]at hv|sk=>rw[he]at hv;simp[EV.val]at hv|xo n es=>rw[he]at hv;simp[EV.val]at hv|la q i=>rw[he]at hv;simp[EV.val]at hv|oag cs=>rw[he]at hv;simp[EV.val]at hv|xn es=>rw[he]at hv;simp[EV.val]at hv|x1 n B=>rw[he]at hv;simp[EV.val]at hv|mx m=>rw[he]at hv;simp[EV.val]at hv|nh q i k=>rw[he]at hv;simp[EV.val]at hv|lp q i c=>rw[he]at hv;simp[EV.val]at hv|bx cs=>rw[he]at hv;simp[EV.val]at hv|bp q A=>rw[he]at hv;simp[EV.val]at hv|tp ts=>rw[he]at hv;simp[EV.val]at hv
 |c r=>
  simp only[AG.val,AG.ev,EV.val,po]at hv;subst hv;cases x with
  |const v=>exact Gm w _ _ _ l|func f=>exact Gm w _ _ _ l|tmp n=>simp[AN]at l|global g=>simp[AN]at l
theorem Wo(h:AU F0 w0 O a w G)(g:AN x y=true){t:TV}(hv:y.ev O=.tv t):Al w (AX w0.heap.size F0 G) t (a.eval x)/\t.WF:=by grind[Aw,AG.val,EV.val]
def Ba:List Operand->List AG->Bool
 |[],[]=>true|x::xs,y::ys=>AN x y&&Ba xs ys|_,_=>false
theorem F5(h:AU F0 w0 O a w G):∀{xs:List Operand}{ys:List AG},Ba xs ys=true->∀{ts:Fq},vals O ys=some ts->AT w (AX w0.heap.size F0 G) ts (xs.map a.eval)/\TV.x8 ts
 |[],[],_,ts,hv=>by simp[vals]at hv;subst hv;exact⟨rfl,trivial⟩|[],_::_,g,_,_=>by simp[Ba]at g|_::_,[],g,_,_=>by simp[Ba]at g|x::xs,y::ys,g,ts,hv=>by
  simp only[Ba,pq]at g;simp only[vals]at hv;split at hv
  .rename_i t q r l;simp only[po]at hv;subst hv;have m:=Aw h g.1 r;have p:=F5 h g.2 l;exact⟨⟨_,_,rfl,m.1,p.1⟩,m.2,p.2⟩
  .cases hv
end
theorem K4(k:IntKind)(n:Int):k.min<=k.wrap n/\k.wrap n<=k.max:=by
 cases k<;>simp only[IntKind.min,IntKind.max,IntKind.wrap,IntKind.signed,IntKind.bits,Bool.true_and,Bool.false_and]<;>simp<;>(try split)<;>omega
end Go.Sf
namespace Go.Sf
open Go.RowKit (Below)
def Cs(P:Program)(t:TypeId):Option Nat:=(P.info? t).map (·.size)
def B0(P:Program)(t:TypeId):K1:=
 match P.underlying t with
 |some (.struct _)|some (.array _ _)=>some true|some _=>some false|none=>none
def IZ(P:Program)(t:TypeId):Option Nat:=
 match P.underlying t with
 |some (.slice e)=>Cs P e|_=>none
def PT(P:Program)(t:TypeId)(f:Nat):Option Nat:=
 match P.underlying t with
 |some (.struct fs)=>match fs[f]? with
  |some x=>match Cs P x.type with
   |some 0=>none|some _=>some x.offset|none=>none
  |none=>none
 |_=>none
section
variable{P:Program}{w:World}
variable{t:TypeId}{n:Nat}
theorem B1(h:Cs P t=some n):(sizeOf t).run P w=.ok n w:=by
 simp only[Cs,Option.map_eq_some_iff]at h;obtain⟨i,hi,rfl⟩:=h;simp[sizeOf,typeInfo,hi]
variable{b:Bool}
theorem CW(h:B0 P t=some b):(isAgg t).run P w=.ok b w:=by
 unfold B0 at h;unfold isAgg underlying;simp only[Sem.run_bind,run_program,Result.andThen_ok];cases g:P.underlying t with
 |none=>rw[g]at h;simp at h|some d=>
  rw [g]at h;cases d<;>simp_all
theorem Tg{f k b o:Nat}(h:PT P t f=some k):
  (Instr.fieldAt t (.pointer (some ⟨b,o,none⟩)) f).run P w=.ok (.pointer (some ⟨b,o+k,none⟩)) w:=by
 unfold PT at h;split at h
 .rename_i r l;split at h
  .rename_i x m;split at h
   .cases h
   .rename_i n p q;simp only[po]at h;subst h;have g:¬(n=0):=fun e=>p (by rw[e]);simp[Instr.fieldAt,run_underlying l,m,Instr.sureAddr,fieldPlace,B1 q,g,Addr.add_lit]
   .cases h
  .cases h
 .cases h
variable{ts:Fq}
theorem SC{F:Nat->Nat->Prop}{b o:Nat}(h:DA w F ts b o):∃vs:List Value,AT w F ts vs/\(∀x∈vs,x.oneCell'=true)/\∀(j:Nat)(v:Value),vs[j]?=some v->w.cell? ((⟨b,o,none⟩:Addr).add j)=some v:=by
 induction ts generalizing o with
 |nil=>exact⟨[],rfl,by simp,by simp⟩|cons t ts C=>
  simp only[DA]at h;obtain⟨⟨v,l,D,m,p⟩,q⟩:=h;obtain⟨vs,r,A,B⟩:=C q;refine⟨v::vs,⟨v,vs,rfl,p,r⟩,by simp only[List.mem_cons,forall_eq_or_imp];exact⟨m,A⟩,fun j u g=>?_⟩;rw[Addr.add_lit];cases j with
  |zero=>simp at g;subst g;exact l|succ j=>
   have:=B j u (by simpa using g);rw[Addr.add_lit]at this
   grind
theorem BD{F:Nat->Nat->Prop}{vs:List Value}(h:AT w F ts vs):vs.length=ts.length:=((BU ts vs).1 h).1
variable{v:Value}
theorem fL{F:Nat->Nat->Prop}{es:Fq}{k:IntKind}{j:Int}(l:IZ P t=some n)(h:Al w F (.list n es) v)(H:0<=j){e:TV}(he:es[j.toNat]?=some e):
  ∃p,(Instr.indexAt t v (.int k j)).run P w=.ok p w/\Al w F (.pt e.cells) p:=by
 simp only[Al]at h;obtain⟨a,cap,rfl,_,C,D⟩:=h;have g:j.toNat<es.length:=by
  grind
 cases a with
 |none=>have:=C rfl;subst this;simp at g|some r=>
  obtain ⟨m,q⟩:=D r rfl;obtain⟨b,o,E⟩:=r;simp only at m q;have m:E=none:=m.resolve_left (fun e=>by subst e;simp at g);subst m;unfold IZ at l;split at l
  .rename_i el u;rw[Qk]at q;have A:=q j.toNat e he;have B:0<=j/\j<(es.length:Int):=by omega
   refine ⟨.pointer (some ⟨b,o+j.toNat*n,none⟩),?_,?_⟩
   .simp[Instr.indexAt,asIntOf,run_underlying u,B,B1 l,Addr.add_lit]
   .simp only[Al];exact⟨b,_,rfl,A.1⟩
  .cases l
end
end Go.Sf
namespace Go.Sf
open Go.RowKit (Below)
def Ay(P:Program)(F0:Nat->Nat->Prop)(w0:W0)(a:Act)(w:World)(o:Oper)(d:Nat)(K:EV->AB->Prop):Prop:=
 ∃v w',(execOp a.eval o).run P w=.ok (.value v) w'/\∃e env',K e env'/\Bi F0 w0 ((d,e)::env') (a.put (some d) v) w'
theorem Bg:∀{l:Fq},TV.x8 l↔∀t∈l,t.WF
 |[]=>by simp[TV.x8]|t::l=>by simp[TV.x8,Bg (l:=l)]
theorem HN{t:TV}(h:t.WF):TV.x8 t.cells:=by
 cases t with
 |agg cs=>exact h|_=>exact⟨h,trivial⟩
section
variable{P:Program}{S:FuncId->Fq->Au->Prop}{F0:Nat->Nat->Prop}{w0:W0}{O:AB}{a:Act}{w:World}{G:BQ}{d:Nat}{o:Oper}{K:EV->AB->Prop}
variable{v:Value}
theorem CS(h:AU F0 w0 O a w G)(hd:d<a.tmps.size){t:TV}(g:(execOp a.eval o).run P w=.ok (.value v) w)
  (l:Al w (AX w0.heap.size F0 G) t v)(m:t.WF)(p:K (.tv t) O):Ay P F0 w0 a w o d K:=
 ⟨v,w,g,_,_,p,h.tv_same d hd t v l m⟩
variable{x:Operand}{y:AG}
theorem da(p:AU F0 w0 O a w G)(hd:d<a.tmps.size)(g:o.op=.move x\/o.op=.assign x)(l:AN x y=true)(h:(AF.mv y).wp S O (some d) K):Ay P F0 w0 a w o d K:=by
 simp only[AF.wp]at h;have hv:(∃t,y.val O=some t/\K (.tv t) O)\/∃ts,y.ev O=.tp ts/\K (.tp ts) O:=by
  unfold AG.val;split at h<;>first|exact h.elim|(rename_i t he;exact .inl ⟨t,by rw[he];rfl,h⟩)|(rename_i t he;exact .inr ⟨t,he,h⟩)
 have m:(execOp a.eval o).run P w=.ok (.value (a.eval x)) w:=by rcases g with g|g<;>simp[execOp,g]
 rcases hv with⟨t,hv,C⟩|⟨ts,hv,C⟩
 .have:=Aw p l hv
  grind [CS]
 .cases y with
  |c t=>simp[AG.ev]at hv|s n=>
   have E:x=.tmp n:=by
    cases x<;>simp[AN]at l;rw[l]
   subst E;simp only[AG.ev]at hv;have A:=Ad p hv (by simp);have B:=p.wf n;rw[hv]at B;refine⟨_,w,m,_,_,C,⟨_,p.quiet (Below.refl _ _) d hd (.tp ts) _ (fun _=>none) (by simp) (by simp) (by simp) ?_ B⟩⟩;simp only[AP]at A|-;obtain⟨vs,I,J⟩:=A;refine⟨vs,I,Am (fun b o u D hf=>⟨D,fun r=>hf ?_⟩) _ _ J⟩;rcases r with q|⟨s,i,lo,q,L⟩
   .exact .inl q
   .by_cases H:s=d
    .grind[By]
    .rw[BG _ _ _ _ H]at q;exact .inr ⟨s,i,lo,q,L⟩
theorem jP(l:AU F0 w0 O a w G)(hd:d<a.tmps.size){c x x':Operand}{c' y y':AG}(m:o.op=.pick c x x')(r:AN c c'=true)(B:AN x y=true)(C:AN x' y'=true)
  (h:(AF.pick c' y y').wp S O (some d) K):Ay P F0 w0 a w o d K:=by
 simp only[AF.wp]at h;split at h
 .rename_i q u;have g:=(Aw l r u).1;simp only[Al]at g;have p:AN (if q then x else x') (if q then y else y')=true:=by cases q<;>assumption
  have hv:∃t,(if q then y else y').val O=some t/\K (.tv t) O:=by
   unfold AG.val;split at h<;>first|exact h.elim|(rename_i t he;exact⟨t,by rw[he];rfl,h⟩)
  obtain ⟨t,hv,A⟩:=hv;have:=Aw l p hv;refine CS l hd (v:=a.eval (if q then x else x')) ?_ this.1 this.2 A;cases q<;>simp[execOp,m,g,asBool]
 .exact h.elim
variable{t:TypeId}
theorem lv(m:AU F0 w0 O a w G)(hd:d<a.tmps.size)(g:o.op=.unOp .not t x)(l:AN x y=true)(h:(AF.not y).wp S O (some d) K):Ay P F0 w0 a w o d K:=by
 simp only[AF.wp]at h;split at h
 .rename_i b hv;have:=(Aw m l hv).1;simp only[Al]at this;exact CS m hd (v:=.bool !b) (t:=.bool !b) (by simp[execOp,g,this,Op.unary]) rfl trivial h
 .exact h.elim
theorem lr(m:AU F0 w0 O a w G)(hd:d<a.tmps.size)(g:o.op=.unOp .neg t x)(l:AN x y=true)(h:(AF.neg y).wp S O (some d) K):Ay P F0 w0 a w o d K:=by
 simp only[AF.wp]at h;split at h
 .rename_i k n hv;have:=(Aw m l hv).1;simp only[Al]at this;exact CS m hd (v:=.int k (k.wrap (-n))) (t:=.int k (k.wrap (-n))) (by simp[execOp,g,this,Op.unary,Op.intArith]) rfl (K4 k _) h
 .exact h.elim
theorem lR(m:AU F0 w0 O a w G)(hd:d<a.tmps.size){s t:TypeId}{k p:IntKind}(g:o.op=.convert s t x)(q:P.underlying s=some (.int p))(r:P.underlying t=some (.int k))(l:AN x y=true)(h:(AF.cvt k y).wp S O (some d) K):Ay P F0 w0 a w o d K:=by
 simp only[AF.wp]at h;split at h
 .rename_i u n hv;have:=(Aw m l hv).1;simp only[Al]at this;refine CS m hd (v:=.int k (k.wrap n)) (t:=.int k (k.wrap n)) ?_ rfl (K4 k _) h;simp[execOp,g,this,convert,run_underlying q,run_underlying r,Conv.intToInt]
 .exact h.elim
variable{f:FuncId}{ys:List AG}
theorem lM(m:AU F0 w0 O a w G)(hd:d<a.tmps.size){xs:Array Operand}(g:o.op=.makeFunc (.func f) #[] xs)(l:Ba xs.toList ys=true)(h:(AF.clo f ys).wp S O (some d) K):Ay P F0 w0 a w o d K:=by
 simp only[AF.wp]at h;cases hv:vals O ys with
 |none=>rw[hv]at h;exact h.elim|some ts=>
  rw [hv]at h;have:=F5 m l hv;refine CS m hd (v:=.func (.func f) #[] (xs.map a.eval)) (by simp[execOp,g,Instr.makeFunc]) ?_ (by simpa[TV.WF]using this.2) h;simp only[Al];exact⟨_,rfl,by simpa using this.1⟩
theorem lU(l:AU F0 w0 O a w G)(hd:d<a.tmps.size){s i:Nat}(m:o.op=.extract (.tmp s) i)(h:(AF.ext (.s s) i).wp S O (some d) K):Ay P F0 w0 a w o d K:=by
 simp only[AF.wp,AG.ev]at h;split at h
 .rename_i ts hv;cases g:ts[i]? with
  |none=>rw[g]at h;exact h.elim|some t=>
   rw [g]at h;have q:=Ad l hv (by simp);have r:=l.wf s;rw[hv]at r;simp only[AP]at q;obtain⟨vs,C,u⟩:=q;rw[BU]at u;have A:i<ts.length:=by
    grind
   have B:vs.toList[i]?=some (vs.toList[i]'(by omega)):=List.getElem?_eq_getElem (by omega);have p:vs[i]?=some (vs.toList[i]'(by omega)):=by simp
   refine CS l hd (v:=vs.toList[i]'(by omega)) ?_ (u.2 i t _ g B) ?_ h
   .simp[execOp,m,show a.eval (.tmp s)=slot a s from rfl,C,Instr.extract,p]
   .exact Bg.1 r t (List.mem_of_getElem? g)
 .exact h.elim
variable{e:TypeId}
theorem lf(m:AU F0 w0 O a w G)(hd:d<a.tmps.size)(g:o.op=.call {callee:=.builtin .len,args:=#[x],argTypes:=#[t]})(l:AN x y=true)
  (he:P.underlying t=some (.slice e))(h:(AF.len y).wp S O (some d) K):Ay P F0 w0 a w o d K:=by
 simp only[AF.wp]at h;split at h
 .rename_i n es hv;have:=Aw m l hv;simp only[Al,TV.WF,Ir]at this;obtain⟨⟨q,cap,p,_⟩,r⟩:=this;refine CS m hd (v:=.int .i64 es.length) (t:=.int .i64 es.length) ?_ rfl ⟨by simp only[IntKind.min,IntKind.signed,IntKind.bits,if_true];omega,by simp only[IntKind.max_i64];omega⟩ h;simp[execOp,g,resolve,invoke,builtin,Builtin.len_,run_underlying he,p,goInt]
 .exact h.elim
theorem jR(m:AU F0 w0 O a w G)(hd:d<a.tmps.size)(g:o.op=.call {callee:=.builtin .len,args:=#[x],argTypes:=#[t]})(l:AN x y=true)
  (he:P.underlying t=some .string)(h:(AF.AbH y).wp S O (some d) K):Ay P F0 w0 a w o d K:=by
 simp only[AF.wp]at h;split at h
 .rename_i s hv;have:=Aw m l hv;simp only[Al,TV.WF,Ir]at this;refine CS m hd (v:=.int .i64 s.size) (t:=.int .i64 s.size) ?_ rfl ⟨by simp only[IntKind.min,IntKind.signed,IntKind.bits,if_true];omega,by simp only[IntKind.max_i64];omega⟩ h;simp[execOp,g,resolve,invoke,builtin,Builtin.len_,run_underlying he,this.1,goInt]
 .exact h.elim
end
end Go.Sf
namespace Go.Sf
open Go.RowKit (Below)
section
variable{P:Program}{S:FuncId->Fq->Au->Prop}{F0:Nat->Nat->Prop}{w0:W0}{O:AB}{a:Act}{w:World}{G:BQ}{d:Nat}{o:Oper}{K:EV->AB->Prop}
variable{s:Nat}{ρ:HU}{c:AS}
theorem VW(g:AU F0 w0 O a w G){i:Option Nat}{x:Value}(h:BC w (AX w0.heap.size F0 G) ρ (G s i) c x):Al w (AX w0.heap.size F0 G) c.t x:=by
 obtain ⟨_|_,t⟩:=c
 .exact h.1
 .exact ED.rep h (fun b lo o l ho=>NU g b lo o l ho)
variable{z:Option (Nat×Nat)}
theorem UZ{F:Nat->Nat->Prop}{t:TV}{x:Value}(h:Bp w F z t x):x.oneCell'=true:=by
 cases t<;>simp only[Bp]at h;obtain⟨xs,l,_⟩:=h;rcases l.2 with⟨rfl,_⟩|⟨g,cap,m,e,rfl,_⟩<;>rfl
theorem kI{F:Nat->Nat->Prop}{es:Fq}{x:Value}(h:FC w F ρ z es x):x.oneCell'=true:=by
 obtain ⟨xs,⟨p,l,_⟩,_⟩:=h;rcases l.2 with⟨rfl,_⟩|⟨g,cap,m,e,rfl,_⟩<;>rfl
theorem NS{F:Nat->Nat->Prop}{t:TV}{x:Value}(h:ED w F ρ z t x):x.oneCell'=true:=by
 by_cases l:∃es,t=.xn es
 .obtain⟨es,rfl⟩:=l;exact kI h
 by_cases m:∃n es,t=.xl n es
 .obtain⟨n,es,rfl⟩:=m;simp only[ED,JK]at h;obtain⟨xs,⟨r,p,_⟩,_⟩:=h;rcases p.2 with⟨rfl,_⟩|⟨g,cap,q,e,rfl,_⟩<;>rfl
 .refine UZ (w:=w) (F:=F) (z:=z) (t:=t) ?_;cases t<;>first|exact h|exact absurd ⟨_,_,rfl⟩ m|exact absurd ⟨_,rfl⟩ l
theorem GR{F:Nat->Nat->Prop}{x:Value}(h:BC w F ρ z c x):x.oneCell'=true:=by
 obtain ⟨_|_,t⟩:=c
 .exact h.2
 .exact NS h
variable{x:Operand}{y:AG}
theorem QN(C:AU F0 w0 O a w G)(D:AN x y=true){cs:Fq}(g:A8 O (y.ev O)=some cs):
  ∃b o vs,a.eval x=.pointer (some ⟨b,o,none⟩)/\AT w (AX w0.heap.size F0 G) cs vs/\TV.x8 cs/\(∀x∈vs,x.oneCell'=true)/\∀(j:Nat)(v:Value),vs[j]?=some v->w.cell? ((⟨b,o,none⟩:Addr).add j)=some v:=by
 have box:∀(s h:Nat)(ds:List AS),O.get s=.bx ds->∃b vs,slot a s=.pointer (some ⟨b,0,none⟩)/\AT w (AX w0.heap.size F0 G) ((ds.drop h).map (·.t)) vs/\TV.x8 ((ds.drop h).map (·.t))/\(∀x∈vs,x.oneCell'=true)/\∀(j:Nat)(v:Value),vs[j]?=some v->w.cell? ((⟨b,h,none⟩:Addr).add j)=some v:=by
  intro s h ds M;have p:=Ad C M (by simp);have I:=C.wf s;rw[M]at I;simp only[AP]at p;obtain⟨b,c,T,r,u,E,B,A⟩:=p;refine⟨b,c.toList.drop h,r,?_,?_,?_,?_⟩
  .rw[BU];refine⟨by simp[E],fun i t v H hv=>?_⟩;simp only[List.getElem?_map,List.getElem?_drop,Option.map_eq_some_iff]at H hv;obtain⟨cell,l,rfl⟩:=H;obtain⟨x,N,p⟩:=A (h+i) cell l;have:x=v:=by
    grind
   subst this;exact VW C p
  .rw[Bg];intro t H;simp only[List.mem_map]at H;obtain⟨cell,l,rfl⟩:=H;exact I cell (List.mem_of_mem_drop l)
  .intro x N;obtain⟨i,hi,rfl⟩:=List.getElem_of_mem N;rw[List.getElem_drop];have R:h+i<c.size:=by simp at hi;omega
   have U:ds[h+i]?=some (ds[h+i]'(by omega)):=List.getElem?_eq_getElem (by omega)
   grind [Array.getElem?_eq_getElem,GR]
  .intro j v hv;rw[List.getElem?_drop]at hv;rw[Addr.add_lit,cell_of_row w b (h+j) c T (0,0) u];simpa using hv
 cases y with
 |c t=>
  simp only[AG.ev]at g;cases t<;>simp[A8]at g;subst g;have:=Aw C D (t:=.pt _) rfl;simp only[Al,TV.WF]at this;obtain⟨⟨b,o,r,u⟩,E⟩:=this;obtain⟨vs,B,J,A⟩:=SC u;exact⟨b,o,vs,r,B,E,J,A⟩
 |s n=>
  cases x<;>simp[AN]at D;subst D;rename_i n;simp only[AG.ev]at g;cases he:O.get n with
  |tv t=>
   rw [he]at g;cases t<;>simp[A8]at g;subst g;have p:=Ad C he (by simp);have I:=C.wf n;rw[he]at I;simp only[AP,Al]at p;obtain⟨b,o,r,u⟩:=p;obtain⟨vs,B,J,A⟩:=SC u;exact⟨b,o,vs,r,B,by simpa[EV.WF,TV.WF]using I,J,A⟩
  |bx ds=>
   rw [he]at g;simp only[A8,po]at g;subst g;obtain⟨b,vs,r,u,E,L,B⟩:=box n 0 ds he;exact⟨b,0,vs,r,by simpa using u,by simpa using E,L,B⟩
  |bp q h=>
   rw [he]at g;simp only[A8]at g;split at g
   .rename_i ds Q;simp only[po]at g;subst g;obtain⟨b,vs,r,u,E,L,B⟩:=box q h ds Q;have p:=Ad C he (by simp);simp only[AP]at p;obtain⟨V,A,J⟩:=p ⟨ds,Q⟩;rw[r]at A;simp only[Value.pointer.injEq,po,Addr.mk.injEq,and_true,and_self]at A;subst A;exact⟨b,h,vs,J,u,E,L,B⟩
   .cases g
  |undef=>rw[he]at g;simp[A8]at g|sk=>rw[he]at g;simp[A8]at g|xo n es=>rw[he]at g;simp[A8]at g|la q i=>rw[he]at g;simp[A8]at g|oag cs=>rw[he]at g;simp[A8]at g|xn es=>rw[he]at g;simp[A8]at g|x1 n W=>rw[he]at g;simp[A8]at g|mx m=>rw[he]at g;simp[A8]at g|nh q i k=>rw[he]at g;simp[A8]at g|lp q i c=>rw[he]at g;simp[A8]at g|ow t=>rw[he]at g;simp[A8]at g|tp ts=>rw[he]at g;simp[A8]at g
variable{t:TypeId}
theorem pA(p:AU F0 w0 O a w G)(hd:d<a.tmps.size)(g:o.op=.load t x)(l:AN x y=true)(B:B0 P t=some false)(h:(AF.ld y).wp S O (some d) K):Ay P F0 w0 a w o d K:=by
 simp only[AF.wp]at h;cases m:A8 O (y.ev O)with
 |none=>rw[m]at h;exact h.elim|some cs=>
  rw [m]at h;simp only[AZ]at h;obtain⟨b,C,vs,D,A,E,_,H⟩:=QN p l m;cases cs with
  |nil=>simp[F3]at h|cons u r=>
   simp only[F3]at h;replace h:=h.2;simp only[AT]at A;obtain⟨v,J,rfl,I,L⟩:=A;have q:=H 0 v rfl;rw[Addr.add_zero']at q;refine CS p hd (v:=v) ?_ I E.1 h;simp[execOp,g,D,Instr.loadAt,Instr.sureAddr,loadVar,CW B,q]
variable{n:Nat}
theorem bX(r:AU F0 w0 O a w G)(hd:d<a.tmps.size)(l:o.op=.load t x)(m:AN x y=true)(u:B0 P t=some true)(A:Cs P t=some n)(h:(AF.lda y n).wp S O (some d) K):Ay P F0 w0 a w o d K:=by
 simp only[AF.wp]at h;cases p:A8 O (y.ev O)with
 |none=>rw[p]at h;exact h.elim|some cs=>
  rw [p]at h;simp only[AZ]at h;obtain⟨b,q,vs,B,C,I,D,E⟩:=QN r m p;have H:=BD C;have g:=run_loadCells_list (P:=P) w ⟨b,q,none⟩ (vs.take n) (fun j v hv=>E j v (by rw[List.getElem?_take]at hv;split at hv<;>simp_all));rw[cE,Nat.min_eq_left (by omega)]at g;refine CS r hd (v:=.agg (vs.take n).toArray) (t:=.agg (cs.take n)) ?_ ?_ ?_ h.2
  .simp[execOp,l,B,Instr.loadAt,Instr.sureAddr,loadVar,CW u,B1 A,g]
  .grind[Al,List.all_eq_true,List.mem_of_mem_take,BU]
  grind [TV.WF,Bg,List.mem_of_mem_take]
variable{i:Operand}{j:AG}
theorem lV(l:AU F0 w0 O a w G)(hd:d<a.tmps.size)(q:o.op=.indexAddr t x i)(r:AN x y=true)(g:AN i j=true)(A:IZ P t=some n)(h:(AF.iad y j n).wp S O (some d) K):Ay P F0 w0 a w o d K:=by
 simp only[AF.wp]at h;split at h
 .rename_i m es k L B C;obtain⟨rfl,E,e,he,H⟩:=h;have D:=Aw l r B;have u:=Aw l g C;simp only[Al]at u;obtain⟨p,I,J⟩:=fL (P:=P) (k:=k) A D.1 E he;refine CS l hd (v:=p) (by simp[execOp,q,u.1,I]) J ?_ H
  grind [TV.WF,Bg,List.mem_of_getElem?,HN]
 .exact h.elim
theorem jQ(l:AU F0 w0 O a w G)(hd:d<a.tmps.size)(m:o.op=.index t x i)(p:AN x y=true)(g:AN i j=true)(u:P.underlying t=some .string)(h:(AF.AaC y j).wp S O (some d) K):Ay P F0 w0 a w o d K:=by
 simp only[AF.wp]at h;split at h
 .rename_i s k H A B;obtain⟨C,b,D,E⟩:=h;have q:=Aw l p A;have r:=Aw l g B;simp only[Al]at q r;refine CS l hd (v:=.int .u8 b.toNat) (t:=.int .u8 b.toNat) ?_ rfl ⟨by simp[IntKind.min,IntKind.signed],?_⟩ E
  .simp[execOp,m,q.1,r.1,Instr.index,asIntOf,run_underlying u,C,D]
  .have:=b.toNat_lt;simp[IntKind.max,IntKind.signed,IntKind.bits];omega
 .exact h.elim
theorem cj{f k:Nat}(l:o.op=.fieldAddr t x f)(m:PT P t f=some k):∀b g,a.eval x=.pointer (some ⟨b,g,none⟩)->(execOp a.eval o).run P w=.ok (.value (.pointer (some ⟨b,g+k,none⟩))) w:=by
 intro b g h;simp[execOp,l,h,Tg m]
theorem PE(g:o.op=.move x\/o.op=.assign x\/o.op=.nilCheck x):∀b l,a.eval x=.pointer (some ⟨b,l,none⟩)->(execOp a.eval o).run P w=.ok (.value (.pointer (some ⟨b,l+0,none⟩))) w:=by
 intro b l h;rcases g with g|g|g<;>simp[execOp,g,h]
variable{k:Nat}
theorem SG(p:AU F0 w0 O a w G)(hd:d<a.tmps.size)(l:∀b g,a.eval x=.pointer (some ⟨b,g,none⟩)->(execOp a.eval o).run P w=.ok (.value (.pointer (some ⟨b,g+k,none⟩))) w)(m:AN x y=true)(h:(AF.fad y k).wp S O (some d) K):Ay P F0 w0 a w o d K:=by
 simp only[AF.wp]at h;split at h
 .rename_i row he;have u:=Wo p m he;simp only[Al,TV.WF]at u;obtain⟨⟨b,g,C,D⟩,H⟩:=u;refine CS p hd (v:=.pointer (some ⟨b,g+k,none⟩)) (t:=.pt (row.drop k)) (l _ _ C) ?_ ?_ h
  .simp only[Al];exact⟨b,_,rfl,Nz D k⟩
  grind [TV.WF,Bg,List.mem_of_mem_drop]
 .rename_i q g he;cases y with
  |c t=>simp[AG.ev]at he|s n=>
   cases x<;>simp[AN]at m;subst m;rename_i n;simp only[AG.ev]at he;have A:=Ad p he (by simp);simp only[AP]at A;split at h
   .rename_i r B;obtain⟨b,I,E⟩:=A ⟨r,B⟩;refine⟨.pointer (some ⟨b,g+k,none⟩),w,l _ _ E,_,_,h,_,p.quiet (Below.refl _ _) d hd (.bp q (g+k)) _ (fun _=>none) (by simp) (by simp) (by simp) ?_ trivial⟩
    grind [AP,AB.ea,AY]
   .exact h.elim
 .exact h.elim
theorem Pn(m:AU F0 w0 O a w G)(hd:d<a.tmps.size)(l:∀b g,a.eval (.tmp s)=.pointer (some ⟨b,g,none⟩)->(execOp a.eval o).run P w=.ok (.value (.pointer (some ⟨b,g+k,none⟩))) w)(h:(AF.bad s k).wp S O (some d) K):Ay P F0 w0 a w o d K:=by
 simp only[AF.wp]at h;split at h
 .rename_i cs he;have q:=Ad m he (by simp);simp only[AP]at q;obtain⟨b,c,T,p,_⟩:=q;refine⟨.pointer (some ⟨b,0+k,none⟩),w,l _ _ p,_,_,h,_,m.quiet (Below.refl _ _) d hd (.bp s k) _ (fun _=>none) (by simp) (by simp) (by simp) ?_ trivial⟩
  grind [AP,AB.ea,AY]
 .rename_i row he;have p:=Wo m (x:=.tmp s) (y:=.s s) (by simp[AN]) he;simp only[Al,TV.WF]at p;obtain⟨⟨b,g,r,u⟩,A⟩:=p;refine CS m hd (v:=.pointer (some ⟨b,g+k,none⟩)) (t:=.pt (row.drop k)) (l _ _ r) ?_ ?_ h
  .simp only[Al];exact⟨b,_,rfl,Nz u k⟩
  grind [TV.WF,Bg,List.mem_of_mem_drop]
 .exact h.elim
variable{e:TypeId}
theorem lG(p:AU F0 w0 O a w G)(hd:d<a.tmps.size)(q:o.op=.indexAddr t x i)(r:AN x y=true)(l:AN i j=true)(u:P.underlying t=some (.array k e))(D:Cs P e=some n)
  (h:(AF.aad y j n k).wp S O (some d) K):Ay P F0 w0 a w o d K:=by
 simp only[AF.wp]at h;split at h
 .rename_i row Q m E A;obtain⟨I,J,R,L⟩:=h;have B:=(Aw p l A).1;simp only[Al]at B;have H:∃b g,a.eval x=.pointer (some ⟨b,g,none⟩)/\DA w (AX w0.heap.size F0 G) row b g/\TV.x8 row:=by
   have:=Wo p r E
   grind [Al,TV.WF]
  obtain ⟨b,g,M,N,C⟩:=H;have A:0<=m/\m<(k:Int):=⟨I,J⟩;refine CS p hd (v:=.pointer (some ⟨b,g+m.toNat*n,none⟩)) (t:=.pt (row.drop (m.toNat*n))) ?_ ?_ ?_ L
  .simp[execOp,q,B,M,Instr.indexAt,asIntOf,run_underlying u,A,Instr.sureAddr,B1 D,Addr.add_lit]
  .simp only[Al];exact⟨b,_,rfl,Nz N _⟩
  .simp only[TV.WF];rw[Bg]at C|-;exact fun t u=>C t (List.mem_of_mem_drop u)
 .exact h.elim
def ee(P:Program)(t:TypeId)(j:Operand)(k:Nat):Bool:=
 match j,P.underlying t with
 |.const (.int _ i),some (.array m e)=>decide (0<=i)&&decide (i<(m:Int))&&(match Cs P e with
  |some n=>i.toNat*n==k|none=>false)
 |_,_=>false
theorem nM{P:Program}{o:Oper}{a:Act}{w:World}{j:Operand}(q:o.op=.indexAddr t (.tmp s) j)(g:ee P t j k=true)(b l:Nat)(h:a.eval (.tmp s)=.pointer (some ⟨b,l,none⟩)):(execOp a.eval o).run P w=.ok (.value (.pointer (some ⟨b,l+k,none⟩))) w:=by
 unfold ee at g;split at g
 .rename_i r i m e u;simp only[pq,zzX]at g;obtain⟨⟨D,E⟩,p⟩:=g;split at p
  .rename_i n A;simp only[beq_iff_eq]at p;subst p;have B:0<=i/\i<(m:Int):=⟨D,E⟩;have C:a.eval (.const (.int r i))=.int r i:=rfl;simp[execOp,q,h,C,Instr.indexAt,asIntOf,run_underlying u,B,Instr.sureAddr,B1 A,Addr.add_lit]
  .cases p
 .cases g
def S8(g:TypeId->Option Ne)(P:Program):List Field->Nat->Option Ne
 |[],_=>some []|f::fs,off=>match g f.type with
  |some ks=>if(f.name≠ "_" /\f.offset=off)/\Cs P f.type=some ks.length then(match S8 g P fs (off+ks.length)with|some r=>some (ks ++ r)|none=>none)else none
  |none=>none
def On(P:Program):Nat->TypeId->Option Ne
 |0,_=>none|k+1,t=>match P.underlying t with
  |some (.int _)=>some [0]|some .string=>some [1]|some .bool=>some [2]|some (.struct fs)=>if P.stoodInHeld t then none else S8 (On P k) P fs.toList 0|_=>none
def Mi(P:Program):BK->TypeId->Bool
 |.i,_=>true|.s,_=>true|.w,_=>true|.b,t=>match P.underlying t with|some .bool=>true|_=>false
 |.a n,t=>B0 P t==some true&&!P.eqGuardType P.depth t&&On P 8 t==some n
def TV.Aak:TV->Value
 |.int k n=>.int k n|.str s=>.string s|.bool b=>.bool b|_=>Go.undef
def TV.Aa5:TV->Bool
 |.int _ _=>true|.str _=>true|.bool _=>true|_=>false
theorem Qy:∀{cs ds:Fq}{r:Bool},B7 cs ds=some r->cs.length=ds.length/\(∀t∈cs,t.Aa5=true)/\(∀t∈ds,t.Aa5=true)
 |[],[],_,_=>by simp|[],_::_,_,h=>by simp[B7]at h|c::cs,[],_,h=>by cases c<;>simp[B7]at h
 |c::cs,d::ds,r,h=>by
  have key:∀l,B7 cs ds=some l->c.Aa5=true->d.Aa5=true->(c::cs).length=(d::ds).length/\(∀t∈c::cs,t.Aa5=true)/\(∀t∈d::ds,t.Aa5=true):=by
   intro l g m p;obtain⟨u,A,B⟩:=Qy g
   grind
  cases c<;>cases d<;>simp only[B7,reduceCtorEq]at h
  .split at h
   .split at h
    .rename_i q g;exact key q g rfl rfl
    .cases h
   .cases h
  .split at h
   .rename_i q g;exact key q g rfl rfl
   .cases h
  .split at h
   .rename_i q g;exact key q g rfl rfl
   .cases h
variable{v:Value}
theorem ki{F:Nat->Nat->Prop}{t:TV}(g:t.Aa5=true)(h:Al w F t v):v=t.Aak:=by
 cases t<;>simp only[TV.Aa5,reduceCtorEq]at g<;>exact h
theorem Q0{F:Nat->Nat->Prop}:∀{cs:Fq}{xs:List Value},(∀t∈cs,t.Aa5=true)->AT w F cs xs->xs=cs.map TV.Aak
 |[],_,_,h=>h|c::cs,xs,g,h=>by
  simp only[AT]at h;obtain⟨v,r,rfl,m,p⟩:=h;rw[ki (g c (by simp)) m,Q0 (fun t l=>g t (by simp[l])) p];rfl
theorem MV:∀(m:Nat){cs ds:Fq}{r:Bool},B7 cs ds=some r->∃g l,B7 (cs.take m) (ds.take m)=some g/\B7 (cs.drop m) (ds.drop m)=some l/\r=(g&&l)
 |0,cs,ds,r,h=>⟨true,r,by simp[B7],by simpa using h,by simp⟩|m+1,[],[],r,h=>by
  grind
 |m+1,[],_::_,_,h=>by simp[B7]at h|m+1,c::cs,[],_,h=>by cases c<;>simp[B7]at h
 |m+1,c::cs,d::ds,r,h=>by
  cases c<;>cases d<;>simp only[B7,reduceCtorEq]at h
  .split at h
   .rename_i C;split at h
    .rename_i q p;obtain⟨g,l,u,A,B⟩:=MV m p
     grind [po,B7,Bool.and_assoc]
    .cases h
   .cases h
  .split at h
   .rename_i q p;obtain⟨g,l,u,A,B⟩:=MV m p
    grind [po,B7,Bool.and_assoc]
   .cases h
  .split at h
   .rename_i q p;obtain⟨g,l,u,A,B⟩:=MV m p
    grind [po,B7,Bool.and_assoc]
   .cases h
def Lt(P:Program)(t:TypeId)(vs:List Value):Value:=if B0 P t=some true then .agg vs.toArray else vs.headD Go.undef
theorem QU:∀{cs ds:Fq}{r:Bool},B7 cs ds=some r->ds.map TV.kd=cs.map TV.kd
 |[],[],_,_=>rfl|[],_::_,_,h=>by simp[B7]at h|c::cs,[],_,h=>by cases c<;>simp[B7]at h
 |c::cs,d::ds,r,h=>by
  cases c<;>cases d<;>simp only[B7,reduceCtorEq]at h
  .split at h
   .split at h
    .rename_i q g;simp only[List.map_cons,QU g,TV.kd]
    .cases h
   .cases h
  .split at h
   .rename_i q g;simp only[List.map_cons,QU g,TV.kd]
   .cases h
  .split at h
   .rename_i q g;simp only[List.map_cons,QU g,TV.kd]
   .cases h
theorem X3(k:Nat)(T:∀(t:TypeId)(n:Ne),On P k t=some n->∀d,k<=d->∀(cs ds:Fq)(r:Bool),cs.map TV.kd=n->B7 cs ds=some r->(Op.equalIn d t (Lt P t (cs.map TV.Aak)) (Lt P t (ds.map TV.Aak))).run P w=.ok r w):
  ∀(H:List Field)(p:Nat)(n:Ne),S8 (On P k) P H p=some n->∀d,k<=d->∀(g m:List Value)(cs ds:Fq)(r:Bool),g.length=p->m.length=p->cs.map TV.kd=n->B7 cs ds=some r ->
   (Op.eqFields d (g++cs.map TV.Aak).toArray (m++ds.map TV.Aak).toArray H).run P w=.ok r w
 |[],p,n,hf,d,hd,g,m,cs,ds,r,X,Y,E,h=>by
  simp only[S8,po]at hf;subst hf;have:cs=[]:=List.map_eq_nil_iff.1 E;subst this;cases ds<;>simp[B7]at h;subst h;simp[Op.eqFields]
 |f::H,p,n,hf,d,hd,g,m,cs,ds,r,X,Y,E,h=>by
  simp only[S8]at hf;split at hf
  .rename_i l u;split at hf
   .rename_i Z;split at hf
    .rename_i rest D;simp only[po]at hf;subst hf;obtain⟨⟨hn,ho⟩,Q⟩:=Z;have hcl:cs.length=l.length+rest.length:=by
      have:=congrArg List.length E;simpa using this
     obtain ⟨W,r2,e1,e2,rfl⟩:=MV l.length h;have V:=(Qy h).1;have hdl:ds.length=l.length+rest.length:=by omega
     have M:(cs.take l.length).map TV.kd=l:=by rw[List.map_take,E,List.take_left'];rfl
     have N:(cs.drop l.length).map TV.kd=rest:=by rw[List.map_drop,E,List.drop_left'];rfl
     have hi:=T f.type l u d hd (cs.take l.length) (ds.take l.length) W M e1;have C:=X3 k T H (p+l.length) rest D d hd (g++(cs.take l.length).map TV.Aak) (m++(ds.take l.length).map TV.Aak) (cs.drop l.length) (ds.drop l.length) r2 (by simp;omega) (by simp;omega) N e2;have A:∀(g:List Value)(cs:Fq),g++(cs.take l.length).map TV.Aak++(cs.drop l.length).map TV.Aak=g++cs.map TV.Aak:=by
      intro g cs;rw[ci,<-List.map_append,List.take_append_drop]
     rw [A,A]at C;have B:∀(g:List Value)(cs:Fq),g.length=p->l.length<=cs.length->(0<l.length\/B0 P f.type=some true)->(∃b,B0 P f.type=some b)->(part f.type (g++cs.map TV.Aak).toArray f.offset).run P w=.ok (Lt P f.type ((cs.take l.length).map TV.Aak)) w:=by
      intro g cs U J L q;obtain⟨b,q⟩:=q;cases b with
      |true=>
       simp only[part,Sem.run_bind,CW q,Result.andThen_ok,if_true,B1 Q,Sem.run_pure,Lt,q];congr 2;rw[List.extract_toArray,List.extract_eq_take_drop,ho,<-U,List.drop_left,Nat.add_sub_cancel_left,<-List.map_take]
      |false=>
       have h0:0<l.length:=by
        rcases L with h|h
        .exact h
        .rw[q]at h;cases h
       cases cs with
       |nil=>exact absurd (Nat.lt_of_lt_of_le h0 J) (by simp)|cons c cs=>
        obtain ⟨m',R⟩:∃m',l.length=m'+1:=⟨l.length-1,by omega⟩;have:((g++(c::cs).map TV.Aak).toArray)[f.offset]?=some c.Aak:=by
         rw [List.getElem?_toArray,ho,<-U,List.getElem?_append_right (az _),Nat.sub_self];rfl
        simp only[part,Sem.run_bind,CW q,Result.andThen_ok,Bool.false_eq_true,if_false,this,Sem.run_pure,Lt,q,R];simp
     have q:(∃b,B0 P f.type=some b)/\(0<l.length\/B0 P f.type=some true):=by
      cases k with
      |zero=>simp[On]at u|succ k=>
       simp only[On]at u;unfold B0;split at u<;>rename_i I
       .simp only[po]at u;subst u;rw[I];exact⟨⟨_,rfl⟩,.inl (by simp)⟩
       .simp only[po]at u;subst u;rw[I];exact⟨⟨_,rfl⟩,.inl (by simp)⟩
       .simp only[po]at u;subst u;rw[I];exact⟨⟨_,rfl⟩,.inl (by simp)⟩
       .rw[I];exact⟨⟨_,rfl⟩,.inr rfl⟩
       .cases u
     have p1:=B g cs X (by omega) q.2 q.1;have p2:=B m ds Y (by omega) q.2 q.1;simp only[Op.eqFields,Sem.run_bind,Sem.run_ite,a6 hn,p1,p2,hi,Result.andThen_ok];cases W with
     |true=>simpa using C|false=>simp
    .cases hf
   .cases hf
  .cases hf
theorem gF(a b:ByteArray):(a.toList==b.toList)=decide (a=b):=by
 rw [Bool.eq_iff_iff,beq_iff_eq,zzX];refine⟨fun h=>?_,fun h=>by rw[h]⟩;rw[ByteArray.toList_eq,ByteArray.toList_eq]at h;cases a;cases b;simpa using h
theorem cf:∀(k:Nat)(t:TypeId)(n:Ne),On P k t=some n->∀d,k<=d->∀(cs ds:Fq)(r:Bool),cs.map TV.kd=n->B7 cs ds=some r->(Op.equalIn d t (Lt P t (cs.map TV.Aak)) (Lt P t (ds.map TV.Aak))).run P w=.ok r w
 |0,_,_,h,_,_,_,_,_,_,_=>by simp[On]at h|k+1,t,n,hf,d,hd,cs,ds,r,E,h=>by
  obtain ⟨d,rfl⟩:∃I,d=I+1:=⟨d-1,by omega⟩;have C:=QU h;simp only[On]at hf;have one:∀x,n=[x]->B0 P t=some false->∃c e,cs=[c]/\ds=[e]/\c.kd=x/\e.kd=x/\Lt P t (cs.map TV.Aak)=c.Aak/\Lt P t (ds.map TV.Aak)=e.Aak:=by
   intro x J N;rw[J]at E
   match cs,ds,E,C with
   |[c],[e],A,B=>
    grind [List.cons.injEq,Lt]
   |[],_,A,_=>simp at A|[c],[],_,B=>simp at B|[c],_::_::_,_,B=>simp at B|_::_::_,_,A,_=>simp at A
  split at hf<;>rename_i g
  .simp only[po]at hf;obtain⟨c,e,rfl,rfl,m,p,q,u⟩:=one 0 hf.symm (by simp[B0,g]);rw[q,u];cases c<;>first|(simp[TV.kd]at m;done)|skip
   cases e<;>first|(simp[TV.kd]at p;done)|skip
   simp only[B7]at h;split at h
   .rename_i L;subst L;simp only[po,Bool.and_true]at h;simp only[TV.Aak];rw[run_equalIn_int (P:=P) w d t _ _ _ _ g,<-h];congr 1
   .cases h
  .simp only[po]at hf;obtain⟨c,e,rfl,rfl,m,p,q,u⟩:=one 1 hf.symm (by simp[B0,g]);rw[q,u];cases c<;>first|(simp[TV.kd]at m;done)|skip
   cases e<;>first|(simp[TV.kd]at p;done)|skip
   simp only[B7,po,Bool.and_true]at h;simp only[TV.Aak];rw[run_equalIn_string (P:=P) w d t _ _ g,<-h]
   grind [gF]
  .simp only[po]at hf;obtain⟨c,e,rfl,rfl,m,p,q,u⟩:=one 2 hf.symm (by simp[B0,g]);rw[q,u];cases c<;>first|(simp[TV.kd]at m;done)|skip
   cases e<;>first|(simp[TV.kd]at p;done)|skip
   simp only[B7,po,Bool.and_true]at h;simp only[TV.Aak];rw[run_equalIn_bool' (P:=P) w d t _ _ g,<-h];congr 1
  .split at hf
   .cases hf
   .rename_i H M;have D:B0 P t=some true:=by simp[B0,g]
    have l:P.fieldsOf t=H:=by simp[Program.fieldsOf,g]
    simp only[Lt,D,if_true];rw[run_equalIn_struct w d t _ _ (by rw[l];exact g) (by simpa using M),l];exact X3 k (cf k) H.toList 0 n hf d (by omega) [] [] cs ds r rfl rfl E h
  .cases hf
variable{vx vy:Value}
theorem Vp{op:BinOp}{x y:Operand}{cs ds:Fq}{q:Bool}{n:Ne}(D:cs.map TV.kd=n){F:Nat->Nat->Prop}(u:Mi P (.a n) t=true)(g:Al w F (.agg cs) vx)(h:Al w F (.agg ds) vy)(A:B7 cs ds=some q):
  ∃xs ys,vx=.agg xs/\vy=.agg ys/\(eqGuard op t x y (.agg xs) (.agg ys)).run P w=.ok () w/\(Op.equalIn 10000 t (.agg xs) (.agg ys)).run P w=.ok q w:=by
 simp only[Al]at g h;obtain⟨xs,rfl,g,_⟩:=g;obtain⟨ys,rfl,h,_⟩:=h;simp only[Mi,pq,Bool.not_eq_true']at u;obtain⟨⟨B,E⟩,C⟩:=u;obtain⟨H,p,r⟩:=Qy A;refine⟨xs,ys,rfl,rfl,run_eqGuard_agg w op t x y xs ys E,?_⟩;simp only[beq_iff_eq]at B C;have l:=Q0 p g;have m:=Q0 r h;have:=cf (P:=P) (w:=w) 8 t n C 10000 (by omega) cs ds q D A;simp only[Lt,B,if_true,<-l,<-m]at this;simpa using this
theorem oe{op:BinOp}{x y:Operand}{k m:IntKind}{a b r:Int}{F:Nat->Nat->Prop}(p:k=m\/op=.shl\/op=.shr)(l:LC k op a b=some r):
  ∃v,(do eqGuard op t x y (.int k a) (.int m b);binOp op t (.int k a) (.int m b):Sem Value).run P w=.ok v w/\Al w F (.int k r) v/\(TV.int k r).WF:=by
 have g:∀(op:BinOp)(q:Value),k=m->(op=.and\/op=.or\/op=.xor\/op=.andNot)->(Op.intBits op k a b).run P w=.ok q w->(do eqGuard op t x y (.int k a) (.int m b);binOp op t (.int k a) (.int m b):Sem Value).run P w=.ok q w:=by
  intro op q e ho h;subst e;rcases ho with rfl|rfl|rfl|rfl<;>simpa[eqGuard,binOp]using h
 cases op<;>simp only[LC]at l<;>try(cases l;done)
 case and=>cases l;exact⟨_,g _ _ (by simpa using p) (by simp) rfl,rfl,K4 _ _⟩
 case or=>cases l;exact⟨_,g _ _ (by simpa using p) (by simp) rfl,rfl,K4 _ _⟩
 case xor=>cases l;exact⟨_,g _ _ (by simpa using p) (by simp) rfl,rfl,K4 _ _⟩
 case andNot=>cases l;exact⟨_,g _ _ (by simpa using p) (by simp) rfl,rfl,K4 _ _⟩
 case shl=>
  split at l
  .rename_i u;cases l;exact⟨_,by simp[eqGuard,binOp,Op.shift,Int.not_lt.2 u],rfl,K4 _ _⟩
  .cases l
 case shr=>
  split at l
  .rename_i u;cases l;exact⟨_,by simp[eqGuard,binOp,Op.shift,Int.not_lt.2 u.1],rfl,u.2⟩
  .cases l
theorem od{k:BK}{op:BinOp}{x y:Operand}{E ty r:TV}{F:Nat->Nat->Prop}(N:Mi P k t=true)(g:EL k op E ty=some r)(l:Al w F E vx)(m:Al w F ty vy)(H:E.WF)(Q:ty.WF):
  ∃v,(do eqGuard op t x y vx vy;binOp op t vx vy:Sem Value).run P w=.ok v w/\Al w F r v/\r.WF:=by
 unfold EL at g;split at g
 .rename_i k a R b;simp only[Al]at l m;subst l;subst m;split at g
  .rename_i p;subst p;rw[Sem.run_bind,eqGuard_at_int,Sem.run_pure,Result.andThen_ok];have B:op=.quo\/op=.rem\/(op≠.quo/\op≠.rem):=by cases op<;>simp
   rcases B with rfl|rfl|⟨u,V⟩
   .by_cases A:b=0
    .simp[intCmp,intArith,A]at g
    .simp[intCmp,intArith,A]at g;subst g;exact⟨_,by simp[binOp,Op.intDiv,A],rfl,K4 _ _⟩
   .by_cases A:b=0
    .simp[intCmp,intArith,A]at g
    .simp[intCmp,intArith,A]at g;subst g;refine⟨_,by simp[binOp,Op.intDiv,A],rfl,?_⟩;simp only[TV.WF]at H|-;have C:a.tmod b<=max a 0/\min a 0<=a.tmod b:=by
      have D:=Int.natAbs_tmod a b;have X:=Nat.mod_le a.natAbs b.natAbs;rcases Int.le_total 0 a with h|h
      .grind[Int.tmod_nonneg]
      .have Y:=Int.tmod_nonneg (a:=-a) b (by omega)
       grind [Int.neg_tmod]
     have Z:k.min<=0:=by cases k<;>decide
     have h5:0<=k.max:=by cases k<;>decide
     omega
   .cases op<;>simp[intCmp,intArith]at g u V<;>subst g<;>(refine⟨_,?_,rfl,?_⟩)<;>first|(simp[binOp,Op.intCmp,Op.intArith];done)|exact trivial|exact K4 _ _|skip
    all_goals (simp[binOp,Op.intCmp];rw[Bool.eq_iff_iff];simp)
  .cases g
 .rename_i op k a R b;simp only[Al]at l m;subst l;subst m;split at g
  .rename_i p;split at g
   .rename_i W u;simp only[po]at g;subst g;exact oe p u
   .cases g
  .cases g
 .simp only[Al]at l m;subst l;subst m;simp only[po]at g;subst g;exact⟨_,by simp[eqGuard,binOp,Op.stringOp,beq_toListBytes],rfl,trivial⟩
 .simp only[Al]at l m;subst l;subst m;simp only[po]at g;subst g;exact⟨_,by simp[eqGuard,binOp,Op.stringOp,beq_toListBytes],rfl,trivial⟩
 .simp only[Al]at l m;subst l;subst m;rename_i T U;split at g
  .rename_i I;simp only[po]at g;subst g;have L:¬(((T.size+U.size:Nat):Int)>IntKind.i64.max):=by
    have hm:IntKind.i64.max=9223372036854775807:=by decide
    grind [Ah]
   refine ⟨_,by simp only[eqGuard,binOp,Op.stringOp];rw[ae L];simp,rfl,by simp only[TV.WF,ByteArray.size_append];exact TL I⟩
  .cases g
 .simp only[Al]at l m;subst l;subst m;simp only[po]at g;subst g;have M:P.underlying t=some .bool:=by
   grind [Mi]
  exact ⟨_,by simp[eqGuard_at_bool,binOp,Op.equal,Op.maxDepth,run_equalIn_bool' (P:=P) w _ t _ _ M],rfl,trivial⟩
 .simp only[Al]at l m;subst l;subst m;simp only[po]at g;subst g;have M:P.underlying t=some .bool:=by
   grind [Mi]
  exact ⟨_,by simp[eqGuard_at_bool,binOp,Op.equal,Op.maxDepth,run_equalIn_bool' (P:=P) w _ t _ _ M],rfl,trivial⟩
 .rename_i cs ds;split at g
  .rename_i J;split at g
   .rename_i q u;simp only[po]at g;subst g;obtain⟨xs,ys,rfl,rfl,C,D⟩:=Vp (op:=.eql) (x:=x) (y:=y) J N l m u;exact⟨_,by simp only[Sem.run_bind,C,Result.andThen_ok,run_eql_struct,D],rfl,trivial⟩
   .cases g
  .cases g
 .rename_i cs ds;split at g
  .rename_i J;split at g
   .rename_i q u;simp only[po]at g;subst g;obtain⟨xs,ys,rfl,rfl,C,D⟩:=Vp (op:=.neq) (x:=x) (y:=y) J N l m u;exact⟨_,by simp only[Sem.run_bind,C,Result.andThen_ok,run_neq_struct,D],rfl,trivial⟩
   .cases g
  .cases g
 .cases g
variable{y':AG}
theorem lK{S:FuncId->Fq->Au->Prop}{F0:Nat->Nat->Prop}{w0:W0}{O:AB}{a:Act}{G:BQ}{d:Nat}{o:Oper}{K:EV->AB->Prop}(g:AU F0 w0 O a w G)(hd:d<a.tmps.size){x x':Operand}{k:BK}{op:BinOp}{t A:TypeId}
  (l:o.op=.binOp op t x x' A)(B:Mi P k t=true)(C:AN x y=true)(D:AN x' y'=true)(h:(AF.bin k op y y').wp S O (some d) K):Ay P F0 w0 a w o d K:=by
 simp only[AF.wp]at h;split at h
 .rename_i E ty H I;cases m:EL k op E ty with
  |none=>rw[m]at h;exact h.elim|some r=>
   rw [m]at h;have p:=Aw g C H;have q:=Aw g D I;obtain⟨v,u,J,L⟩:=od (x:=x) (y:=x') B m p.1 q.1 p.2 q.2;refine CS g hd (v:=v) ?_ J L h;simp only[execOp,l,Sem.run_bind]at u|-;rw[u];rfl
 .exact h.elim
end
end Go.Sf
namespace Go.Sf
open Go.RowKit (Below)
def Mk:Option Operand->Option AG->Bool
 |none,none=>true|some x,some y=>AN x y|_,_=>false
section
variable{P:Program}{S:FuncId->Fq->Au->Prop}{F0:Nat->Nat->Prop}{w0:W0}{O:AB}{a:Act}{w:World}{G:BQ}{d:Nat}{o:Oper}{K:EV->AB->Prop}
theorem UQ(h:AU F0 w0 O a w G){x:Option Operand}{y:Option AG}(g:Mk x y=true){k:IntKind}{q l:Int}(hv:FG O q y=some (.int k l)):
  (x=none/\l=q)\/∃v m,x=some v/\a.eval v=.int m l:=by
 cases y with
 |none=>
  cases x<;>simp[Mk]at g;simp[FG]at hv;exact .inl ⟨rfl,hv.2.symm⟩
 |some y=>
  cases x<;>simp[Mk]at g;rename_i v;have:=(Aw h g (t:=.int k l) hv).1;simp only[Al]at this;exact .inr ⟨v,k,rfl,this⟩
theorem SD{isS:Bool}{len cap:Nat}{lo hi:Option Value}{l h:Int}(q:0<=l)(r:l<=h)(u:h<=len)(A:len<=cap)
  (g:(lo=none/\l=0)\/∃k,lo=some (.int k l))(m:(hi=none/\h=len)\/∃k,hi=some (.int k h)):
  (Instr.sliceBounds isS len cap lo hi none).run P w=.ok (l.toNat,h.toNat,cap) w:=by
 rcases g with⟨rfl,rfl⟩|⟨k,rfl⟩<;>rcases m with⟨rfl,rfl⟩|⟨p,rfl⟩
 .simp[Instr.sliceBounds]
 .simp[Instr.sliceBounds,run_sliceBound (P:=P) w p h cap _ (by omega) (by omega)]
 .simp[Instr.sliceBounds,run_sliceBound (P:=P) w k l len _ (by omega) (by omega)]
 .simp[Instr.sliceBounds,run_sliceBound (P:=P) w p h cap _ (by omega) (by omega),run_sliceBound (P:=P) w k l h.toNat _ (by omega) (by omega)]
variable{x:Operand}{y:AG}{lo' hi':Option AG}{t:TypeId}{n:Nat}
theorem ly(H:AU F0 w0 O a w G)(hd:d<a.tmps.size){lo hi:Option Operand}(I:o.op=.slice t x lo hi none)(J:AN x y=true)(T:Mk lo lo'=true)(hh:Mk hi hi'=true)
  (A:IZ P t=some n)(h:(AF.slc n y lo' hi').wp S O (some d) K):Ay P F0 w0 a w o d K:=by
 simp only[AF.wp]at h;split at h
 .rename_i m es hv;split at h
  .rename_i k1 l k2 C V W;obtain⟨⟨hm,h0,h1⟩,h2,hK⟩:=h;subst hm;have M:=Aw H J hv;simp only[Al]at M;obtain⟨⟨r,cap,h4,h5,Q,h7⟩,R⟩:=M;have Z:=UQ H T V;have b2:=UQ H hh W;unfold IZ at A;split at A
   .rename_i e X;have D:=SD (P:=P) (w:=w) (isS:=true) (lo:=lo.map a.eval) (hi:=hi.map a.eval) h0 h1 h2 h5
     (by rcases Z with⟨rfl,rfl⟩|⟨v,k',rfl,hv⟩<;>simp[*]) (by rcases b2 with⟨rfl,rfl⟩|⟨v,k',rfl,hv⟩<;>simp[*])
    refine CS H hd (v:=.slice (if cap=l.toNat then r else r.map (·.add (l.toNat*m))) (C.toNat-l.toNat) (cap-l.toNat)) (t:=.list m ((es.take C.toNat).drop l.toNat)) ?_ ?_ ?_ hK
    .simp[execOp,I,Instr.sliceAt,Instr.slice,run_underlying X,h4,D,B1 A]
    .simp only[Al];refine⟨if cap=l.toNat then r else r.map (·.add (l.toNat*m)),cap-l.toNat,by simp;omega,by simp;omega,fun L=>?_,fun U g=>?_⟩
     .have p:es=[]\/l.toNat=C.toNat:=by
       split at L
       .exact .inl (Q L)
       .cases r with
        |none=>exact .inl (Q rfl)|some r=>simp at L
      rcases p with rfl|p
      .simp
      .apply List.eq_nil_of_length_eq_zero;simp;omega
     .by_cases N:cap=l.toNat
      .have q:(es.take C.toNat).drop l.toNat=[]:=by apply List.eq_nil_of_length_eq_zero;simp;omega
       rw [a6 N]at g;rw[q];exact⟨.inl rfl,trivial⟩
      .rw[ae N]at g;cases r with
       |none=>simp at g|some r=>
        simp only[Option.map_some,po]at g;subst g;obtain⟨B,u⟩:=h7 r rfl;obtain⟨b,E,sp⟩:=r;simp only at B u;by_cases p:es=[]
        .have q:(es.take C.toNat).drop l.toNat=[]:=by rw[p];simp
         rw [q];exact⟨.inl rfl,trivial⟩
        have B:sp=none:=B.resolve_left p;subst B;rw[Addr.add_lit];refine⟨.inr rfl,?_⟩;rw[Qk]at u|-;intro i Y he;rw[List.getElem?_drop,List.getElem?_take]at he;split at he
        .have:=u (l.toNat+i) Y he
         rwa [show E+l.toNat*m+i*m=E+(l.toNat+i)*m from by rw[Nat.add_mul];omega]
        .cases he
    .simp only[TV.WF]at R|-;refine⟨by simp;omega,?_⟩;have B:=Bg.1 R.2;exact Bg.2 fun t A=>B t (List.mem_of_mem_take (List.mem_of_mem_drop A))
   .cases A
  .exact h.elim
 .exact h.elim
theorem jS(m:AU F0 w0 O a w G)(hd:d<a.tmps.size){lo hi:Option Operand}(p:o.op=.slice t x lo hi none)(q:AN x y=true)(A:Mk lo lo'=true)(hh:Mk hi hi'=true)
  (B:P.underlying t=some .string)(h:(AF.AaJ y lo' hi').wp S O (some d) K):Ay P F0 w0 a w o d K:=by
 simp only[AF.wp]at h;split at h
 .rename_i s hv;split at h
  .rename_i Q l R u C D;obtain⟨I,J,L,M⟩:=h;have r:=Aw m q hv;simp only[Al]at r;have E:=UQ m A C;have H:=UQ m hh D;have g:=SD (P:=P) (w:=w) (isS:=false) (lo:=lo.map a.eval) (hi:=hi.map a.eval) I J L (az _)
     (by rcases E with⟨rfl,rfl⟩|⟨v,N,rfl,hv⟩<;>simp[*]) (by rcases H with⟨rfl,rfl⟩|⟨v,N,rfl,hv⟩<;>simp[*])
   refine CS m hd (v:=.string (s.extract l.toNat u.toNat)) (t:=.str (s.extract l.toNat u.toNat)) ?_ rfl ?_ M
   .simp[execOp,p,Instr.sliceAt,Instr.slice,run_underlying B,r.1,g]
   .have:=r.2;simp only[TV.WF,ByteArray.size_extract]at this|-;omega
  .exact h.elim
 .exact h.elim
variable{y':AG}
theorem dZ(l:AU F0 w0 O a w G)(hd:d<a.tmps.size){x x':Operand}{mx:Bool}{ts:Array TypeId}
  (g:o.op=.call {callee:=.builtin (match mx with|true=>.max|false=>.min),args:=#[x,x'],argTypes:=ts})
  (u:AN x y=true)(A:AN x' y'=true)(h:(AF.mm mx y y').wp S O (some d) K):Ay P F0 w0 a w o d K:=by
 simp only[AF.wp]at h;split at h
 .rename_i k p E q B C;obtain⟨rfl,D⟩:=h;have m:=Aw l u B;have r:=Aw l A C;simp only[Al,TV.WF]at m r;refine CS l hd (v:=.int k (if mx then max p q else min p q)) (t:=.int k (if mx then max p q else min p q)) ?_ rfl ?_ D
  .cases mx
   .simp[execOp,g,resolve,invoke,builtin,m.1,r.1,Builtin.min_,Builtin.min2];rw[Int.min_def];split<;>split<;>omega
   .simp[execOp,g,resolve,invoke,builtin,m.1,r.1,Builtin.max_,Builtin.max2];rw[Int.max_def];split<;>split<;>omega
  .simp only[TV.WF];split<;>omega
 .exact h.elim
theorem jK(g:AU F0 w0 O a w G)(hd:d<a.tmps.size)(l:o.op=.box t x)(m:AN x y=true)(h:(AF.Abt y).wp S O (some d) K):Ay P F0 w0 a w o d K:=by
 simp only[AF.wp]at h;split at h
 .rename_i u hv;have B:=Aw g m hv;have r:Below w.heap.size w (w.alloc (.cells (a.eval x).cells t)):=(Below.refl _ _).alloc (az _) _;refine⟨.pointer (some ⟨w.heap.size,0,none⟩),w.alloc (.cells (a.eval x).cells t),by simp[execOp,l,Instr.box,newVar,newRow],_,_,h,g.tv r d hd (.pt u.cells) _ ?_ ?_⟩
  .simp only[Al];refine⟨_,_,rfl,?_⟩;have p:=Jp (F0:=F0) (w0:=w0) (G:=G) r d (fun _=>none) (by simp)
   .have A:=F8 B.1;refine Ql (Am p _ _ A.1) A.2 fun i v hi=>?_;have C:(w.alloc (.cells (a.eval x).cells t)).cell? ⟨w.heap.size,0+i,none⟩=some v:=by
     rw [World.cell?_alloc_new,Nat.zero_add];simpa using hi
    refine ⟨C,?_⟩;rintro(⟨q,_⟩|⟨s,j,lo,q,_⟩)
    .have:=g.below.size;omega
    .by_cases D:s=d
     .grind[By]
     .rw[BG _ _ _ _ D]at q;have:=(g.lt _ _ _ _ q).1;omega
  grind [TV.WF,HN]
 .exact h.elim
end
end Go.Sf
namespace Go.Sf
open Go.RowKit (Below)
def Vh:List Value->Nat->List Value->List Value
 |cs,_,[]=>cs|cs,i,d::ds=>Vh (cs.set i d) (i+1) ds
theorem QV(g:Nat):∀(l:List Value)(k:Nat)(cells:Array Value),((l.zipIdx k).foldl (fun cs(x:Value×Nat)=>cs.setIfInBounds (g+x.2) x.1) cells).toList=Vh cells.toList (g+k) l
 |[],_,_=>rfl|v::l,k,cells=>by
  simp only[List.zipIdx_cons,List.foldl_cons,Vh];rw[QV g l (k+1)]
  grind
section
variable{w:World}{F:Nat->Nat->Prop}
variable{v:Value}
theorem fH{cs:Fq}{xs:List Value}(h:AT w F cs xs)(i:Nat){t:TV}(g:Al w F t v):AT w F (cs.set i t) (xs.set i v):=by
 rw [BU]at h|-
 grind
theorem XE:∀{ds:Fq}{ys:List Value}{cs:Fq}{xs:List Value}(i:Nat),AT w F cs xs->AT w F ds ys->AT w F (Nq cs i ds) (Vh xs i ys)
 |[],ys,cs,xs,i,h,hd=>by simp only[AT]at hd;subst hd;exact h|d::ds,ys,cs,xs,i,h,hd=>by
  simp only[AT]at hd;obtain⟨v,r,rfl,g,l⟩:=hd;exact XE (i+1) (fH h i g) l
theorem dA:∀(ys xs:List Value)(i:Nat),(∀x∈xs,x.oneCell'=true)->(∀y∈ys,y.oneCell'=true)->∀x∈Vh xs i ys,x.oneCell'=true
 |[],_,_,h,_=>h|y::ys,xs,i,h,l=>by
  refine dA ys (xs.set i y) (i+1) (fun x m=>?_) (fun z g=>l z (by simp[g]))
  grind
theorem Vb{place:Nat->Option (Nat×Nat)}:∀{ps:List (Nat×Value)}{ts:List (Nat×Nat×TV)}{cs cs':Fq}{xs:Array Value},AT w F cs xs.toList->ps.length=ts.length ->
  (∀(j:Nat)(p:Nat×Value)(t:Nat×Nat×TV),ps[j]?=some p->ts[j]?=some t->place p.1=some (t.1,t.2.1)/\Al w F t.2.2 p.2)->Ez cs ts=some cs'->(∀x∈xs.toList,x.oneCell'=true) ->
  ∃xs',Instr.fill place xs ps=some xs'/\AT w F cs' xs'.toList/\∀x∈xs'.toList,x.oneCell'=true
 |[],ts,cs,cs',xs,h,l,u,hf,ho=>by
  have:ts=[]:=List.eq_nil_of_length_eq_zero l.symm;subst this;simp only[Ez,po]at hf;subst hf;exact⟨xs,rfl,h,ho⟩
 |(i,v)::ps,[],_,_,_,_,l,_,_,_=>by simp at l|(i,v)::ps,(g,n,t)::ts,cs,cs',xs,h,l,u,hf,ho=>by
  simp only[Ez]at hf;split at hf
  .rename_i J;obtain⟨B,r⟩:=u 0 _ _ rfl rfl;simp only at B r;have A:=(F8 r).1;have C:=(F8 r).2;have L:v.cells.size=n:=by have:=BD A;rw[Array.length_toList]at this;omega
   have D:=BD h;rw[Array.length_toList]at D;have E:AT w F (Nq cs g t.cells) ((v.cells.zipIdx.foldl (fun cs(x:Value×Nat)=>cs.setIfInBounds (g+x.2) x.1) xs)).toList:=by
    have H:=XE g h A;rw[<-Array.foldl_toList,Array.toList_zipIdx,QV,Nat.add_zero];exact H
   obtain ⟨xs',M,I⟩:=Vb E (by simpa using l) (fun j p t m q=>u (j+1) p t (by simpa using m) (by simpa using q)) hf (by
    rw [<-Array.foldl_toList,Array.toList_zipIdx,QV,Nat.add_zero]
    grind [dA])
   refine ⟨xs',?_,I⟩;simp only[Instr.fill,B]
   grind
  .cases hf
end
def MA(place:Nat->Option (Nat×Nat)):List (Nat×Operand)->List (Nat×Nat×AG)->Bool
 |[],[]=>true|(i,x)::ps,(off,n,y)::qs=>place i==some (off,n)&&AN x y&&MA place ps qs|_,_=>false
def ef(P:Program)(t:TypeId)(zero:Fq)(ps:List (Nat×Operand))(qs:List (Nat×Nat×AG)):Bool:=
 match P.info? t,P.underlying t with
 |some it,some (.array _ e)=>
  match it.zero,P.info? e with
  |some z,some ie=>JS zero z.cells.toList&&z.cells.toList.all Value.oneCell'&&MA (fun i=>some (i*ie.size,ie.size)) ps qs|_,_=>false
 |some it,some (.struct fields)=>
  match it.zero,fields.toList.mapM (fun f=>(P.info? f.type).map fun i=>(f.offset,i.size))with
  |some z,some places=>JS zero z.cells.toList&&z.cells.toList.all Value.oneCell'&&MA (places.toArray[·]?) ps qs|_,_=>false
 |_,_=>false
section
variable{P:Program}{S:FuncId->Fq->Au->Prop}{F0:Nat->Nat->Prop}{w0:W0}{O:AB}{a:Act}{w:World}{G:BQ}{d:Nat}{o:Oper}{K:EV->AB->Prop}
theorem YX(q:AU F0 w0 O a w G){place:Nat->Option (Nat×Nat)}:∀{ps:List (Nat×Operand)}{l:List (Nat×Nat×AG)}{ts:List (Nat×Nat×TV)},MA place ps l=true->GL O l=some ts ->
  ps.length=ts.length/\(∀(j:Nat)(p:Nat×Value)(t:Nat×Nat×TV),(ps.map fun(i,x)=>(i,a.eval x))[j]?=some p->ts[j]?=some t->place p.1=some (t.1,t.2.1)/\Al w (AX w0.heap.size F0 G) t.2.2 p.2)/\∀t∈ts,t.2.2.WF
 |[],[],ts,_,h=>by simp[GL]at h;subst h;simp|[],_::_,_,h,_=>by simp[MA]at h|_::_,[],_,h,_=>by simp[MA]at h|(i,x)::ps,(A,n,y)::l,ts,g,h=>by
  simp only[MA,pq,beq_iff_eq]at g;simp only[GL]at h;split at h
  .rename_i t r u m;simp only[po]at h;subst h;obtain⟨C,D,E⟩:=YX q g.2 m;have B:=Aw q g.1.2 u
   grind
  .cases h
theorem dm:∀{ds cs:Fq}(i:Nat),TV.x8 cs->TV.x8 ds->TV.x8 (Nq cs i ds)
 |[],_,_,h,_=>h|d::ds,cs,i,h,hd=>by
  refine dm (i+1) ?_ hd.2
  grind [Bg,List.mem_or_eq_of_mem_set]
theorem bf:∀{ts:List (Nat×Nat×TV)}{cs cs':Fq},TV.x8 cs->(∀t∈ts,t.2.2.WF)->Ez cs ts=some cs'->TV.x8 cs'
 |[],cs,cs',h,_,hf=>by simp[Ez]at hf;subst hf;exact h|(i,n,t)::ts,cs,cs',h,g,hf=>by
  simp only[Ez]at hf;split at hf
  .exact bf (dm i h (HN (g (i,n,t) (by simp)))) (fun u l=>g u (by simp[l])) hf
  .cases hf
variable{t:TypeId}{ps:Array (Nat×Operand)}
theorem lL(A:AU F0 w0 O a w G)(hd:d<a.tmps.size){zero:Fq}{m:List (Nat×Nat×AG)}(p:o.op=.build t ps)(q:ef P t zero ps.toList m=true)(h:(AF.bld zero m).wp S O (some d) K):Ay P F0 w0 a w o d K:=by
 simp only[AF.wp]at h;cases g:GL O m with
 |none=>rw[g]at h;exact h.elim|some ts=>
  rw [g]at h;simp only[AZ]at h;cases l:Ez zero ts with
  |none=>rw[l]at h;exact h.elim|some cs=>
   rw [l]at h;simp only at h;have key:∀(place:Nat->Option (Nat×Nat))(z:Array Value),JS zero z.toList=true->z.toList.all Value.oneCell'=true->MA place ps.toList m=true->∃xs',Instr.fill place z (ps.map fun(i,x)=>(i,a.eval x)).toList=some xs'/\AT w (AX w0.heap.size F0 G) cs xs'.toList/\TV.x8 cs/\xs'.toList.all Value.oneCell'=true:=by
    intro place z H r I;obtain⟨u,C,D⟩:=YX A I g;have B:=PX w (AX w0.heap.size F0 G) zero z.toList H;have J:(ps.map fun(i,x)=>(i,a.eval x)).toList=ps.toList.map fun(i,x)=>(i,a.eval x):=by simp
    rw [J];obtain⟨xs',L,M,N⟩:=Vb B.1 (by simpa using u) C l (fun x E=>List.all_eq_true.1 r x E)
    grind [bf,List.all_eq_true]
   have built:∃xs',P.built t (ps.map fun(i,x)=>(i,a.eval x)).toList=some xs'/\AT w (AX w0.heap.size F0 G) cs xs'.toList/\TV.x8 cs/\xs'.toList.all Value.oneCell'=true:=by
    unfold ef at q;unfold Program.built
    grind
   obtain ⟨xs',u,C,D,B⟩:=built;refine CS A hd (v:=.agg xs') (t:=.agg cs) ?_ ?_ (by simpa[TV.WF]using D) h
   .simp[execOp,p,run_build w t _ xs' u]
   grind [Al]
variable{x:Operand}{n:Nat}
theorem Yo(l:AU F0 w0 O a w G)(hd:d<a.tmps.size)(g:o.op=.move x\/o.op=.assign x)(m:∃v,x=.const v/\LD v=true)(h:(AF.Abx n).wp S O (some d) K):Ay P F0 w0 a w o d K:=by
 simp only[AF.wp]at h;obtain⟨v,rfl,hv⟩:=m;refine⟨.slice none 0 0,w,?_,_,_,h,l.ow (Below.refl _ _) d hd (.list n []) _ none (by simp) ?_ ⟨by simp,trivial⟩⟩
 .rcases g with g|g<;>simp[execOp,g,Act.eval,JB hv]
 .simp only[Bp];exact⟨[],⟨by simp,.inl ⟨rfl,rfl,rfl⟩⟩,rfl,by simp,by simp⟩
end
end Go.Sf
namespace Go.Sf
open Go.RowKit (Below)
theorem fN(g:Fq)(x t:TV)(r:Fq):(g++x::r).set g.length t=g++t::r:=by grind
theorem TU:∀(ds g rest:Fq),ds.length<=rest.length->Nq (g++rest) g.length ds=g++ds++rest.drop ds.length
 |[],g,rest,_=>by simp[Nq]|d::ds,g,[],h=>by simp at h|d::ds,g,x::rest,h=>by
  simp only[Nq,fN];have:=TU ds (g++[d]) rest (by simpa using h)
  grind
def KO(n:Nat):Nat->Fq->List (Nat×Nat×TV)
 |_,[]=>[]|k,t::ts=>(k*n,n,t)::KO n (k+1) ts
theorem X7(n:Nat):∀(ts g:Fq)(k:Nat),(∀t∈ts,t.cells.length=n)->g.length=k*n ->
  Ez (g++List.replicate (ts.length*n) .undef) (KO n k ts)=some (g++ts.flatMap TV.cells)
 |[],g,k,_,_=>by simp[KO,Ez]|t::ts,g,k,h,q=>by
  have m:t.cells.length=n:=h t (by simp);simp only[KO,Ez];rw[a6 ⟨m,by simp only[bk,List.length_replicate,c7,Nat.add_mul];omega⟩];rw[<-q,TU t.cells g _ (by simp only[List.length_replicate,c7,Nat.add_mul];omega)];have p:(List.replicate ((t::ts).length*n) TV.undef).drop t.cells.length=List.replicate (ts.length*n) TV.undef:=by
   grind [c7,Nat.add_mul]
  rw [p];have:=X7 n ts (g++t.cells) (k+1) (fun x l=>h x (by simp[l])) (by simp only[bk,Nat.add_mul];omega)
  grind
def R2:Nat->List (Nat×Operand)->List AG->Bool
 |_,[],[]=>true|k,(i,x)::ps,y::ys=>i==k&&AN x y&&R2 (k+1) ps ys|_,_,_=>false
section
variable{P:Program}{S:FuncId->Fq->Au->Prop}{F0:Nat->Nat->Prop}{w0:W0}{O:AB}{a:Act}{w:World}{G:BQ}{d:Nat}{o:Oper}{K:EV->AB->Prop}
theorem cv(m:AU F0 w0 O a w G)(n:Nat):∀{k:Nat}{ps:List (Nat×Operand)}{ys:List AG}{ts:Fq},R2 k ps ys=true->vals O ys=some ts ->
  ps.length=ts.length/\(∀(j:Nat)(p:Nat×Value)(t:Nat×Nat×TV),(ps.map fun(i,x)=>(i,a.eval x))[j]?=some p->(KO n k ts)[j]?=some t->(some (p.1*n,n):Option (Nat×Nat))=some (t.1,t.2.1)/\Al w (AX w0.heap.size F0 G) t.2.2 p.2)/\TV.x8 ts
 |_,[],[],ts,_,h=>by simp[vals]at h;subst h;simp[TV.x8]|_,[],_::_,_,h,_=>by simp[R2]at h|_,_::_,[],_,h,_=>by simp[R2]at h|k,(i,x)::ps,y::ys,ts,g,h=>by
  simp only[R2,pq,beq_iff_eq]at g;simp only[vals]at h;split at h
  .rename_i t q r l;simp only[po]at h;subst h;obtain⟨B,H,C⟩:=cv m n g.2 l;have A:=Aw m g.1.2 r;refine⟨by simp[B],fun j p u D E=>?_,A.2,C⟩
   grind [KO]
  .cases h
theorem Qc(n:Nat):∀(k:Nat)(ts:Fq),(KO n k ts).length=ts.length
 |_,[]=>rfl|k,t::ts=>by simp[KO,Qc n (k+1) ts]
variable{n:Nat}{ts:Fq}{e:TypeId}
theorem nx{F:Nat->Nat->Prop}{cells:Array Value}(h:AT (w.alloc (.cells cells e)) F (ts.flatMap TV.cells) cells.toList)(ho:∀x∈cells.toList,x.oneCell'=true)(l:∀t∈ts,t.cells.length=n)(m:ts.length<=maxLen):
  Bp (w.alloc (.cells cells e)) F (some (w.heap.size,ts.length*n)) (.list n ts) (.slice (some ⟨w.heap.size,0,none⟩) ts.length ts.length):=by
 have g:=BD h;rw[Nl n ts l]at g;simp only[Bp];refine⟨cells.toList,⟨g,.inr ⟨w.heap.size,ts.length,cells,e,rfl,heap_alloc_new w _,az _,m,by simpa using g,?_,rfl⟩⟩,h,l,ho⟩;rw[<-g,List.take_length]
variable{t:TypeId}{ps:Array (Nat×Operand)}{ys:List AG}
theorem lg(T:AU F0 w0 O a w G)(hd:d<a.tmps.size){r:TypeInfo}{z:Value}{len n:Nat}(J:o.op=.buildSlice t len ps)(U:P.underlying t=some (.slice e))(u:P.info? e=some r)(hz:r.zero=some z)
  (V:r.size=n)(A:0<n)(W:z.cells.toList.all Value.oneCell'=true)(hzs:0<z.cells.size)(B:len=ps.size)(hsm:len*n<=2^ 24)(L:R2 0 ps.toList ys=true)(h:(AF.lst n ys).wp S O (some d) K):Ay P F0 w0 a w o d K:=by
 simp only[AF.wp]at h;cases l:vals O ys with
 |none=>rw[l]at h;exact h.elim|some ts=>
  rw [l]at h;simp only[AZ]at h;obtain⟨Y,hK⟩:=h;obtain⟨Z,h2,h3⟩:=cv T n L l;have M:len=ts.length:=by rw[B,<-Z];simp
  have N:(TV.list n ts).WF:=⟨by simp only[Ir];have:len*1<=len*n:=Nat.mul_le_mul_left _ A;omega,h3⟩;have Q:ts.length<=maxLen:=by simp only[maxLen];have:len*1<=len*n:=Nat.mul_le_mul_left _ A;omega
  have g:∃cells:Array Value,(Instr.buildSlice t len (ps.map fun(i,x)=>(i,a.eval x))).run P w=.ok (.slice (some ⟨w.heap.size,0,none⟩) len len) (w.alloc (.cells cells e))/\AT w (AX w0.heap.size F0 G) (ts.flatMap TV.cells) cells.toList/\∀x∈cells.toList,x.oneCell'=true:=by
   by_cases h0:len=0
   .have R:ps=#[]:=by apply Array.eq_empty_of_size_eq_zero;omega
    have D:ts=[]:=by apply List.eq_nil_of_length_eq_zero;omega
    subst R;subst D;subst h0;refine⟨#[],?_,rfl,by simp⟩;simp[Instr.buildSlice,run_underlying U,sizeOf,typeInfo,u,Instr.fill,newRow]
    grind
   .have m:AT w (AX w0.heap.size F0 G) (List.replicate (ts.length*n) .undef) ((Array.range (len*r.size)).map (z.cells[· % z.cells.size]!)).toList:=by
     grind [BU,po,Al,Option.map_eq_some_iff,Nat.mod_lt,List.all_eq_true]
    have E:=X7 n ts [] 0 Y (by simp);simp only[List.nil_append]at E;have p:∀x∈((Array.range (len*r.size)).map (z.cells[· % z.cells.size]!)).toList,x.oneCell'=true:=by
     grind [Nat.mod_lt,List.all_eq_true]
    obtain ⟨xs',h6,h7,h8⟩:=Vb (place:=fun i=>some (i*n,n)) m (by rw[Qc];simpa using Z) h2 E p;refine⟨xs',run_buildSlice w t e len _ xs' r z U u hz (by rw[V];omega) ?_ ?_,h7,h8⟩
    .grind[Nat.mul_eq_zero]
    .rw[V]at h6|-;simpa using h6
  obtain ⟨cells,H,I,q⟩:=g;have X:Below w.heap.size w (w.alloc (.cells cells e)):=(Below.refl _ _).alloc (az _) _;refine⟨.slice (some ⟨w.heap.size,0,none⟩) len len,_,by simp only[execOp,J,Sem.run_bind,H,Result.andThen_ok,Sem.run_pure],_,_,hK,T.ow X d hd (.list n ts) _ (some (w.heap.size,ts.length*n)) (fun b lo C=>?_) ?_ N⟩
  .simp only[po,Prod.mk.injEq]at C;obtain⟨rfl,_⟩:=C;exact⟨az _,by simp⟩
  .rw[M];exact nx (Am (Jp X d _ (fun i b lo h=>by
    grind)) _ _ I) q Y Q
theorem AU.strip(h:AU F0 w0 O a w G)(s:Nat):AU F0 w0 (strip O s) a w G:=by
 refine ⟨h.pr,h.lt,h.below,h.defers,fun q l=>?_,fun q l=>?_,fun q=>?_⟩
 .simp only[Go.Sf.strip,AB.ea];split
  .rfl
  .exact h.dom q l
 .have:=h.slots q l;simp only[Go.Sf.strip,AB.ea];split
  .trivial
  .refine AP.kept (Oj _ _) (fun _=>rfl) (fun _ _ _ _=>rfl) rfl BE.rfl' (fun r i k u⟨p,m⟩=>⟨⟨p,(AB.Aag (by simp) m).2⟩,fun _ hv=>hv⟩) (fun r A u⟨cs,g⟩=>?_) (fun r i u⟨p,m⟩=>⟨⟨p,(AB.z5 (by simp) (by simp) m).2⟩,fun _ hv=>hv⟩) this
   .rw[AB.ea]at g;split at g
    .cases g
    .exact⟨⟨cs,g⟩,rfl⟩
 .simp only[Go.Sf.strip,AB.ea];split
  .trivial
  .exact h.wf q
variable{s:Nat}
theorem AU.move(h:AU F0 w0 O a w G){t:TV}(N:O.get s=.ow t)(hd:d<a.tmps.size):
  ∃m,AU F0 w0 ((d,.ow t)::Go.Sf.strip O s) (a.put (some d) (slot a s)) w m/\BW w w (AX w0.heap.size F0 G) (AX w0.heap.size F0 m):=by
 have B:=Ad h N (by simp);simp only[AP]at B;have L:=h.wf s;rw[N]at L
 let zs:Option (Nat×Nat):=G s none
 let m:BQ:=I7 (I7 G s (fun _=>none)) d (fun i=>if i=none then zs else none)
 have D:∀q i b lo,m q i=some (b,lo)->(q=d/\i=none/\G s none=some (b,lo))\/(q≠d/\q≠s/\G q i=some (b,lo)):=by
  intro q i b lo u;by_cases l:q=d
  .grind[By]
  .simp only[m,BG _ _ _ _ l]at u;by_cases U:q=s
   .grind[By]
   .rw[BG _ _ _ _ U]at u
    grind
 have E:∀q i b lo,m q i=some (b,lo)->∃V W lo',G V W=some (b,lo')/\lo'<=lo:=by
  grind
 have H:BW w w (AX w0.heap.size F0 G) (AX w0.heap.size F0 m):=fun b o v Y hf=>⟨Y,fun Q=>hf (AX.mono E Q)⟩;refine⟨m,⟨?_,?_,h.below,by rw[Ef];exact h.defers,?_,?_,?_⟩,H⟩
 .intro q i V W b lo lo' A C;rcases D _ _ _ _ A with⟨rfl,rfl,J⟩|⟨n1,n2,J⟩<;>rcases D _ _ _ _ C with⟨rfl,rfl,M⟩|⟨m1,m2,M⟩
  .exact⟨rfl,rfl⟩
  .exact absurd (h.pr _ _ _ _ _ _ _ J M).1.symm m2
  .exact absurd (h.pr _ _ _ _ _ _ _ J M).1 n2
  .exact h.pr _ _ _ _ _ _ _ J M
 .intro q i b lo A;rcases D _ _ _ _ A with⟨_,_,J⟩|⟨_,_,J⟩<;>exact h.lt _ _ _ _ J
 .intro q u;rw[BY]at u;rw[AB.ea,ae (by omega)];exact(h.strip s).dom q u
 .intro q u;rw[BY]at u;rw[AB.ea];by_cases l:d=q
  .subst l;rw[a6 rfl,Ca _ _ _ hd];simp only[AP,m,By,if_true];exact B.kept H (fun _ _ _=>rfl)
  .rw[ae l,AY _ _ _ _ l];simp only[Go.Sf.strip,AB.ea];split
   .trivial
   .rename_i T;refine AP.kept H (fun i=>?_) (fun _ _ _ _=>rfl) (Lc (BY _ _ _) (fun q u=>by
     have hss:=BZ h N (by simp)
     grind [BG])) BE.rfl' (fun r i k X⟨p,R⟩=>?_) (fun r Z X⟨cs,g⟩=>?_) (fun r i X⟨p,R⟩=>?_) (h.slots q u)
    .simp only[m];rw[BG _ _ _ _ (fun e=>l e.symm),BG _ _ _ _ (fun e=>T e.symm)]
    .have A:=AB.Aag (by simp) R;have C:=AB.Aag (by simp) A.2;exact⟨⟨p,C.2⟩,h.nh ⟨p,C.2⟩ (AY _ _ _ _ A.1) (fun _ _ _ _=>rfl)⟩
    .rw[AB.ea]at g;by_cases I:d=r
     .rw[a6 I]at g;cases g
     .rw[ae I]at g;simp only[AB.ea]at g;split at g
      .cases g
      .exact⟨⟨cs,g⟩,AY _ _ _ _ I⟩
    .have A:=AB.z5 (by simp) (by simp) R;have C:=AB.z5 (by simp) (by simp) A.2;exact⟨⟨p,C.2⟩,h.xv ⟨p,C.2⟩ (AY _ _ _ _ A.1) (fun _ _=>rfl)⟩
 .intro q;rw[AB.ea];split
  .exact L
  .exact(h.strip s).wf q
theorem lF(a:Act)(d s:Nat)(v:Value)(h:d<a.tmps.size):slot (a.put (some d) v) s=if d=s then v else slot a s:=by grind[Ca,AY]
theorem AU.move'(h:AU F0 w0 O a w G){t:TV}(g:O.get s=.ow t)(hd:d<a.tmps.size):
  Bi F0 w0 ((d,.ow t)::(s,.tv t)::O) (a.put (some d) (slot a s)) w:=by
 obtain ⟨p,q,m⟩:=h.move g hd;have hv:=Aw h (x:=.tmp s) (y:=.s s) (by simp[AN]) (t:=t) (by simp[AG.val,AG.ev,g,EV.val]);have l:=BZ h g (by simp);refine⟨p,q.rem s (t:=t) (by rw[BY];exact l) ?_ hv.2 fun n=>?_⟩
 .have:slot (a.put (some d) (slot a s)) s=slot a s:=by rw[lF _ _ _ _ hd];split<;>rfl
  rw [this];exact B2 m _ _ hv.1
 .simp only[Go.Sf.strip,AB.ea];split
  .exact .inl rfl
  .split
   .rename_i e;exact .inr ⟨e.symm,rfl⟩
   .exact .inl rfl
theorem dc(m:AU F0 w0 O a w G)(hd:d<a.tmps.size)(g:o.op=.move (.tmp s)\/o.op=.assign (.tmp s))(h:(AF.tk s).wp S O (some d) K):Ay P F0 w0 a w o d K:=by
 simp only[AF.wp]at h;have l:(execOp a.eval o).run P w=.ok (.value (slot a s)) w:=by
  rcases g with g|g<;>simp[execOp,g]<;>rfl
 split at h
 .rename_i t p;exact⟨_,_,l,_,_,h,m.move' p hd⟩
 .rename_i t p;have:=Aw m (x:=.tmp s) (y:=.s s) (by simp[AN]) (t:=t) (by simp[AG.val,AG.ev,p,EV.val]);exact CS m hd l this.1 this.2 h
 .exact h.elim
end
end Go.Sf
