/- What is read of an argument: a typed value, and that memory holds its tree. -/
import Derived.Test.YtjgaphkmbjbdkaaGreatSfLib
import GoSem.ClaimChange
import Derived.SizedLaws
import Derived.Carry
import Derived.ChangeCalls
import Derived.ProofKit
import Derived.OpenShut
set_option linter.all false
namespace Go.Sf
abbrev XJ:Nat->Nat->Prop:=fun _ _=>False
mutual
def TV.Sm:TV->Prop
 |.str s=>s.size<=reachBytes|.list _ es=>es.length<=reachBytes/\TV.Sms es|.agg cs=>TV.Sms cs|_=>True
def TV.Sms:Fq->Prop
 |[]=>True|t::ts=>TV.Sm t/\TV.Sms ts
end
theorem UQ:∀{l:Fq},TV.Sms l↔∀t∈l,t.Sm
 |[]=>by simp[TV.Sms]|t::l=>by simp[TV.Sms,UQ (l:=l)]
theorem fj{l m:Fq}:TV.Sms (l++m)↔TV.Sms l/\TV.Sms m:=by grind[UQ]
theorem Um{t:TV}(h:TV.Sms t.cells):t.Sm:=by
 cases t<;>first|exact h|exact h.1
def Y7{H:Type}(P:Program)(t:TypeId)(d:DataW H):Prop:=∀n∈DataW.weights P t d,n<=reachBytes
def CF(P:Program)(t:TypeId)(n:Nat){X:Type}(e:X->TV)(fuel:Nat):Prop:=
 ∀(H:Type)(enc:TypeId×Value->H)(w:World)(spare:Nat->Bool)(cs:List Value)(d:DataW H)(ps:List MemPlace),DataW.trod enc P w 0 spare true fuel t cs=some (d,ps) ->
  ∃x:X,(e x).WF/\AQ w XJ (e x).cells cs/\(∀v∈cs,v.oneCell'=true)/\(e x).cells.length=n/\(Y7 P t d->TV.Sms (e x).cells)
variable{H:Type}{m:Nat}
theorem R3{P:Program}{el:TypeId}:∀{l:List (DataW H)}{x:DataW H},x∈l->m∈DataW.weights P el x->m∈DataW.weightsAll P el l
 |[],x,a,_=>by cases a
 |y::l,x,a,b=>by
  rw [DataW.weightsAll,List.mem_append];rcases List.mem_cons.1 a with rfl|a
  .exact .inl b
  .exact .inr (R3 a b)
section
variable{P:Program}{t:TypeId}{fuel:Nat}
variable{n:Nat}{X:Type}{e:X->TV}
theorem BE:CF P t n e 0:=by
 intro H enc w a cs d b h;cases h
theorem jL{k:IntKind}(c:P.underlying t=some (.int k)):CF P t 1 (fun n:Int=>TV.int k n) (fuel+1):=by
 intro H enc w a cs d i h;unfold DataW.trod at h;rw[c]at h;split at h<;>simp_all;rename_i j l n o;obtain⟨b,_,_⟩:=h;obtain⟨rfl,b⟩:=b;refine⟨n,?_,by simp[TV.cells,AQ,An],by simp[Value.oneCell'],rfl,fun _=>by simp[TV.cells,TV.Sms,TV.Sm]⟩;simpa[TV.WF,Lit.wf]using b
theorem fX(c:P.underlying t=some .bool):CF P t 1 TV.bool (fuel+1):=by
 intro H enc w a cs d i h;unfold DataW.trod at h;rw[c]at h;split at h<;>simp_all;rename_i b;cases b
 .exact .inl ⟨by simp[TV.WF],by simp[TV.cells,AQ,An],by simp[Value.oneCell'],rfl,fun _=>by simp[TV.cells,TV.Sms,TV.Sm]⟩
 .exact .inr ⟨by simp[TV.WF],by simp[TV.cells,AQ,An],by simp[Value.oneCell'],rfl,fun _=>by simp[TV.cells,TV.Sms,TV.Sm]⟩
theorem jM(c:P.underlying t=some .string):CF P t 1 TV.str (fuel+1):=by
 intro H enc w a cs d j h;unfold DataW.trod at h;rw[c]at h;split at h<;>simp_all;rename_i b;refine⟨b,by simpa[TV.WF,JV,maxLen]using h.1,by simp[TV.cells,AQ,An],by simp[Value.oneCell'],rfl,fun i=>?_⟩;have:=h.2.1;subst this;have:=i b.data.toList.length (by simp[DataW.weights]);simp[TV.cells,TV.Sms,TV.Sm];simpa using this
theorem RI{α β:Type}{f:α->Option β}:∀{l:List α}{r:List β},l.mapM f=some r->r.length=l.length/\∀(i:Nat)(a:α),l[i]?=some a->∃b,r[i]?=some b/\f a=some b
 |[],r,h=>by
  grind
 |x::l,r,h=>by
  simp [List.mapM_cons,Option.bind_eq_bind,Option.bind_eq_some_iff,Option.pure_def,sr]at h;obtain⟨y,d,j,c,rfl⟩:=h;obtain⟨k,o⟩:=RI c
  grind
variable{w:World}
theorem Tt{b:Nat}:∀(a:Fq)(cs:List Value)(o:Nat),AQ w XJ a cs->(∀v∈cs,v.oneCell'=true)->(∀j v,cs[j]?=some v->w.cell? ⟨b,o+j,none⟩=some v)->DM w XJ a b o
 |[],_,_,_,_,_=>trivial|t::a,cs,o,h,c,d=>by
  simp [AQ]at h;obtain⟨v,r,rfl,k,l⟩:=h;refine⟨⟨v,by simpa using d 0 v rfl,fun hf=>hf,c v (by simp),k⟩,?_⟩;refine Tt a r (o+1) l (fun v hv=>c v (by simp[hv])) (fun j v i=>?_);have:=d (j+1) v (by simpa using i)
  grind
theorem X9{Q:Nat->X->Prop}:∀(n:Nat),(∀i,i<n->∃x,Q i x)->∃l:List X,l.length=n/\∀i x,l[i]?=some x->Q i x
 |0,_=>⟨[],rfl,fun i x h=>by simp at h⟩|n+1,h=>by
  obtain ⟨l,a,c⟩:=X9 n (fun i hi=>h i (by omega));obtain⟨x,d⟩:=h n (by omega);refine⟨l++[x],by simp[a],fun i y b=>?_⟩
  grind
theorem Vf{a:Addr}{cs:List Value}(h:w.cells? 0 a n=some cs):cs.length=n/\∀j v,cs[j]?=some v->w.cell? (a.add j)=some v:=by
 unfold World.cells? at h;rw[a6 (Nat.zero_le _)]at h;obtain⟨d,k⟩:=RI h;rw[List.length_range]at d;refine⟨d,fun j v i=>?_⟩;have c:j<n:=by have:=(List.getElem?_eq_some_iff.1 i).1;omega
 obtain ⟨b,l,o⟩:=k j j (by rw[List.getElem?_range c])
 grind
theorem ED{el:TypeId}(K:P.underlying t=some (.slice el))(V:P.cellsOf el=n)(W:0<n)(L:0<P.bytesOf el)(he:CF P el n e fuel):CF P t 1 (fun l:List X=>TV.list n (l.map e)) (fuel+1):=by
 intro H enc w u cs d ps h;unfold DataW.trod at h;rw[K]at h;split at h
 case h_7=>
  refine ⟨[],⟨Nat.zero_le _,trivial⟩,?_,by simp[Value.oneCell'],rfl,fun _=>⟨⟨Nat.zero_le _,trivial⟩,trivial⟩⟩;simp only[TV.cells,AQ,An,List.map_nil];exact⟨_,_,rfl,⟨none,0,rfl,az _,fun _=>trivial,fun Z q=>by cases q⟩,rfl⟩
 case h_8 e1 a len cap hu=>
  simp at hu;subst hu;simp only[]at h;split at h
  .rename_i U;simp only[Option.bind_eq_some_iff,Option.map_eq_some_iff]at h;obtain⟨c,N,rest,O,hd⟩:=h;obtain⟨z,N⟩:=RI N;rw[List.length_range]at z;simp at hd;obtain⟨hd,_⟩:=hd;subst hd;have hLt:=fun l x F m T=>R3 (P:=P) (el:=el) (H:=H) (m:=m) (l:=l) (x:=x) F T;have F:∀i,i<len->∃x:X,(e x).WF/\(e x).cells.length=n/\(∃o,w.cells? 0 (a.add (i*n)) n=some o/\AQ w XJ (e x).cells o/\∀v∈o,v.oneCell'=true)/\(Y7 P t (.slice (c.map (·.1)) (rest.map (·.1)))->(e x).Sm):=by
    intro i hi;obtain⟨b,hbi,J⟩:=N i i (List.getElem?_range hi);simp[Option.bind_eq_some_iff,V]at J;obtain⟨o,B,J⟩:=J;obtain⟨x,k1,k2,k3,k4,k5⟩:=he H enc w u o b.1 b.2 J;refine⟨x,k1,k4,⟨o,B,k2,k3⟩,fun G=>Um (k5 (fun m T=>G m ?_))⟩;simp[DataW.weights,K,List.mem_cons,List.mem_append]
    grind
   obtain ⟨l,Q,R⟩:=X9 len F;have k:∀i,i<len->a.spot=none:=by
    intro i hi;obtain⟨x,_,_,⟨o,B,_,_⟩,_⟩:=F 0 (by omega);obtain⟨h2,S⟩:=Vf B;have r:=S 0 _ (List.getElem?_eq_getElem (by omega));simp[Nat.zero_mul,Addr.add,if_true]at r;unfold World.cell? at r;split at r
    .split at r
     .cases r
     .rename_i I;cases M:a.spot with
      |none=>rfl|some p=>simp[M]at I
    .cases r
   refine ⟨l,⟨?_,?_⟩,?_,by simp[Value.oneCell'],rfl,fun G=>?_⟩
   .simp[Q];unfold JV;have:=U.2.2;unfold maxLen at this;omega
   .rw[Br];intro y D;obtain⟨x,C,rfl⟩:=List.mem_map.1 D;obtain⟨i,hi⟩:=List.getElem?_of_mem C;exact(R i x hi).1
   .simp only[TV.cells,AQ,An,ca,Q];refine⟨_,_,rfl,⟨some a,cap,rfl,U.2.1,fun h=>absurd h (by simp),fun Z q=>?_⟩,rfl⟩;simp at q;subst q;refine⟨?_,?_⟩
    .by_cases h0:len=0
     .exact .inl (by have:l=[]:=List.eq_nil_of_length_eq_zero (by omega);rw[this];rfl)
     .exact .inr (k 0 (by omega))
    .rw[RQ];intro i y D;rw[List.getElem?_map,Option.map_eq_some_iff]at D;obtain⟨x,E,rfl⟩:=D;have hi:i<len:=by have:=(List.getElem?_eq_some_iff.1 E).1;omega
     obtain ⟨_,S,⟨o,r,h5,h6⟩,_⟩:=R i x E;obtain⟨_,h7⟩:=Vf r;refine⟨?_,S⟩;refine Tt _ o _ h5 h6 (fun j v hj=>?_);have:=h7 j v hj;have I:=k i hi;obtain⟨ab,ao,sp⟩:=a;simp only at I;subst I;rw[Addr.add_lit,Addr.add_lit]at this;exact this
   .simp[TV.cells,TV.Sms,TV.Sm,Q];refine⟨?_,?_⟩
    .have:=G ((c.length+rest.length)*P.bytesOf el) (by simp[DataW.weights,K]);have h9:c.length+rest.length<=(c.length+rest.length)*P.bytesOf el:=Nat.le_mul_of_pos_right _ L;omega
    .rw[UQ];intro y D;obtain⟨x,C,rfl⟩:=List.mem_map.1 D;obtain⟨i,hi⟩:=List.getElem?_of_mem C;exact(R i x hi).2.2.2 G
  .cases h
 all_goals simp_all
def VQ(P:Program)(fuel:Nat)(fs:List (TypeId×Nat))(k m:Nat){Y:Type}(g:Y->Fq):Prop:=
 ∀(H:Type)(enc:TypeId×Value->H)(w:World)(spare:Nat->Bool)(cs:List Value)(L:Prop),cs.length=m->(∀f∈fs,∃b,DataW.trod enc P w 0 spare true fuel f.1 ((cs.drop f.2).take (P.cellsOf f.1))=some b/\(L->Y7 P f.1 b.1)) ->
  ∃y:Y,TV.sc (g y)/\AQ w XJ (g y) (cs.drop k)/\(∀v∈cs.drop k,v.oneCell'=true)/\(g y).length=m-k/\(L->TV.Sms (g y))
variable{m:Nat}
theorem CZ:VQ P fuel [] m m (fun _:Unit=>[]):=by
 intro H enc w a cs L b _;have:cs.drop m=[]:=List.drop_eq_nil_of_le (by omega);exact⟨(),trivial,by rw[this];rfl,by simp[this],by simp,fun _=>trivial⟩
variable{Y:Type}{g:Y->Fq}
theorem AR{f:TypeId}{k n m:Nat}{o:List (TypeId×Nat)}(r:P.cellsOf f=n)(K:k+n<=m)(he:CF P f n e fuel)(u:VQ P fuel o (k+n) m g):
  VQ P fuel ((f,k)::o) k m (fun p:X×Y=>(e p.1).cells++g p.2):=by
 intro H enc w c cs L d h;obtain⟨b,q,B⟩:=h (f,k) (by simp);simp[r]at q;obtain⟨x,i,C,D,E,j⟩:=he H enc w c _ b.1 b.2 q;obtain⟨y,F,G,I,J,l⟩:=u H enc w c cs L d (fun f hf=>h f (by simp[hf]));have a:cs.drop k=(cs.drop k).take n++cs.drop (k+n):=by
  rw [<-List.drop_drop,List.take_append_drop]
 refine ⟨(x,y),?_,?_,?_,?_,fun d=>fj.2 ⟨j (B d),l d⟩⟩
 .refine KV.2 ⟨?_,F⟩;cases z:e x<;>rw[z]at i<;>first|exact i|exact⟨i,trivial⟩
 .rw[a];exact IK C G
 .rw[a];intro v hv;rcases List.mem_append.1 hv with hv|hv
  .exact D v hv
  .exact I v hv
 .simp[E,J];omega
theorem B1{q:Array Field}{L:List (TypeId×Nat)}(conv:Y->X)(r:P.underlying t=some (.struct q))(v:q.toList.map (fun f=>(f.type,f.offset))=L)(x:P.cellsOf t=m)
  (z:VQ P fuel L 0 m g)(k:∀y,e (conv y)=.agg (g y)):CF P t m e (fuel+1):=by
 intro H enc w c cs d K h;unfold DataW.trod at h;rw[r]at h;split at h
 case h_9 fs' cs' hu=>
  simp at hu;subst hu;split at h
  .rename_i C;simp only[Option.map_eq_some_iff]at h;obtain⟨xs,l,hd⟩:=h;simp at hd;obtain⟨hd,_⟩:=hd;subst hd;obtain⟨_,l⟩:=RI l;obtain⟨y,D,E,F,G,I⟩:=z H enc w c _ (Y7 P t (.agg (xs.map (·.1)))) (by rw[C,x]) (fun f hf=>by
    rw [<-v]at hf;obtain⟨u,o,rfl⟩:=List.mem_map.1 hf;obtain⟨i,hi⟩:=List.getElem?_of_mem o;obtain⟨b,p,J⟩:=l i u hi;refine⟨b,J,fun a n B=>a n ?_⟩;simp[DataW.weights,r];exact DataW.weights_mem_each (j:=i) (t:=u.type) (d:=b.1) (by rw[List.getElem?_map,hi];rfl) (by rw[List.getElem?_map,p];rfl) n B)
   refine ⟨conv y,?_,?_,?_,?_,fun a=>by rw[k];exact I a⟩
   .rw[k];exact D
   .rw[k];simpa[TV.cells]using E
   .simpa using F
   .rw[k];simpa[TV.cells]using G
  .cases h
 all_goals simp_all
end
end Go.Sf
namespace Go.Sf
open Go.ChangeShapes Go.WideShapes Go.ChangeAt Go.RowKit
variable{H:Type}
theorem S8{enc:TypeId×Value->H}{P:Program}(l:laidOutB P=true){W o:World}(r:Below W.heap.size W o){u:Nat->Bool}:
  ∀{i:List TypeId}{vs:List Value}{ds:List (DataW H)}{j:List MemPlace},i.all (fun t=>P.readableRec t&&decide (t<P.types.size))=true->DataW.TrodAll enc P W 0 (fun _=>true) true i vs ds j ->
   (∀x∈j,x.block<W.heap.size)->(∀x∈j,u x.block=true)->DataW.TrodAll enc P o 0 u true i vs ds j
 |[],_,_,_,_,h,_,_=>by
  obtain ⟨rfl,rfl,rfl⟩:=trodAll_nil h;exact trodAll_mk0
 |t::i,_,_,_,k,h,b,c=>by
  obtain ⟨v,vs,d,ds,p,q,rfl,rfl,rfl,y,z⟩:=trodAll_cons h;simp only[List.all_cons,o4,t2]at k;refine⟨p,q,?_,S8 l r k.2 z (fun x a=>b x (List.mem_append_right _ a)) (fun x a=>c x (List.mem_append_right _ a)),rfl⟩;exact WideElems.Trod_stays l k.1.1 k.1.2 y (fun x a=>r.same (b x (List.mem_append_left _ a))) (fun x a=>c x (List.mem_append_left _ a))
def QX(P:Program)(ts:List TypeId)(A:Fq->Prop):Prop:=
 ∀(H:Type)(enc:TypeId×Value->H)(W:World)(vs:List Value)(ds:List (DataW H))(ps:List MemPlace),DataW.TrodAll enc P W 0 (fun _=>true) true ts vs ds ps->∃as,A as/\TV.sc as/\AQ W XJ as vs/\((∀n∈DataW.weightsEach P ts ds,n<=reachBytes)->TV.Sms as)
theorem a8{P:Program}:QX P [] (fun a=>a=[]):=by
 intro H enc W vs ds b h;obtain⟨rfl,rfl,rfl⟩:=trodAll_nil h;exact⟨[],rfl,trivial,rfl,fun _=>trivial⟩
variable{A:Fq->Prop}{n:Nat}{X:Type}{e:X->TV}
theorem Qn{P:Program}{t:TypeId}{j:List TypeId}(b:n≠1)(o:∀fuel,CF P t n e fuel)(he:∀x,∃cs,e x=.agg cs)(h:QX P j A):
  QX P (t::j) (fun r=>∃x bs,r=e x::bs/\A bs):=by
 intro H enc W vs ds L z;obtain⟨v,vs,d,ds,p,q,rfl,rfl,rfl,⟨fuel,B⟩,C⟩:=trodAll_cons z;obtain⟨x,D,c,E,l,F⟩:=o fuel H enc W _ _ _ _ B;obtain⟨bs,G,I,J,K⟩:=h H enc W _ _ _ C;obtain⟨cs,i⟩:=he x;refine⟨e x::bs,⟨x,bs,rfl,G⟩,⟨D,I⟩,?_,fun k=>⟨Um (F fun n b=>k n ?_),K fun n b=>k n ?_⟩⟩
 case refine_2=>rw[DataW.weightsEach,List.mem_append];exact .inl b
 case refine_3=>rw[DataW.weightsEach,List.mem_append];exact .inr b
 simp only[AQ];refine⟨v,vs,rfl,?_,J⟩;have a:=BH c;rw[i]at c l a|-;simp[TV.cells]at c l a;rw[An];cases v with
 |agg cells=>
  refine ⟨cells,rfl,by simpa[Value.cells]using c,List.all_eq_true.2 (fun y u=>E y (by simpa[Value.cells]using u))⟩
 |_=>simp[Value.cells]at a;omega
variable{f:FuncId}{fn:Func}{s:ChangeSpec}{apart fresh handsOn again:Bool}
theorem V3{P:Program}{tb:TypeId}(hl:laidOutB P=true)(S:fn.params.toList.all (fun t=>P.readableRec t&&decide (t<P.types.size))=true)
  (L:fn.resultTypes=#[tb])(o:P.underlying tb=some .bool)(a:s.vars=[])(T:∀(H:Type)(ds:List (DataW H)),ds.length=fn.params.toList.length->s.fn H (ds++[])={results:=[.lit (.bool true)],args:=ds,vars:=[]})
  (U:∀c,A c->TV.sc c->TV.Sms c->AU P f c (.sh (.bool true)))
  (H:Type)(enc:TypeId×Value->H)(W:World)(args:Array Value)(ds M:List (DataW H))(before:List MemPlace)(N:DataW.Whole enc P fn.params.toList s.vars apart W args.toList ds M before)(V:(DataW.weightsEach P (fn.params.toList++s.plain.varTypes P) (ds++M)).all (·<=reachBytes)=true)
  (Z:∀ps,DataW.TrodAll enc P W 0 (fun _=>true) true fn.params.toList args.toList ds ps->∃c,A c/\TV.sc c/\AQ W XJ c args.toList/\((∀n∈DataW.weightsEach P fn.params.toList ds,n<=reachBytes)->TV.Sms c))(r:Sz W:=by exact True.intro):
  Calls P f args W fun e u=>∃v,e=.returned v/\s.post enc P fn apart fresh handsOn again W args v u:=by
 have k:=N;obtain⟨p,q,O,Q,rfl,I,J⟩:=N;rw[a]at Q;obtain⟨rfl,rfl⟩:=trodVars_none Q;obtain⟨c,ha,D,E,K⟩:=Z _ O;have y:=K (fun n hn=>by
  have hv:s.plain.varTypes P=[]:=by unfold DataSpec.varTypes ChangeSpec.plain;rw[a];rfl
  grind)
 obtain ⟨_,l⟩:=(U c ha D y).to0 rfl D;obtain⟨_,hC⟩:=l XJ W args E r;refine hC.mono fun e u=>?_;rintro⟨v,rfl,R,hv⟩;simp[IQ,An]at hv;subst hv;have z:ds.length=fn.params.toList.length:=(trodAll_length O).2;have B:=T H ds z;have G:∀x∈p,x.block<W.heap.size:=fun x i=>k.lt x (List.mem_append_left _ i);have j:∀(b:Nat)(h:Nat->Bool)(hd:Bool),DataW.TrodAll enc P u b h hd fn.resultTypes.toList ((Value.bool true).resultList fn.resultTypes.size) (s.fn H (ds++[])).results []:=by
  intro b h hd;rw[B,L];exact trodAll_cons_mk (shut_bool o _) trodAll_mk0
 have d:∀h:Nat->Bool,(∀x∈p,h x.block=true)->DataW.TrodAll enc P u 0 h true fn.params.toList args.toList (s.fn H (ds++[])).args p:=by
  grind [S8]
 have C:∀h:Nat->Bool,DataW.TrodVars enc P u h s.vars (s.fn H (ds++[])).vars []:=by
  intro h;rw[B,a];rfl
 refine ⟨_,rfl,ds,[],p++[],[],p,[],k,j _ _ _,d _ (fun x i=>decide_eq_true (G x i)),C _,R.frame _,fun _=>?_⟩;refine⟨ok_one L rfl (okWide_bool_mk o _),(s.fn H (ds++[])).results++(s.fn H (ds++[])).args,(s.fn H (ds++[])).vars,p++[],⟨p,[],?_,C _,rfl,?_,J⟩,fun x i _=>i⟩
 .have:=trodAll_append (d (fun _=>true) (fun _ _=>rfl)) (j 0 (fun _=>true) true);simpa using this
 .intro b F i;rw[R.frozen (k.lt _ i)];exact I b F i
theorem aB{P:Program}{tb:TypeId}(l:laidOutB P=true)(d:fn.params.toList.all (fun t=>P.readableRec t&&decide (t<P.types.size))=true)
  (o:fn.resultTypes=#[tb])(i:P.underlying tb=some .bool)(a:s.vars=[])(p:∀(H:Type)(ds:List (DataW H)),ds.length=fn.params.toList.length->s.fn H (ds++[])={results:=[.lit (.bool true)],args:=ds,vars:=[]})
  (q:QX P fn.params.toList A)(r:∀c,A c->TV.sc c->TV.Sms c->AU P f c (.sh (.bool true)))
  (H:Type)(enc:TypeId×Value->H)(W:World)(args:Array Value)(ds j:List (DataW H))(before:List MemPlace)(u:DataW.Whole enc P fn.params.toList s.vars apart W args.toList ds j before)(k:(DataW.weightsEach P (fn.params.toList++s.plain.varTypes P) (ds++j)).all (·<=reachBytes)=true)(b:Sz W:=by exact True.intro):
  Calls P f args W fun e x=>∃v,e=.returned v/\s.post enc P fn apart fresh handsOn again W args v x:=
 V3 l d o i a p r H enc W args ds j before u k (fun _ h=>q H enc W _ _ _ h) b
end Go.Sf
