/- What is read of an argument: a typed value, and that memory holds its tree. -/
import Derived.Test.YtagcclhejecceaaGreatSfLib
import GoSem.ClaimChange
import Derived.SizedLaws
import Derived.Carry
import Derived.ChangeCalls
import Derived.ProofKit
import Derived.OpenShut
set_option linter.all false
namespace Go.Sf
abbrev Va:Nat->Nat->Prop:=fun _ _=>False
mutual
def TV.Sm:TV->Prop
 |.str s=>s.size<=reachBytes|.list _ es=>es.length<=reachBytes/\TV.xB es|.agg cs=>TV.xB cs|_=>True
def TV.xB:Fq->Prop
 |[]=>True|t::ts=>TV.Sm t/\TV.xB ts
end
theorem UR:∀{l:Fq},TV.xB l↔∀t∈l,t.Sm
 |[]=>by simp[TV.xB]|t::l=>by simp[TV.xB,UR (l:=l)]
theorem dx{l m:Fq}:TV.xB (l++m)↔TV.xB l/\TV.xB m:=by grind[UR]
theorem Uu{t:TV}(h:TV.xB t.cells):t.Sm:=by
 cases t<;>first|exact h|exact h.1
def YO{H:Type}(P:Program)(t:TypeId)(d:DataW H):Prop:=∀n∈DataW.weights P t d,n<=reachBytes
def Az(P:Program)(t:TypeId)(n:Nat){X:Type}(e:X->TV)(fuel:Nat):Prop:=
 ∀(H:Type)(enc:TypeId×Value->H)(w:World)(spare:Nat->Bool)(cs:List Value)(d:DataW H)(ps:List MemPlace),DataW.trod enc P w 0 spare true fuel t cs=some (d,ps) ->
  ∃x:X,(e x).WF/\AQ w Va (e x).cells cs/\(∀v∈cs,v.oneCell'=true)/\(e x).cells.length=n/\(YO P t d->TV.xB (e x).cells)
variable{H:Type}{m:Nat}
theorem Qw{P:Program}{el:TypeId}:∀{l:List (DataW H)}{x:DataW H},x∈l->m∈DataW.weights P el x->m∈DataW.weightsAll P el l
 |[],x,a,_=>by cases a
 |y::l,x,a,b=>by
  rw [DataW.weightsAll,List.mem_append];rcases List.mem_cons.1 a with rfl|a
  .exact .inl b
  .exact .inr (Qw a b)
section
variable{P:Program}{t:TypeId}{fuel:Nat}
variable{n:Nat}{X:Type}{e:X->TV}
theorem AT:Az P t n e 0:=by
 intro H enc w a cs d b h;cases h
theorem Xx{k:IntKind}(c:P.underlying t=some (.int k)):Az P t 1 (fun n:Int=>TV.int k n) (fuel+1):=by
 intro H enc w a cs d i h;unfold DataW.trod at h;rw[c]at h;split at h<;>simp_all;rename_i j l n o;obtain⟨b,_,_⟩:=h;obtain⟨rfl,b⟩:=b;refine⟨n,?_,by simp[TV.cells,AQ,Ah],by simp[Value.oneCell'],rfl,fun _=>by simp[TV.cells,TV.xB,TV.Sm]⟩;simpa[TV.WF,Lit.wf]using b
theorem WT(c:P.underlying t=some .bool):Az P t 1 TV.bool (fuel+1):=by
 intro H enc w a cs d i h;unfold DataW.trod at h;rw[c]at h;split at h<;>simp_all;rename_i b;cases b
 .exact .inl ⟨by simp[TV.WF],by simp[TV.cells,AQ,Ah],by simp[Value.oneCell'],rfl,fun _=>by simp[TV.cells,TV.xB,TV.Sm]⟩
 .exact .inr ⟨by simp[TV.WF],by simp[TV.cells,AQ,Ah],by simp[Value.oneCell'],rfl,fun _=>by simp[TV.cells,TV.xB,TV.Sm]⟩
theorem Xy(c:P.underlying t=some .string):Az P t 1 TV.str (fuel+1):=by
 intro H enc w a cs d j h;unfold DataW.trod at h;rw[c]at h;split at h<;>simp_all;rename_i b;refine⟨b,by simpa[TV.WF,Im,maxLen]using h.1,by simp[TV.cells,AQ,Ah],by simp[Value.oneCell'],rfl,fun i=>?_⟩;have:=h.2.1;subst this;have:=i b.data.toList.length (by simp[DataW.weights]);simp[TV.cells,TV.xB,TV.Sm];simpa using this
theorem P9{α β:Type}{f:α->Option β}:∀{l:List α}{r:List β},l.mapM f=some r->r.length=l.length/\∀(i:Nat)(a:α),l[i]?=some a->∃b,r[i]?=some b/\f a=some b
 |[],r,h=>by
  grind
 |x::l,r,h=>by
  simp [List.mapM_cons,Option.bind_eq_bind,Option.bind_eq_some_iff,Option.pure_def,tg]at h;obtain⟨y,d,j,c,rfl⟩:=h;obtain⟨k,o⟩:=P9 c
  grind
variable{w:World}
theorem S2{b:Nat}:∀(ts:Fq)(cs:List Value)(o:Nat),AQ w Va ts cs->(∀v∈cs,v.oneCell'=true)->(∀j v,cs[j]?=some v->w.cell? ⟨b,o+j,none⟩=some v)->C8 w Va ts b o
 |[],_,_,_,_,_=>trivial|t::ts,cs,o,h,a,c=>by
  simp [AQ]at h;obtain⟨v,r,rfl,i,k⟩:=h;refine⟨⟨v,by simpa using c 0 v rfl,fun hf=>hf,a v (by simp),i⟩,?_⟩;refine S2 ts r (o+1) k (fun v hv=>a v (by simp[hv])) (fun j v d=>?_);have:=c (j+1) v (by simpa using d)
  grind
theorem Xr{Q:Nat->X->Prop}:∀(n:Nat),(∀i,i<n->∃x,Q i x)->∃l:List X,l.length=n/\∀i x,l[i]?=some x->Q i x
 |0,_=>⟨[],rfl,fun i x h=>by simp at h⟩|n+1,h=>by
  obtain ⟨l,a,c⟩:=Xr n (fun i hi=>h i (by omega));obtain⟨x,d⟩:=h n (by omega);refine⟨l++[x],by simp[a],fun i y b=>?_⟩
  grind
theorem Vm{a:Addr}{cs:List Value}(h:w.cells? 0 a n=some cs):cs.length=n/\∀j v,cs[j]?=some v->w.cell? (a.add j)=some v:=by
 unfold World.cells? at h;rw[a6 (Nat.zero_le _)]at h;obtain⟨d,k⟩:=P9 h;rw[List.length_range]at d;refine⟨d,fun j v i=>?_⟩;have c:j<n:=by have:=(List.getElem?_eq_some_iff.1 i).1;omega
 obtain ⟨b,l,o⟩:=k j j (by rw[List.getElem?_range c])
 grind
theorem Bt{el:TypeId}(K:P.underlying t=some (.slice el))(V:P.cellsOf el=n)(W:0<n)(L:0<P.bytesOf el)(he:Az P el n e fuel):Az P t 1 (fun l:List X=>TV.list n (l.map e)) (fuel+1):=by
 intro H enc w u cs d ps h;unfold DataW.trod at h;rw[K]at h;split at h
 case h_7=>
  refine ⟨[],⟨Nat.zero_le _,trivial⟩,?_,by simp[Value.oneCell'],rfl,fun _=>⟨⟨Nat.zero_le _,trivial⟩,trivial⟩⟩;simp only[TV.cells,AQ,Ah,List.map_nil];exact⟨_,_,rfl,⟨none,0,rfl,az _,fun _=>trivial,fun Z q=>by cases q⟩,rfl⟩
 case h_8 e1 a len cap hu=>
  simp at hu;subst hu;simp only[]at h;split at h
  .rename_i U;simp only[Option.bind_eq_some_iff,Option.map_eq_some_iff]at h;obtain⟨c,N,rest,O,hd⟩:=h;obtain⟨z,N⟩:=P9 N;rw[List.length_range]at z;simp at hd;obtain⟨hd,_⟩:=hd;subst hd;have hLt:=fun l x F m T=>Qw (P:=P) (el:=el) (H:=H) (m:=m) (l:=l) (x:=x) F T;have F:∀i,i<len->∃x:X,(e x).WF/\(e x).cells.length=n/\(∃o,w.cells? 0 (a.add (i*n)) n=some o/\AQ w Va (e x).cells o/\∀v∈o,v.oneCell'=true)/\(YO P t (.slice (c.map (·.1)) (rest.map (·.1)))->(e x).Sm):=by
    intro i hi;obtain⟨b,hbi,J⟩:=N i i (List.getElem?_range hi);simp[Option.bind_eq_some_iff,V]at J;obtain⟨o,B,J⟩:=J;obtain⟨x,k1,k2,k3,k4,k5⟩:=he H enc w u o b.1 b.2 J;refine⟨x,k1,k4,⟨o,B,k2,k3⟩,fun G=>Uu (k5 (fun m T=>G m ?_))⟩;simp[DataW.weights,K,List.mem_cons,List.mem_append]
    grind
   obtain ⟨l,Q,R⟩:=Xr len F;have k:∀i,i<len->a.spot=none:=by
    intro i hi;obtain⟨x,_,_,⟨o,B,_,_⟩,_⟩:=F 0 (by omega);obtain⟨h2,S⟩:=Vm B;have r:=S 0 _ (List.getElem?_eq_getElem (by omega));simp[Nat.zero_mul,Addr.add,if_true]at r;unfold World.cell? at r;split at r
    .split at r
     .cases r
     .rename_i I;cases M:a.spot with
      |none=>rfl|some p=>simp[M]at I
    .cases r
   refine ⟨l,⟨?_,?_⟩,?_,by simp[Value.oneCell'],rfl,fun G=>?_⟩
   .simp[Q];unfold Im;have:=U.2.2;unfold maxLen at this;omega
   .rw[Bj];intro y D;obtain⟨x,C,rfl⟩:=List.mem_map.1 D;obtain⟨i,hi⟩:=List.getElem?_of_mem C;exact(R i x hi).1
   .simp only[TV.cells,AQ,Ah,c7,Q];refine⟨_,_,rfl,⟨some a,cap,rfl,U.2.1,fun h=>absurd h (by simp),fun Z q=>?_⟩,rfl⟩;simp at q;subst q;refine⟨?_,?_⟩
    .by_cases h0:len=0
     .exact .inl (by have:l=[]:=List.eq_nil_of_length_eq_zero (by omega);rw[this];rfl)
     .exact .inr (k 0 (by omega))
    .rw[QJ];intro i y D;rw[List.getElem?_map,Option.map_eq_some_iff]at D;obtain⟨x,E,rfl⟩:=D;have hi:i<len:=by have:=(List.getElem?_eq_some_iff.1 E).1;omega
     obtain ⟨_,S,⟨o,r,h5,h6⟩,_⟩:=R i x E;obtain⟨_,h7⟩:=Vm r;refine⟨?_,S⟩;refine S2 _ o _ h5 h6 (fun j v hj=>?_);have:=h7 j v hj;have I:=k i hi;obtain⟨ab,ao,sp⟩:=a;simp only at I;subst I;rw[Addr.add_lit,Addr.add_lit]at this;exact this
   .simp[TV.cells,TV.xB,TV.Sm,Q];refine⟨?_,?_⟩
    .have:=G ((c.length+rest.length)*P.bytesOf el) (by simp[DataW.weights,K]);have h9:c.length+rest.length<=(c.length+rest.length)*P.bytesOf el:=Nat.le_mul_of_pos_right _ L;omega
    .rw[UR];intro y D;obtain⟨x,C,rfl⟩:=List.mem_map.1 D;obtain⟨i,hi⟩:=List.getElem?_of_mem C;exact(R i x hi).2.2.2 G
  .cases h
 all_goals simp_all
def VZ(P:Program)(fuel:Nat)(fs:List (TypeId×Nat))(k m:Nat){Y:Type}(g:Y->Fq):Prop:=
 ∀(H:Type)(enc:TypeId×Value->H)(w:World)(spare:Nat->Bool)(cs:List Value)(L:Prop),cs.length=m->(∀f∈fs,∃b,DataW.trod enc P w 0 spare true fuel f.1 ((cs.drop f.2).take (P.cellsOf f.1))=some b/\(L->YO P f.1 b.1)) ->
  ∃y:Y,TV.tn (g y)/\AQ w Va (g y) (cs.drop k)/\(∀v∈cs.drop k,v.oneCell'=true)/\(g y).length=m-k/\(L->TV.xB (g y))
variable{m:Nat}
theorem A7:VZ P fuel [] m m (fun _:Unit=>[]):=by
 intro H enc w a cs L b _;have:cs.drop m=[]:=List.drop_eq_nil_of_le (by omega);exact⟨(),trivial,by rw[this];rfl,by simp[this],by simp,fun _=>trivial⟩
variable{Y:Type}{g:Y->Fq}
theorem AG{f:TypeId}{k n m:Nat}{o:List (TypeId×Nat)}(r:P.cellsOf f=n)(K:k+n<=m)(he:Az P f n e fuel)(u:VZ P fuel o (k+n) m g):
  VZ P fuel ((f,k)::o) k m (fun p:X×Y=>(e p.1).cells++g p.2):=by
 intro H enc w c cs L d h;obtain⟨b,q,B⟩:=h (f,k) (by simp);simp[r]at q;obtain⟨x,i,C,D,E,j⟩:=he H enc w c _ b.1 b.2 q;obtain⟨y,F,G,I,J,l⟩:=u H enc w c cs L d (fun f hf=>h f (by simp[hf]));have a:cs.drop k=(cs.drop k).take n++cs.drop (k+n):=by
  rw [<-List.drop_drop,List.take_append_drop]
 refine ⟨(x,y),?_,?_,?_,?_,fun d=>dx.2 ⟨j (B d),l d⟩⟩
 .refine JV.2 ⟨?_,F⟩;cases z:e x<;>rw[z]at i<;>first|exact i|exact⟨i,trivial⟩
 .rw[a];exact Ho C G
 .rw[a];intro v hv;rcases List.mem_append.1 hv with hv|hv
  .exact D v hv
  .exact I v hv
 .simp[E,J];omega
theorem Ap{q:Array Field}{L:List (TypeId×Nat)}(conv:Y->X)(r:P.underlying t=some (.struct q))(v:q.toList.map (fun f=>(f.type,f.offset))=L)(x:P.cellsOf t=m)
  (z:VZ P fuel L 0 m g)(k:∀y,e (conv y)=.agg (g y)):Az P t m e (fuel+1):=by
 intro H enc w c cs d K h;unfold DataW.trod at h;rw[r]at h;split at h
 case h_9 fs' cs' hu=>
  simp at hu;subst hu;split at h
  .rename_i C;simp only[Option.map_eq_some_iff]at h;obtain⟨xs,l,hd⟩:=h;simp at hd;obtain⟨hd,_⟩:=hd;subst hd;obtain⟨_,l⟩:=P9 l;obtain⟨y,D,E,F,G,I⟩:=z H enc w c _ (YO P t (.agg (xs.map (·.1)))) (by rw[C,x]) (fun f hf=>by
    rw [<-v]at hf;obtain⟨u,o,rfl⟩:=List.mem_map.1 hf;obtain⟨i,hi⟩:=List.getElem?_of_mem o;obtain⟨b,p,J⟩:=l i u hi;refine⟨b,J,fun a n B=>a n ?_⟩;simp[DataW.weights,r];exact DataW.weights_mem_each (j:=i) (t:=u.type) (d:=b.1) (by rw[List.getElem?_map,hi];rfl) (by rw[List.getElem?_map,p];rfl) n B)
   refine ⟨conv y,?_,?_,?_,?_,fun a=>by rw[k];exact I a⟩
   .rw[k];exact D
   .rw[k];simpa[TV.cells]using E
   .simpa using F
   .rw[k];simpa[TV.cells]using G
  .cases h
 all_goals simp_all
end
end Go.Sf
namespace Go.Sf
open Go.ChangeShapes Go.WideShapes Go.ChangeAt Go.RowKit
variable{H:Type}
theorem R1{enc:TypeId×Value->H}{P:Program}(k:laidOutB P=true){W l:World}(o:Below W.heap.size W l){r:Nat->Bool}:
  ∀{ts:List TypeId}{vs:List Value}{ds:List (DataW H)}{i:List MemPlace},ts.all (fun t=>P.readableRec t&&decide (t<P.types.size))=true->DataW.TrodAll enc P W 0 (fun _=>true) true ts vs ds i ->
   (∀x∈i,x.block<W.heap.size)->(∀x∈i,r x.block=true)->DataW.TrodAll enc P l 0 r true ts vs ds i
 |[],_,_,_,_,h,_,_=>by
  obtain ⟨rfl,rfl,rfl⟩:=trodAll_nil h;exact trodAll_mk0
 |t::ts,_,_,_,j,h,b,c=>by
  obtain ⟨v,vs,d,ds,p,q,rfl,rfl,rfl,u,y⟩:=trodAll_cons h;simp only[List.all_cons,pr,wq]at j;refine⟨p,q,?_,R1 k o j.2 y (fun x a=>b x (List.mem_append_right _ a)) (fun x a=>c x (List.mem_append_right _ a)),rfl⟩;exact WideElems.Trod_stays k j.1.1 j.1.2 u (fun x a=>o.same (b x (List.mem_append_left _ a))) (fun x a=>c x (List.mem_append_left _ a))
def PV(P:Program)(ts:List TypeId)(A:Fq->Prop):Prop:=
 ∀(H:Type)(enc:TypeId×Value->H)(W:World)(vs:List Value)(ds:List (DataW H))(ps:List MemPlace),DataW.TrodAll enc P W 0 (fun _=>true) true ts vs ds ps->∃as,A as/\TV.tn as/\AQ W Va as vs/\((∀n∈DataW.weightsEach P ts ds,n<=reachBytes)->TV.xB as)
theorem S0{P:Program}:PV P [] (fun a=>a=[]):=by
 intro H enc W vs ds b h;obtain⟨rfl,rfl,rfl⟩:=trodAll_nil h;exact⟨[],rfl,trivial,rfl,fun _=>trivial⟩
variable{ts:List TypeId}{A:Fq->Prop}{n:Nat}{X:Type}{e:X->TV}
theorem Pk{P:Program}{t:TypeId}(b:n≠1)(l:∀fuel,Az P t n e fuel)(he:∀x,∃cs,e x=.agg cs)(h:PV P ts A):
  PV P (t::ts) (fun o=>∃x bs,o=e x::bs/\A bs):=by
 intro H enc W vs ds K u;obtain⟨v,vs,d,ds,p,q,rfl,rfl,rfl,⟨fuel,z⟩,B⟩:=trodAll_cons u;obtain⟨x,C,c,D,k,E⟩:=l fuel H enc W _ _ _ _ z;obtain⟨bs,F,G,I,J⟩:=h H enc W _ _ _ B;obtain⟨cs,i⟩:=he x;refine⟨e x::bs,⟨x,bs,rfl,F⟩,⟨C,G⟩,?_,fun j=>⟨Uu (E fun n b=>j n ?_),J fun n b=>j n ?_⟩⟩
 case refine_2=>rw[DataW.weightsEach,List.mem_append];exact .inl b
 case refine_3=>rw[DataW.weightsEach,List.mem_append];exact .inr b
 simp only[AQ];refine⟨v,vs,rfl,?_,I⟩;have a:=BE c;rw[i]at c k a|-;simp[TV.cells]at c k a;rw[Ah];cases v with
 |agg cells=>
  refine ⟨cells,rfl,by simpa[Value.cells]using c,List.all_eq_true.2 (fun y r=>D y (by simpa[Value.cells]using r))⟩
 |_=>simp[Value.cells]at a;omega
variable{f:FuncId}{fn:Func}{s:ChangeSpec}{apart fresh handsOn again:Bool}
theorem P7{P:Program}{tb:TypeId}(hl:laidOutB P=true)(R:fn.params.toList.all (fun t=>P.readableRec t&&decide (t<P.types.size))=true)
  (M:fn.resultTypes=#[tb])(r:P.underlying tb=some .bool)(a:s.vars=[])(S:∀(H:Type)(ds:List (DataW H)),ds.length=fn.params.toList.length->s.fn H (ds++[])={results:=[.lit (.bool true)],args:=ds,vars:=[]})
  (T:∀c,A c->TV.tn c->TV.xB c->AR P f c (.sh (.bool true)))
  (H:Type)(enc:TypeId×Value->H)(W:World)(args:Array Value)(ds gs:List (DataW H))(h:List MemPlace)(N:DataW.Whole enc P fn.params.toList s.vars apart W args.toList ds gs h)(U:(DataW.weightsEach P (fn.params.toList++s.plain.varTypes P) (ds++gs)).all (·<=reachBytes)=true)
  (V:∀Z,DataW.TrodAll enc P W 0 (fun _=>true) true fn.params.toList args.toList ds Z->∃c,A c/\TV.tn c/\AQ W Va c args.toList/\((∀n∈DataW.weightsEach P fn.params.toList ds,n<=reachBytes)->TV.xB c))(u:Rv W:=by exact True.intro):
  Calls P f args W fun e y=>∃v,e=.returned v/\s.post enc P fn apart fresh handsOn again W args v y:=by
 have l:=N;obtain⟨p,q,hT,O,rfl,J,K⟩:=N;rw[a]at O;obtain⟨rfl,rfl⟩:=trodVars_none O;obtain⟨c,ha,E,F,L⟩:=V _ hT;have z:=L (fun n hn=>by
  have hv:s.plain.varTypes P=[]:=by unfold DataSpec.varTypes ChangeSpec.plain;rw[a];rfl
  grind)
 obtain ⟨_,o⟩:=(T c ha E z).to0 rfl E;obtain⟨_,hC⟩:=o Va W args F u;refine hC.mono fun e y=>?_;rintro⟨v,rfl,Q,hv⟩;simp[Ht,Ah]at hv;subst hv;have B:ds.length=fn.params.toList.length:=(trodAll_length hT).2;have C:=S H ds B;have I:∀x∈p,x.block<W.heap.size:=fun x j=>l.lt x (List.mem_append_left _ j);have k:∀(b:Nat)(i:Nat->Bool)(hd:Bool),DataW.TrodAll enc P y b i hd fn.resultTypes.toList ((Value.bool true).resultList fn.resultTypes.size) (s.fn H (ds++[])).results []:=by
  intro b i hd;rw[C,M];exact trodAll_cons_mk (shut_bool r _) trodAll_mk0
 have d:∀i:Nat->Bool,(∀x∈p,i x.block=true)->DataW.TrodAll enc P y 0 i true fn.params.toList args.toList (s.fn H (ds++[])).args p:=by
  grind [R1]
 have D:∀i:Nat->Bool,DataW.TrodVars enc P y i s.vars (s.fn H (ds++[])).vars []:=by
  intro i;rw[C,a];rfl
 refine ⟨_,rfl,ds,[],p++[],[],p,[],l,k _ _ _,d _ (fun x j=>decide_eq_true (I x j)),D _,Q.frame _,fun _=>?_⟩;refine⟨ok_one M rfl (okWide_bool_mk r _),(s.fn H (ds++[])).results++(s.fn H (ds++[])).args,(s.fn H (ds++[])).vars,p++[],⟨p,[],?_,D _,rfl,?_,K⟩,fun x j _=>j⟩
 .have:=trodAll_append (d (fun _=>true) (fun _ _=>rfl)) (k 0 (fun _=>true) true);simpa using this
 .intro b G j;rw[Q.frozen (l.lt _ j)];exact J b G j
theorem ZV{P:Program}{tb:TypeId}(l:laidOutB P=true)(i:fn.params.toList.all (fun t=>P.readableRec t&&decide (t<P.types.size))=true)
  (o:fn.resultTypes=#[tb])(j:P.underlying tb=some .bool)(b:s.vars=[])(p:∀(H:Type)(ds:List (DataW H)),ds.length=fn.params.toList.length->s.fn H (ds++[])={results:=[.lit (.bool true)],args:=ds,vars:=[]})
  (q:PV P fn.params.toList A)(r:∀d,A d->TV.tn d->TV.xB d->AR P f d (.sh (.bool true)))
  (H:Type)(enc:TypeId×Value->H)(W:World)(args:Array Value)(ds gs:List (DataW H))(a:List MemPlace)(u:DataW.Whole enc P fn.params.toList s.vars apart W args.toList ds gs a)(k:(DataW.weightsEach P (fn.params.toList++s.plain.varTypes P) (ds++gs)).all (·<=reachBytes)=true)(c:Rv W:=by exact True.intro):
  Calls P f args W fun e x=>∃v,e=.returned v/\s.post enc P fn apart fresh handsOn again W args v x:=
 P7 l i o j b p r H enc W args ds gs a u k (fun _ h=>q H enc W _ _ _ h) c
def ME(P:Program)(ts:List TypeId)(A:Fq->Prop):Prop:=
 ∀(H:Type)(enc:TypeId×Value->H)(W:World)(base:Nat)(vs:List Value)(ds:List (DataW H))(ps:List MemPlace),(∀(j:Nat)t v,ts[j]?=some t->vs[j]?=some v->Value.okWide P W .any base t v)->DataW.TrodAll enc P W 0 (fun _=>true) true ts vs ds ps->∃as,A as/\TV.tn as/\AQ W Va as vs/\((∀n∈DataW.weightsEach P ts ds,n<=reachBytes)->TV.xB as)
theorem W9{P:Program}{t:TypeId}{B A:Fq->Prop}(c:ME P [t] B)(i:ME P ts A):ME P (t::ts) (fun k=>∃cs bs,k=cs++bs/\B cs/\A bs):=by
 intro H enc W base vs ds L l h;obtain⟨v,vs,d,ds,p,q,rfl,rfl,rfl,C,D⟩:=trodAll_cons h;obtain⟨k,a1,a2,x,E⟩:=c H enc W base [v] [d] (p++[]) (fun j u o c i=>by
  match j with
  |0=>exact l 0 u o c i|j+1=>simp at c) (trodAll_cons_mk C trodAll_mk0)
 obtain ⟨bs,F,G,I,J⟩:=i H enc W base vs ds q (fun j u o c i=>l (j+1) u o c i) D;cases k with
 |nil=>simp[AQ]at x|cons a k=>
  simp only[AQ]at x;obtain⟨o,r,hv,K,z⟩:=x;cases hv;cases k with
  |cons _ _=>simp only[AQ]at z;obtain⟨_,_,h,_⟩:=z;cases h
  |nil=>
   refine ⟨a::bs,⟨_,_,rfl,a1,F⟩,⟨a2.1,G⟩,?_,fun y=>⟨(E fun n b=>y n ?_).1,J fun n b=>y n ?_⟩⟩
   .simp only[AQ];exact⟨v,vs,rfl,K,I⟩
   .simp only[DataW.weightsEach,List.mem_append]at b|-;rcases b with b|b;exact .inl b;cases b
   .simp[DataW.weightsEach,List.mem_append];exact .inr b
theorem YI{P:Program}{t:TypeId}(b:n≠1)(c:∀fuel,Az P t n e fuel)(he:∀x,∃cs,e x=.agg cs):ME P [t] (fun a=>∃x,a=[e x]):=by
 intro H enc W base vs ds i d h;obtain⟨a,⟨x,bs,rfl,rfl⟩,k⟩:=Pk b c he S0 H enc W _ _ _ h;exact⟨_,⟨x,rfl⟩,k⟩
theorem Z0{P:Program}{t el:TypeId}(c:P.underlying t=some (.slice el))(h:∀fuel,Az P t 1 (fun l:List X=>TV.list n (l.map e)) fuel):ME P [t] (fun i=>∃l:List X,i=[.list n (l.map e)]):=by
 intro H enc W base vs ds C b o;obtain⟨v,vs,d,ds,p,q,rfl,rfl,rfl,⟨fuel,r⟩,u⟩:=trodAll_cons o;obtain⟨rfl,rfl,rfl⟩:=trodAll_nil u;obtain⟨x,y,z,D,E,B⟩:=h fuel H enc W _ _ _ _ r;obtain⟨a,len,cap,rfl⟩:=okWide_slice c (b 0 t v rfl rfl);exact⟨_,⟨x,rfl⟩,⟨y,trivial⟩,by simpa[TV.cells,Value.cells]using z,fun j=>by simpa[TV.cells]using B fun n k=>j n (by rw[DataW.weightsEach,List.mem_append];exact .inl k)⟩
end Go.Sf
