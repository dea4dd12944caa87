/- What is read of an argument: a typed value, and that memory holds its tree. -/
import Derived.Test.YthhobbgaejimgaaGreatDoorSfLib
import GoSem.ClaimChange
import Derived.SizedLaws
import Derived.Carry
import Derived.ChangeCalls
import Derived.ProofKit
import Derived.OpenShut
set_option linter.all false
namespace Go.Sf
abbrev Qc:Nat->Nat->Prop:=fun _ _=>False
mutual
def TV.Sm:TV->Prop
 |.str s=>s.size<=reachBytes|.list _ es=>es.length<=reachBytes/\TV.t1 es|.agg cs=>TV.t1 cs|_=>True
def TV.t1:Fq->Prop
 |[]=>True|t::ts=>TV.Sm t/\TV.t1 ts
end
theorem Oa:∀{l:Fq},TV.t1 l↔∀t∈l,t.Sm
 |[]=>by simp[TV.t1]|t::l=>by simp[TV.t1,Oa (l:=l)]
theorem Vb{l m:Fq}:TV.t1 (l++m)↔TV.t1 l/\TV.t1 m:=by grind[Oa]
theorem Ou{t:TV}(h:TV.t1 t.cells):t.Sm:=by
 cases t<;>first|exact h|exact h.1
def RP{H:Type}(P:Program)(t:TypeId)(d:DataW H):Prop:=∀n∈DataW.weights P t d,n<=reachBytes
def Ec(P:Program)(t:TypeId)(n:Nat){X:Type}(e:X->TV)(fuel:Nat):Prop:=
 ∀(H:Type)(enc:TypeId×Value->H)(w:World)(spare:Nat->Bool)(cs:List Value)(d:DataW H)(ps:List MemPlace),DataW.trod enc P w 0 spare true fuel t cs=some (d,ps) ->
  ∃x:X,(e x).WF/\AI w Qc (e x).cells cs/\(∀v∈cs,v.oneCell'=true)/\(e x).cells.length=n/\(RP P t d->TV.t1 (e x).cells)
variable{H:Type}{m:Nat}
theorem L3{P:Program}{el:TypeId}:∀{l:List (DataW H)}{x:DataW H},x∈l->m∈DataW.weights P el x->m∈DataW.weightsAll P el l
 |[],x,a,_=>by cases a
 |y::l,x,a,b=>by
  rw [DataW.weightsAll,List.mem_append];rcases List.mem_cons.1 a with rfl|a
  .exact .inl b
  .exact .inr (L3 a b)
section
variable{P:Program}{t:TypeId}{fuel:Nat}
variable{n:Nat}{X:Type}{e:X->TV}
theorem DD:Ec P t n e 0:=by
 intro H enc w a cs d b h;cases h
theorem Wg{k:IntKind}(c:P.underlying t=some (.int k)):Ec P t 1 (fun n:Int=>TV.int k n) (fuel+1):=by
 intro H enc w a cs d i h;unfold DataW.trod at h;rw[c]at h;split at h<;>simp_all;rename_i j l n o;obtain⟨b,_,_⟩:=h;obtain⟨rfl,b⟩:=b;refine⟨n,?_,by simp[TV.cells,AI,AS],by simp[Value.oneCell'],rfl,fun _=>by simp[TV.cells,TV.t1,TV.Sm]⟩;simpa[TV.WF,Lit.wf]using b
theorem K0{α β:Type}{f:α->Option β}:∀{l:List α}{r:List β},l.mapM f=some r->r.length=l.length/\∀(i:Nat)(a:α),l[i]?=some a->∃b,r[i]?=some b/\f a=some b
 |[],r,h=>by
  grind
 |x::l,r,h=>by
  simp [List.mapM_cons,Option.bind_eq_bind,Option.bind_eq_some_iff,Option.pure_def,rC]at h;obtain⟨y,d,j,c,rfl⟩:=h;obtain⟨k,o⟩:=K0 c
  grind
variable{w:World}
theorem N8{b:Nat}:∀(a:Fq)(cs:List Value)(o:Nat),AI w Qc a cs->(∀v∈cs,v.oneCell'=true)->(∀j v,cs[j]?=some v->w.cell? ⟨b,o+j,none⟩=some v)->CF w Qc a b o
 |[],_,_,_,_,_=>trivial|t::a,cs,o,h,c,d=>by
  simp [AI]at h;obtain⟨v,r,rfl,k,l⟩:=h;refine⟨⟨v,by simpa using d 0 v rfl,fun hf=>hf,c v (by simp),k⟩,?_⟩;refine N8 a r (o+1) l (fun v hv=>c v (by simp[hv])) (fun j v i=>?_);have:=d (j+1) v (by simpa using i)
  grind
theorem Q3{Q:Nat->X->Prop}:∀(n:Nat),(∀i,i<n->∃x,Q i x)->∃l:List X,l.length=n/\∀i x,l[i]?=some x->Q i x
 |0,_=>⟨[],rfl,fun i x h=>by simp at h⟩|n+1,h=>by
  obtain ⟨l,a,c⟩:=Q3 n (fun i hi=>h i (by omega));obtain⟨x,d⟩:=h n (by omega);refine⟨l++[x],by simp[a],fun i y b=>?_⟩
  grind
theorem Pa{a:Addr}{cs:List Value}(h:w.cells? 0 a n=some cs):cs.length=n/\∀j v,cs[j]?=some v->w.cell? (a.add j)=some v:=by
 unfold World.cells? at h;rw[az (Nat.zero_le _)]at h;obtain⟨d,k⟩:=K0 h;rw[List.length_range]at d;refine⟨d,fun j v i=>?_⟩;have c:j<n:=by have:=(List.getElem?_eq_some_iff.1 i).1;omega
 obtain ⟨b,l,o⟩:=k j j (by rw[List.getElem?_range c])
 grind
theorem JO{el:TypeId}(K:P.underlying t=some (.slice el))(V:P.cellsOf el=n)(W:0<n)(L:0<P.bytesOf el)(he:Ec P el n e fuel):Ec P t 1 (fun l:List X=>TV.list n (l.map e)) (fuel+1):=by
 intro H enc w u cs d ps h;unfold DataW.trod at h;rw[K]at h;split at h
 case h_7=>
  refine ⟨[],⟨Nat.zero_le _,trivial⟩,?_,by simp[Value.oneCell'],rfl,fun _=>⟨⟨Nat.zero_le _,trivial⟩,trivial⟩⟩;simp only[TV.cells,AI,AS,List.map_nil];exact⟨_,_,rfl,⟨none,0,rfl,ca _,fun _=>trivial,fun Z q=>by cases q⟩,rfl⟩
 case h_8 e1 a len cap hu=>
  simp at hu;subst hu;simp only[]at h;split at h
  .rename_i U;simp only[Option.bind_eq_some_iff,Option.map_eq_some_iff]at h;obtain⟨c,N,rest,O,hd⟩:=h;obtain⟨z,N⟩:=K0 N;rw[List.length_range]at z;simp at hd;obtain⟨hd,_⟩:=hd;subst hd;have hLt:=fun l x F m T=>L3 (P:=P) (el:=el) (H:=H) (m:=m) (l:=l) (x:=x) F T;have F:∀i,i<len->∃x:X,(e x).WF/\(e x).cells.length=n/\(∃o,w.cells? 0 (a.add (i*n)) n=some o/\AI w Qc (e x).cells o/\∀v∈o,v.oneCell'=true)/\(RP P t (.slice (c.map (·.1)) (rest.map (·.1)))->(e x).Sm):=by
    intro i hi;obtain⟨b,hbi,J⟩:=N i i (List.getElem?_range hi);simp[Option.bind_eq_some_iff,V]at J;obtain⟨o,B,J⟩:=J;obtain⟨x,k1,k2,k3,k4,k5⟩:=he H enc w u o b.1 b.2 J;refine⟨x,k1,k4,⟨o,B,k2,k3⟩,fun G=>Ou (k5 (fun m T=>G m ?_))⟩;simp[DataW.weights,K,List.mem_cons,List.mem_append]
    grind
   obtain ⟨l,Q,R⟩:=Q3 len F;have k:∀i,i<len->a.spot=none:=by
    intro i hi;obtain⟨x,_,_,⟨o,B,_,_⟩,_⟩:=F 0 (by omega);obtain⟨h2,S⟩:=Pa B;have r:=S 0 _ (List.getElem?_eq_getElem (by omega));simp[Nat.zero_mul,Addr.add,if_true]at r;unfold World.cell? at r;split at r
    .split at r
     .cases r
     .rename_i I;cases M:a.spot with
      |none=>rfl|some p=>simp[M]at I
    .cases r
   refine ⟨l,⟨?_,?_⟩,?_,by simp[Value.oneCell'],rfl,fun G=>?_⟩
   .simp[Q];unfold Dy;have:=U.2.2;unfold maxLen at this;omega
   .rw[BA];intro y D;obtain⟨x,C,rfl⟩:=List.mem_map.1 D;obtain⟨i,hi⟩:=List.getElem?_of_mem C;exact(R i x hi).1
   .simp only[TV.cells,AI,AS,fd,Q];refine⟨_,_,rfl,⟨some a,cap,rfl,U.2.1,fun h=>absurd h (by simp),fun Z q=>?_⟩,rfl⟩;simp at q;subst q;refine⟨?_,?_⟩
    .by_cases h0:len=0
     .exact .inl (by have:l=[]:=List.eq_nil_of_length_eq_zero (by omega);rw[this];rfl)
     .exact .inr (k 0 (by omega))
    .rw[K6];intro i y D;rw[List.getElem?_map,Option.map_eq_some_iff]at D;obtain⟨x,E,rfl⟩:=D;have hi:i<len:=by have:=(List.getElem?_eq_some_iff.1 E).1;omega
     obtain ⟨_,S,⟨o,r,h5,h6⟩,_⟩:=R i x E;obtain⟨_,h7⟩:=Pa r;refine⟨?_,S⟩;refine N8 _ o _ h5 h6 (fun j v hj=>?_);have:=h7 j v hj;have I:=k i hi;obtain⟨ab,ao,sp⟩:=a;simp only at I;subst I;rw[Addr.add_lit,Addr.add_lit]at this;exact this
   .simp[TV.cells,TV.t1,TV.Sm,Q];refine⟨?_,?_⟩
    .have:=G ((c.length+rest.length)*P.bytesOf el) (by simp[DataW.weights,K]);have h9:c.length+rest.length<=(c.length+rest.length)*P.bytesOf el:=Nat.le_mul_of_pos_right _ L;omega
    .rw[Oa];intro y D;obtain⟨x,C,rfl⟩:=List.mem_map.1 D;obtain⟨i,hi⟩:=List.getElem?_of_mem C;exact(R i x hi).2.2.2 G
  .cases h
 all_goals simp_all
def PJ(P:Program)(fuel:Nat)(fs:List (TypeId×Nat))(k m:Nat){Y:Type}(g:Y->Fq):Prop:=
 ∀(H:Type)(enc:TypeId×Value->H)(w:World)(spare:Nat->Bool)(cs:List Value)(L:Prop),cs.length=m->(∀f∈fs,∃b,DataW.trod enc P w 0 spare true fuel f.1 ((cs.drop f.2).take (P.cellsOf f.1))=some b/\(L->RP P f.1 b.1)) ->
  ∃y:Y,TV.rI (g y)/\AI w Qc (g y) (cs.drop k)/\(∀v∈cs.drop k,v.oneCell'=true)/\(g y).length=m-k/\(L->TV.t1 (g y))
variable{m:Nat}
theorem GO:PJ P fuel [] m m (fun _:Unit=>[]):=by
 intro H enc w a cs L b _;have:cs.drop m=[]:=List.drop_eq_nil_of_le (by omega);exact⟨(),trivial,by rw[this];rfl,by simp[this],by simp,fun _=>trivial⟩
variable{Y:Type}{g:Y->Fq}
theorem CB{f:TypeId}{k n m:Nat}{o:List (TypeId×Nat)}(r:P.cellsOf f=n)(K:k+n<=m)(he:Ec P f n e fuel)(u:PJ P fuel o (k+n) m g):
  PJ P fuel ((f,k)::o) k m (fun p:X×Y=>(e p.1).cells++g p.2):=by
 intro H enc w c cs L d h;obtain⟨b,q,B⟩:=h (f,k) (by simp);simp[r]at q;obtain⟨x,i,C,D,E,j⟩:=he H enc w c _ b.1 b.2 q;obtain⟨y,F,G,I,J,l⟩:=u H enc w c cs L d (fun f hf=>h f (by simp[hf]));have a:cs.drop k=(cs.drop k).take n++cs.drop (k+n):=by
  rw [<-List.drop_drop,List.take_append_drop]
 refine ⟨(x,y),?_,?_,?_,?_,fun d=>Vb.2 ⟨j (B d),l d⟩⟩
 .refine Ga.2 ⟨?_,F⟩;cases z:e x<;>rw[z]at i<;>first|exact i|exact⟨i,trivial⟩
 .rw[a];exact FE C G
 .rw[a];intro v hv;rcases List.mem_append.1 hv with hv|hv
  .exact D v hv
  .exact I v hv
 .simp[E,J];omega
theorem Ex{q:Array Field}{L:List (TypeId×Nat)}(conv:Y->X)(r:P.underlying t=some (.struct q))(v:q.toList.map (fun f=>(f.type,f.offset))=L)(x:P.cellsOf t=m)
  (z:PJ P fuel L 0 m g)(k:∀y,e (conv y)=.agg (g y)):Ec P t m e (fuel+1):=by
 intro H enc w c cs d J h;unfold DataW.trod at h;rw[r]at h;split at h
 case h_9 fs' cs' hu=>
  simp at hu;subst hu;split at h
  .rename_i C;simp only[Option.map_eq_some_iff]at h;obtain⟨xs,l,hd⟩:=h;simp at hd;obtain⟨hd,_⟩:=hd;subst hd;obtain⟨_,l⟩:=K0 l;obtain⟨y,D,E,k3,F,G⟩:=z H enc w c _ (RP P t (.agg (xs.map (·.1)))) (by rw[C,x]) (fun f hf=>by
    rw [<-v]at hf;obtain⟨u,o,rfl⟩:=List.mem_map.1 hf;obtain⟨i,hi⟩:=List.getElem?_of_mem o;obtain⟨b,p,I⟩:=l i u hi;refine⟨b,I,fun a n B=>a n ?_⟩;simp[DataW.weights,r];exact DataW.weights_mem_each (j:=i) (t:=u.type) (d:=b.1) (by rw[List.getElem?_map,hi];rfl) (by rw[List.getElem?_map,p];rfl) n B)
   refine ⟨conv y,?_,?_,?_,?_,fun a=>by rw[k];exact G a⟩
   .rw[k];exact D
   .rw[k];simpa[TV.cells]using E
   .simpa using k3
   .rw[k];simpa[TV.cells]using F
  .cases h
 all_goals simp_all
end
end Go.Sf
namespace Go.Sf
open Go.ChangeShapes Go.WideShapes Go.ChangeAt Go.RowKit
variable{H:Type}
theorem NJ{enc:TypeId×Value->H}{P:Program}(l:laidOutB P=true){W o:World}(r:Below W.heap.size W o){u:Nat->Bool}:
  ∀{i:List TypeId}{vs:List Value}{ds:List (DataW H)}{j:List MemPlace},i.all (fun t=>P.readableRec t&&decide (t<P.types.size))=true->DataW.TrodAll enc P W 0 (fun _=>true) true i vs ds j ->
   (∀x∈j,x.block<W.heap.size)->(∀x∈j,u x.block=true)->DataW.TrodAll enc P o 0 u true i vs ds j
 |[],_,_,_,_,h,_,_=>by
  obtain ⟨rfl,rfl,rfl⟩:=trodAll_nil h;exact trodAll_mk0
 |t::i,_,_,_,k,h,b,c=>by
  obtain ⟨v,vs,d,ds,p,q,rfl,rfl,rfl,y,z⟩:=trodAll_cons h;simp only[List.all_cons,rt,sN]at k;refine⟨p,q,?_,NJ l r k.2 z (fun x a=>b x (List.mem_append_right _ a)) (fun x a=>c x (List.mem_append_right _ a)),rfl⟩;exact WideElems.Trod_stays l k.1.1 k.1.2 y (fun x a=>r.same (b x (List.mem_append_left _ a))) (fun x a=>c x (List.mem_append_left _ a))
def KO(P:Program)(ts:List TypeId)(A:Fq->Prop):Prop:=
 ∀(H:Type)(enc:TypeId×Value->H)(W:World)(vs:List Value)(ds:List (DataW H))(ps:List MemPlace),DataW.TrodAll enc P W 0 (fun _=>true) true ts vs ds ps->∃as,A as/\TV.rI as/\AI W Qc as vs/\((∀n∈DataW.weightsEach P ts ds,n<=reachBytes)->TV.t1 as)
theorem Sn{P:Program}:KO P [] (fun a=>a=[]):=by
 intro H enc W vs ds b h;obtain⟨rfl,rfl,rfl⟩:=trodAll_nil h;exact⟨[],rfl,trivial,rfl,fun _=>trivial⟩
variable{A:Fq->Prop}{n:Nat}{X:Type}{e:X->TV}
theorem Sl{P:Program}{t:TypeId}{j:List TypeId}(b:n≠1)(o:∀fuel,Ec P t n e fuel)(he:∀x,∃cs,e x=.agg cs)(h:KO P j A):
  KO P (t::j) (fun r=>∃x bs,r=e x::bs/\A bs):=by
 intro H enc W vs ds K z;obtain⟨v,vs,d,ds,p,q,rfl,rfl,rfl,⟨fuel,B⟩,C⟩:=trodAll_cons z;obtain⟨x,D,c,k3,l,E⟩:=o fuel H enc W _ _ _ _ B;obtain⟨bs,F,G,I,J⟩:=h H enc W _ _ _ C;obtain⟨cs,i⟩:=he x;refine⟨e x::bs,⟨x,bs,rfl,F⟩,⟨D,G⟩,?_,fun k=>⟨Ou (E fun n b=>k n ?_),J fun n b=>k n ?_⟩⟩
 case refine_2=>rw[DataW.weightsEach,List.mem_append];exact .inl b
 case refine_3=>rw[DataW.weightsEach,List.mem_append];exact .inr b
 simp only[AI];refine⟨v,vs,rfl,?_,I⟩;have a:=Av c;rw[i]at c l a|-;simp[TV.cells]at c l a;rw[AS];cases v with
 |agg cells=>
  refine ⟨cells,rfl,by simpa[Value.cells]using c,List.all_eq_true.2 (fun y u=>k3 y (by simpa[Value.cells]using u))⟩
 |_=>simp[Value.cells]at a;omega
variable{f:FuncId}{fn:Func}{s:ChangeSpec}{apart fresh handsOn again:Bool}
theorem Pv{P:Program}{tb:TypeId}(hl:laidOutB P=true)(T:fn.params.toList.all (fun t=>P.readableRec t&&decide (t<P.types.size))=true)
  (M:fn.resultTypes=#[tb])(r:P.underlying tb=some .bool)(a:s.vars=[])(U:∀(H:Type)(ds:List (DataW H)),ds.length=fn.params.toList.length->s.fn H (ds++[])={results:=[.lit (.bool true)],args:=ds,vars:=[]})
  (V:∀c,A c->TV.rI c->TV.t1 c->AH P f c (.sh (.bool true)))
  (H:Type)(enc:TypeId×Value->H)(W:World)(args:Array Value)(ds N:List (DataW H))(h:List MemPlace)(O:DataW.Whole enc P fn.params.toList s.vars apart W args.toList ds N h)(Z:(DataW.weightsEach P (fn.params.toList++s.plain.varTypes P) (ds++N)).all (·<=reachBytes)=true)
  (hA:∀ps,DataW.TrodAll enc P W 0 (fun _=>true) true fn.params.toList args.toList ds ps->∃c,A c/\TV.rI c/\AI W Qc c args.toList/\((∀n∈DataW.weightsEach P fn.params.toList ds,n<=reachBytes)->TV.t1 c))(u:IU W:=by exact True.intro):
  Calls P f args W fun e y=>∃v,e=.returned v/\s.post enc P fn apart fresh handsOn again W args v y:=by
 have l:=O;obtain⟨p,q,Q,R,rfl,J,K⟩:=O;rw[a]at R;obtain⟨rfl,rfl⟩:=trodVars_none R;obtain⟨c,ha,E,F,L⟩:=hA _ Q;have z:=L (fun n hn=>by
  have hv:s.plain.varTypes P=[]:=by unfold DataSpec.varTypes ChangeSpec.plain;rw[a];rfl
  grind)
 obtain ⟨_,o⟩:=(V c ha E z).vk rfl E;obtain⟨_,hC⟩:=o Qc W args F u;refine hC.mono fun e y=>?_;rintro⟨v,rfl,S,hv⟩;simp[CJ,AS]at hv;subst hv;have B:ds.length=fn.params.toList.length:=(trodAll_length Q).2;have C:=U H ds B;have I:∀x∈p,x.block<W.heap.size:=fun x j=>l.lt x (List.mem_append_left _ j);have k:∀(b:Nat)(i:Nat->Bool)(hd:Bool),DataW.TrodAll enc P y b i hd fn.resultTypes.toList ((Value.bool true).resultList fn.resultTypes.size) (s.fn H (ds++[])).results []:=by
  intro b i hd;rw[C,M];exact trodAll_cons_mk (shut_bool r _) trodAll_mk0
 have d:∀i:Nat->Bool,(∀x∈p,i x.block=true)->DataW.TrodAll enc P y 0 i true fn.params.toList args.toList (s.fn H (ds++[])).args p:=by
  grind [NJ]
 have D:∀i:Nat->Bool,DataW.TrodVars enc P y i s.vars (s.fn H (ds++[])).vars []:=by
  intro i;rw[C,a];rfl
 refine ⟨_,rfl,ds,[],p++[],[],p,[],l,k _ _ _,d _ (fun x j=>decide_eq_true (I x j)),D _,S.frame _,fun _=>?_⟩;refine⟨ok_one M rfl (okWide_bool_mk r _),(s.fn H (ds++[])).results++(s.fn H (ds++[])).args,(s.fn H (ds++[])).vars,p++[],⟨p,[],?_,D _,rfl,?_,K⟩,fun x j _=>j⟩
 .have:=trodAll_append (d (fun _=>true) (fun _ _=>rfl)) (k 0 (fun _=>true) true);simpa using this
 .intro b G j;rw[S.frozen (l.lt _ j)];exact J b G j
theorem SQ{P:Program}{tb:TypeId}(o:laidOutB P=true)(i:fn.params.toList.all (fun t=>P.readableRec t&&decide (t<P.types.size))=true)
  (p:fn.resultTypes=#[tb])(j:P.underlying tb=some .bool)(b:s.vars=[])(q:∀(H:Type)(ds:List (DataW H)),ds.length=fn.params.toList.length->s.fn H (ds++[])={results:=[.lit (.bool true)],args:=ds,vars:=[]})
  (r:KO P fn.params.toList A)(u:∀d,A d->TV.rI d->TV.t1 d->AH P f d (.sh (.bool true)))
  (H:Type)(enc:TypeId×Value->H)(W:World)(args:Array Value)(ds k:List (DataW H))(a:List MemPlace)(x:DataW.Whole enc P fn.params.toList s.vars apart W args.toList ds k a)(l:(DataW.weightsEach P (fn.params.toList++s.plain.varTypes P) (ds++k)).all (·<=reachBytes)=true)(c:IU W:=by exact True.intro):
  Calls P f args W fun e y=>∃v,e=.returned v/\s.post enc P fn apart fresh handsOn again W args v y:=
 Pv o i p j b q u H enc W args ds k a x l (fun _ h=>r H enc W _ _ _ h) c
end Go.Sf
