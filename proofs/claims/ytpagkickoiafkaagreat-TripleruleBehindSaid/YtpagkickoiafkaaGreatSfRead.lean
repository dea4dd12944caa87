/- What is read of an argument: a typed value, and that memory holds its tree. -/
import Derived.Test.YtpagkickoiafkaaGreatSfLib
import GoSem.ClaimChange
import Derived.SizedLaws
import Derived.Carry
import Derived.ChangeCalls
import Derived.OpenShut
set_option linter.all false
open Option renaming some->Y
open Bool renaming true->X
open List renaming mem_append->l!,mem_cons->l?,length_range->m_,getElem?_eq_some_iff->m?,getElem?_range->nc,mem_map->nQ,getElem?_of_mem->nR,getElem?_map->nS,mem_append_right->nT,mem_append_left->nU
open Option renaming bind_eq_some_iff->nV,map_eq_some_iff->nW
namespace Go.Sf
abbrev Q9:Nat->Nat->Prop:=λ_ _=>False
mutual
def TV.Sm:TV->Prop
 |.str s=>s.size<=reachBytes|.list _ es=>es.length<=reachBytes/\TV.mw es|.agg cs=>TV.mw cs|_=>True
def TV.mw:Fq->Prop
 |[]=>True|t::ts=>TV.Sm t/\TV.mw ts
end
theorem Q5:∀{l:Fq},TV.mw l↔∀t∈l,t.Sm
 |[]=>by simp[TV.mw]|t::l=>by simp[TV.mw,Q5 (l:=l)]
theorem Uu{l m:Fq}:TV.mw (l++m)↔TV.mw l/\TV.mw m:=by grind[Q5]
theorem Pl{t:TV}(h:TV.mw t.cells):t.Sm:=by
 cases t<;>first|exact h|exact h.1
def QA{H:Type}(P:Program)(t:TypeId)(d:DataW H):Prop:=∀n∈DataW.weights P t d,n<=reachBytes
def Ea(P:Program)(t:TypeId)(n:Nat){ζ:Type}(e:ζ->TV)(fuel:Nat):Prop:=
 ∀(H:Type)(enc:TypeId×Value->H)(w:World)(spare:Nat->Bool)(cs:List Value)(d:DataW H)(ps:List MemPlace),DataW.trod enc P w 0 spare X fuel t cs=Y (d,ps) ->
  ∃x:ζ,(e x).WF/\AM w Q9 (e x).cells cs/\(∀v∈cs,v.oneCell'=X)/\(e x).cells.length=n/\(QA P t d->TV.mw (e x).cells)
variable{H:Type}{m:Nat}
theorem Iy{P:Program}{el:TypeId}:∀{l:List (DataW H)}{x:DataW H},x∈l->m∈DataW.weights P el x->m∈DataW.weightsAll P el l
 |[],x,a,_=>by cases a
 |y::l,x,a,b=>by
  rw [DataW.weightsAll,l!];rcases l?.1 a with rfl|a
  .exact .inl b
  .exact .inr (Iy a b)
section
variable{P:Program}{t:TypeId}{fuel:Nat}
variable{n:Nat}{ζ:Type}{e:ζ->TV}
theorem EL:Ea P t n e 0:=by
 intro H enc w a cs d b h;cases h
theorem Vn{k:IntKind}(c:P.underlying t=Y (.int k)):Ea P t 1 (λn:Int=>TV.int k n) (fuel+1):=by
 intro H enc w a cs d i h;unfold DataW.trod at h;rw[c]at h;split at h<;>simp_all;rename_i j l n o;obtain⟨b,_,_⟩:=h;obtain⟨rfl,b⟩:=b;refine⟨n,?_,by simp[TV.cells,AM,AV],g?,rfl,λ_=>by simp[TV.cells,TV.mw,TV.Sm]⟩;simpa[TV.WF,Lit.wf]using b
theorem JU{α β:Type}{f:α->Option β}:∀{l:List α}{r:List β},l.mapM f=Y r->r.length=l.length/\∀(i:Nat)(a:α),l[i]?=Y a->∃b,r[i]?=Y b/\f a=Y b
 |[],r,h=>by
  grind
 |x::l,r,h=>by
  simp [List.mapM_cons,Option.bind_eq_bind,nV,Option.pure_def,jR]at h;obtain⟨y,d,j,c,rfl⟩:=h;obtain⟨k,o⟩:=JU c
  grind
variable{w:World}
theorem Ox{b:Nat}:∀(a:Fq)(cs:List Value)(o:Nat),AM w Q9 a cs->(∀v∈cs,v.oneCell'=X)->(∀j v,cs[j]?=Y v->w.cell? ⟨b,o+j,none⟩=Y v)->Bv w Q9 a b o
 |[],_,_,_,_,_=>trivial|t::a,cs,o,h,c,d=>by
  simp [AM]at h;obtain⟨v,r,rfl,k,l⟩:=h;refine⟨⟨v,by simpa using d 0 v rfl,λhf=>hf,c v V,k⟩,?_⟩;refine Ox a r (o+1) l (λv hv=>c v (by simp[hv])) (λj v i=>?_);have:=d (j+1) v (by simpa using i)
  grind
theorem RU{Q:Nat->ζ->Prop}:∀(n:Nat),(∀i,i<n->∃x,Q i x)->∃l:List ζ,l.length=n/\∀i x,l[i]?=Y x->Q i x
 |0,_=>⟨[],rfl,λi x h=>by simp at h⟩|n+1,h=>by
  obtain ⟨l,a,c⟩:=RU n (λi hi=>h i U);obtain⟨x,d⟩:=h n U;refine⟨l++[x],by simp[a],λi y b=>?_⟩
  grind
theorem QL{a:Addr}{cs:List Value}(h:w.cells? 0 a n=Y cs):cs.length=n/\∀j v,cs[j]?=Y v->w.cell? (a.add j)=Y v:=by
 unfold World.cells? at h;rw[ae (Nat.zero_le _)]at h;obtain⟨d,k⟩:=JU h;rw[m_]at d;refine⟨d,λj v i=>?_⟩;have c:j<n:=by have:=(m?.1 i).1;omega
 obtain ⟨b,l,o⟩:=k j j (by rw[nc c])
 grind
theorem LS{el:TypeId}(K:P.underlying t=Y (.slice el))(η:P.cellsOf el=n)(Z:0<n)(M:0<P.bytesOf el)(he:Ea P el n e fuel):Ea P t 1 (λl:List ζ=>TV.list n (l.map e)) (fuel+1):=by
 intro H enc w u cs d ps h;unfold DataW.trod at h;rw[K]at h;split at h
 case h_7=>
  refine ⟨[],⟨Nat.zero_le _,trivial⟩,?_,g?,rfl,λ_=>⟨⟨Nat.zero_le _,trivial⟩,trivial⟩⟩;simp only[TV.cells,AM,AV,List.map_nil];exact⟨_,_,rfl,⟨none,0,rfl,bk _,λ_=>trivial,λad q=>by cases q⟩,rfl⟩
 case h_8 e1 a len cap hu=>
  simp at hu;subst hu;simp only[]at h;split at h
  .rename_i κ;simp only[nV,nW]at h;obtain⟨c,O,rest,Q,hd⟩:=h;obtain⟨z,O⟩:=JU O;rw[m_]at z;simp at hd;obtain⟨hd,_⟩:=hd;subst hd;have hLt:=λl x F m ε=>Iy (P:=P) (el:=el) (H:=H) (m:=m) (l:=l) (x:=x) F ε;have F:∀i,i<len->∃x:ζ,(e x).WF/\(e x).cells.length=n/\(∃o,w.cells? 0 (a.add (i*n)) n=Y o/\AM w Q9 (e x).cells o/\∀v∈o,v.oneCell'=X)/\(QA P t (.slice (c.map (·.1)) (rest.map (·.1)))->(e x).Sm):=by
    intro i hi;obtain⟨b,hbi,J⟩:=O i i (nc hi);simp[nV,η]at J;obtain⟨o,B,J⟩:=J;obtain⟨x,k1,k2,k3,k4,k5⟩:=he H enc w u o b.1 b.2 J;refine⟨x,k1,k4,⟨o,B,k2,k3⟩,λG=>Pl (k5 (λm ε=>G m ?_))⟩;simp[DataW.weights,K,l?,l!]
    grind
   obtain ⟨l,R,S⟩:=RU len F;have k:∀i,i<len->a.spot=none:=by
    intro i hi;obtain⟨x,_,_,⟨o,B,_,_⟩,_⟩:=F 0 U;obtain⟨h2,θ⟩:=QL B;have r:=θ 0 _ (List.getElem?_eq_getElem U);simp[Nat.zero_mul,Addr.add,if_true]at r;unfold World.cell? at r;split at r
    .split at r
     .cases r
     .rename_i I;cases N:a.spot with
      |none=>rfl|some p=>simp[N]at I
    .cases r
   refine ⟨l,⟨?_,?_⟩,?_,g?,rfl,λG=>?_⟩
   .simp[R];unfold FE;have:=κ.2.2;unfold maxLen at this;omega
   .rw[BD];intro y D;obtain⟨x,C,rfl⟩:=nQ.1 D;obtain⟨i,hi⟩:=nR C;exact(S i x hi).1
   .simp only[TV.cells,AM,AV,ec,R];refine⟨_,_,rfl,⟨Y a,cap,rfl,κ.2.1,λh=>absurd h V,λad q=>?_⟩,rfl⟩;simp at q;subst q;refine⟨?_,?_⟩
    .by_cases h0:len=0
     .exact .inl (by have:l=[]:=List.eq_nil_of_length_eq_zero U;rw[this];rfl)
     .exact .inr (k 0 U)
    .rw[LJ];intro i y D;rw[nS,nW]at D;obtain⟨x,E,rfl⟩:=D;have hi:i<len:=by have:=(m?.1 E).1;omega
     obtain ⟨_,θ,⟨o,r,h5,h6⟩,_⟩:=S i x E;obtain⟨_,h7⟩:=QL r;refine⟨?_,θ⟩;refine Ox _ o _ h5 h6 (λj v hj=>?_);have:=h7 j v hj;have I:=k i hi;obtain⟨ab,ao,sp⟩:=a;simp only at I;subst I;rw[Addr.add_lit,Addr.add_lit]at this;exact this
   .simp[TV.cells,TV.mw,TV.Sm,R];refine⟨?_,?_⟩
    .have:=G ((c.length+rest.length)*P.bytesOf el) (by simp[DataW.weights,K]);have h9:c.length+rest.length<=(c.length+rest.length)*P.bytesOf el:=Nat.le_mul_of_pos_right _ M;omega
    .rw[Q5];intro y D;obtain⟨x,C,rfl⟩:=nQ.1 D;obtain⟨i,hi⟩:=nR C;exact(S i x hi).2.2.2 G
  .cases h
 all_goals simp_all
def OH(P:Program)(fuel:Nat)(fs:List (TypeId×Nat))(k m:Nat){δ:Type}(g:δ->Fq):Prop:=
 ∀(H:Type)(enc:TypeId×Value->H)(w:World)(spare:Nat->Bool)(cs:List Value)(L:Prop),cs.length=m->(∀f∈fs,∃b,DataW.trod enc P w 0 spare X fuel f.1 ((cs.drop f.2).take (P.cellsOf f.1))=Y b/\(L->QA P f.1 b.1)) ->
  ∃y:δ,TV.jU (g y)/\AM w Q9 (g y) (cs.drop k)/\(∀v∈cs.drop k,v.oneCell'=X)/\(g y).length=m-k/\(L->TV.mw (g y))
variable{m:Nat}
theorem Jz:OH P fuel [] m m (λ_:Unit=>[]):=by
 intro H enc w a cs L b _;have:cs.drop m=[]:=List.drop_eq_nil_of_le U;exact⟨(),trivial,by rw[this];rfl,by simp[this],V,λ_=>trivial⟩
variable{δ:Type}{g:δ->Fq}
theorem Cj{f:TypeId}{k n m:Nat}{o:List (TypeId×Nat)}(r:P.cellsOf f=n)(K:k+n<=m)(he:Ea P f n e fuel)(u:OH P fuel o (k+n) m g):
  OH P fuel ((f,k)::o) k m (λp:ζ×δ=>(e p.1).cells++g p.2):=by
 intro H enc w c cs L d h;obtain⟨b,q,B⟩:=h (f,k) V;simp[r]at q;obtain⟨x,i,C,D,E,j⟩:=he H enc w c _ b.1 b.2 q;obtain⟨y,F,G,I,J,l⟩:=u H enc w c cs L d (λf hf=>h f (by simp[hf]));have a:cs.drop k=(cs.drop k).take n++cs.drop (k+n):=by
  rw [<-List.drop_drop,List.take_append_drop]
 refine ⟨(x,y),?_,?_,?_,?_,λd=>Uu.2 ⟨j (B d),l d⟩⟩
 .refine FP.2 ⟨?_,F⟩;cases z:e x<;>rw[z]at i<;>first|exact i|exact⟨i,trivial⟩
 .rw[a];exact D9 C G
 .rw[a];intro v hv;rcases l!.1 hv with hv|hv
  .exact D v hv
  .exact I v hv
 .simp[E,J];omega
variable{L:List (TypeId×Nat)}
theorem Oj{q:Array Field}(conv:δ->ζ)(r:P.underlying t=Y (.struct q))(v:q.toList.map (λf=>(f.type,f.offset))=L)(x:P.cellsOf t=m)
  (z:OH P fuel L 0 m g)(k:∀y,e (conv y)=.agg (g y)):Ea P t m e (fuel+1):=by
 intro H enc w c cs d K h;unfold DataW.trod at h;rw[r]at h;split at h
 case h_9 fs' cs' hu=>
  simp at hu;subst hu;split at h
  .rename_i C;simp only[nW]at h;obtain⟨xs,l,hd⟩:=h;simp at hd;obtain⟨hd,_⟩:=hd;subst hd;obtain⟨_,l⟩:=JU l;obtain⟨y,D,E,F,G,I⟩:=z H enc w c _ (QA P t (.agg (xs.map (·.1)))) (by rw[C,x]) (λf hf=>by
    rw [<-v]at hf;obtain⟨u,o,rfl⟩:=nQ.1 hf;obtain⟨i,hi⟩:=nR o;obtain⟨b,p,J⟩:=l i u hi;refine⟨b,J,λa n B=>a n ?_⟩;simp[DataW.weights,r];exact DataW.weights_mem_each (j:=i) (t:=u.type) (d:=b.1) (by rw[nS,hi];rfl) (by rw[nS,p];rfl) n B)
   refine ⟨conv y,?_,?_,?_,?_,λa=>by rw[k];exact I a⟩
   .rw[k];exact D
   .rw[k];simpa[TV.cells]using E
   .simpa using F
   .rw[k];simpa[TV.cells]using G
  .cases h
 all_goals simp_all
theorem Pe{el:TypeId}(conv:δ->ζ)(o:P.underlying t=Y (.array n el))(p:(List.range n).map (λi=>(el,i*P.cellsOf el))=L)(q:P.cellsOf t=m)
  (r:OH P fuel L 0 m g)(j:∀y,e (conv y)=.agg (g y)):Ea P t m e (fuel+1):=by
 intro H enc w c cs d F h;unfold DataW.trod at h;rw[o]at h;split at h
 case h_10 n' e' cs' hu=>
  simp at hu;obtain⟨rfl,rfl⟩:=hu;split at h
  .rename_i v;simp only[nW]at h;obtain⟨xs,k,hd⟩:=h;simp at hd;obtain⟨hd,_⟩:=hd;subst hd;obtain⟨_,k⟩:=JU k;obtain⟨y,x,z,B,C,D⟩:=r H enc w c _ (QA P t (.agg (xs.map (·.1)))) (by rw[v,q]) (λf hf=>by
    rw [<-p]at hf;obtain⟨i,hi,rfl⟩:=nQ.1 hf;rw[List.mem_range]at hi;obtain⟨b,l,E⟩:=k i i (nc hi);refine⟨b,E,λa n u=>a n ?_⟩;simp[DataW.weights,o];exact Iy (nQ.2 ⟨b,List.mem_of_getElem? l,rfl⟩) u)
   refine ⟨conv y,?_,?_,?_,?_,λa=>by rw[j];exact D a⟩
   .rw[j];exact x
   .rw[j];simpa[TV.cells]using z
   .simpa using B
   .rw[j];simpa[TV.cells]using C
  .cases h
 all_goals simp_all
end
end Go.Sf
namespace Go.Sf
open Go.ChangeShapes Go.WideShapes Go.ChangeAt Go.RowKit
variable{H:Type}
theorem OC{enc:TypeId×Value->H}{P:Program}(l:laidOutB P=X){η o:World}(r:Below η.heap.size η o){u:Nat->Bool}:
  ∀{i:List TypeId}{vs:List Value}{ds:List (DataW H)}{j:List MemPlace},i.all (λt=>P.readableRec t&&decide (t<P.types.size))=X->DataW.TrodAll enc P η 0 (λ_=>X) X i vs ds j ->
   (∀x∈j,x.block<η.heap.size)->(∀x∈j,u x.block=X)->DataW.TrodAll enc P o 0 u X i vs ds j
 |[],_,_,_,_,h,_,_=>by
  obtain ⟨rfl,rfl,rfl⟩:=trodAll_nil h;exact trodAll_mk0
 |t::i,_,_,_,k,h,b,c=>by
  obtain ⟨v,vs,d,ds,p,q,rfl,rfl,rfl,y,z⟩:=trodAll_cons h;simp only[List.all_cons,jP,kY]at k;refine⟨p,q,?_,OC l r k.2 z (λx a=>b x (nT _ a)) (λx a=>c x (nT _ a)),rfl⟩;exact WideElems.Trod_stays l k.1.1 k.1.2 y (λx a=>r.same (b x (nU _ a))) (λx a=>c x (nU _ a))
def KM(P:Program)(ts:List TypeId)(A:Fq->Prop):Prop:=
 ∀(H:Type)(enc:TypeId×Value->H)(η:World)(vs:List Value)(ds:List (DataW H))(ps:List MemPlace),DataW.TrodAll enc P η 0 (λ_=>X) X ts vs ds ps->∃as,A as/\TV.jU as/\AM η Q9 as vs/\((∀n∈DataW.weightsEach P ts ds,n<=reachBytes)->TV.mw as)
theorem Sn{P:Program}:KM P [] (λa=>a=[]):=by
 intro H enc η vs ds b h;obtain⟨rfl,rfl,rfl⟩:=trodAll_nil h;exact⟨[],rfl,trivial,rfl,λ_=>trivial⟩
variable{A:Fq->Prop}{n:Nat}{ζ:Type}{e:ζ->TV}
theorem Oi{P:Program}{t:TypeId}{j:List TypeId}(b:n≠1)(o:∀fuel,Ea P t n e fuel)(he:∀x,∃cs,e x=.agg cs)(h:KM P j A):
  KM P (t::j) (λr=>∃x bs,r=e x::bs/\A bs):=by
 intro H enc η vs ds M z;obtain⟨v,vs,d,ds,p,q,rfl,rfl,rfl,⟨fuel,B⟩,C⟩:=trodAll_cons z;obtain⟨x,D,c,E,l,F⟩:=o fuel H enc η _ _ _ _ B;obtain⟨bs,G,I,J,K⟩:=h H enc η _ _ _ C;obtain⟨cs,i⟩:=he x;refine⟨e x::bs,⟨x,bs,rfl,G⟩,⟨D,I⟩,?_,λk=>⟨Pl (F λn b=>k n ?_),K λn b=>k n ?_⟩⟩
 case refine_2=>rw[DataW.weightsEach,l!];exact .inl b
 case refine_3=>rw[DataW.weightsEach,l!];exact .inr b
 simp only[AM];refine⟨v,vs,rfl,?_,J⟩;have a:=Au c;rw[i]at c l a|-;simp[TV.cells]at c l a;rw[AV];cases v with
 |agg cells=>
  refine ⟨cells,rfl,by simpa[Value.cells]using c,List.all_eq_true.2 (λy u=>E y (by simpa[Value.cells]using u))⟩
 |_=>simp[Value.cells]at a;omega
variable{f:FuncId}{fn:Func}{s:ChangeSpec}{apart fresh handsOn again:Bool}
theorem QX{P:Program}{tb:TypeId}(hl:laidOutB P=X)(S:fn.params.toList.all (λt=>P.readableRec t&&decide (t<P.types.size))=X)
  (N:fn.resultTypes=#[tb])(r:P.underlying tb=Y .bool)(a:s.vars=[])(θ:∀(H:Type)(ds:List (DataW H)),ds.length=fn.params.toList.length->s.fn H (ds++[])={results:=[.lit (.bool X)],args:=ds,vars:=[]})
  (ε:∀c,A c->TV.jU c->TV.mw c->AO P f c (.sh (.bool X)))
  (H:Type)(enc:TypeId×Value->H)(η:World)(args:Array Value)(ds gs:List (DataW H))(h:List MemPlace)(O:DataW.Whole enc P fn.params.toList s.vars apart η args.toList ds gs h)(κ:(DataW.weightsEach P (fn.params.toList++s.plain.varTypes P) (ds++gs)).all (·<=reachBytes)=X)
  (Z:∀ps,DataW.TrodAll enc P η 0 (λ_=>X) X fn.params.toList args.toList ds ps->∃c,A c/\TV.jU c/\AM η Q9 c args.toList/\((∀n∈DataW.weightsEach P fn.params.toList ds,n<=reachBytes)->TV.mw c))(u:N8 η:=by exact True.intro):
  Calls P f args η λe y=>∃v,e=.returned v/\s.post enc P fn apart fresh handsOn again η args v y:=by
 have l:=O;obtain⟨p,q,hT,Q,rfl,J,K⟩:=O;rw[a]at Q;obtain⟨rfl,rfl⟩:=trodVars_none Q;obtain⟨c,ha,E,F,M⟩:=Z _ hT;have z:=M (λn hn=>by
  have hv:s.plain.varTypes P=[]:=by unfold DataSpec.varTypes ChangeSpec.plain;rw[a];rfl
  grind)
 obtain ⟨_,o⟩:=(ε c ha E z).to0 rfl E;obtain⟨_,hC⟩:=o Q9 η args F u;refine hC.mono λe y=>?_;rintro⟨v,rfl,R,hv⟩;simp[EC,AV]at hv;subst hv;have B:ds.length=fn.params.toList.length:=(trodAll_length hT).2;have C:=θ H ds B;have I:∀x∈p,x.block<η.heap.size:=λx j=>l.lt x (nU _ j);have k:∀(b:Nat)(i:Nat->Bool)(hd:Bool),DataW.TrodAll enc P y b i hd fn.resultTypes.toList ((Value.bool X).resultList fn.resultTypes.size) (s.fn H (ds++[])).results []:=by
  intro b i hd;rw[C,N];exact trodAll_cons_mk (shut_bool r _) trodAll_mk0
 have d:∀i:Nat->Bool,(∀x∈p,i x.block=X)->DataW.TrodAll enc P y 0 i X fn.params.toList args.toList (s.fn H (ds++[])).args p:=by
  grind [OC]
 have D:∀i:Nat->Bool,DataW.TrodVars enc P y i s.vars (s.fn H (ds++[])).vars []:=by
  intro i;rw[C,a];rfl
 refine ⟨_,rfl,ds,[],p++[],[],p,[],l,k _ _ _,d _ (λx j=>decide_eq_true (I x j)),D _,R.frame _,λ_=>?_⟩;refine⟨ok_one N rfl (okWide_bool_mk r _),(s.fn H (ds++[])).results++(s.fn H (ds++[])).args,(s.fn H (ds++[])).vars,p++[],⟨p,[],?_,D _,rfl,?_,K⟩,λx j _=>j⟩
 .have:=trodAll_append (d (λ_=>X) (λ_ _=>rfl)) (k 0 (λ_=>X) X);simpa using this
 .intro b G j;rw[R.frozen (l.lt _ j)];exact J b G j
theorem SY{P:Program}{tb:TypeId}(l:laidOutB P=X)(i:fn.params.toList.all (λt=>P.readableRec t&&decide (t<P.types.size))=X)
  (o:fn.resultTypes=#[tb])(j:P.underlying tb=Y .bool)(b:s.vars=[])(p:∀(H:Type)(ds:List (DataW H)),ds.length=fn.params.toList.length->s.fn H (ds++[])={results:=[.lit (.bool X)],args:=ds,vars:=[]})
  (q:KM P fn.params.toList A)(r:∀d,A d->TV.jU d->TV.mw d->AO P f d (.sh (.bool X)))
  (H:Type)(enc:TypeId×Value->H)(η:World)(args:Array Value)(ds gs:List (DataW H))(a:List MemPlace)(u:DataW.Whole enc P fn.params.toList s.vars apart η args.toList ds gs a)(k:(DataW.weightsEach P (fn.params.toList++s.plain.varTypes P) (ds++gs)).all (·<=reachBytes)=X)(c:N8 η:=by exact True.intro):
  Calls P f args η λe x=>∃v,e=.returned v/\s.post enc P fn apart fresh handsOn again η args v x:=
 QX l i o j b p r H enc η args ds gs a u k (λ_ h=>q H enc η _ _ _ h) c
end Go.Sf
