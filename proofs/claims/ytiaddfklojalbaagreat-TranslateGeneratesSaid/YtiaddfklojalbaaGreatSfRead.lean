/- What is read of an argument: a typed value, and that memory holds its tree. -/
import Derived.Test.YtiaddfklojalbaaGreatSfLib
import GoSem.ClaimChange
import Derived.SizedLaws
import Derived.Carry
import Derived.ChangeCalls
import Derived.OpenShut
set_option linter.all false
open Option renaming some->Y
open Bool renaming true->X
open List renaming mem_append->w?,mem_cons->x_,length_range->x!,getElem?_eq_some_iff->x?,getElem?_range->y_,mem_map->y!,getElem?_of_mem->y?,getElem?_map->z_,mem_append_right->z!,mem_append_left->z?
open Option renaming bind_eq_some_iff->A_,map_eq_some_iff->A'
namespace Go.Sf
abbrev ZE:Nat->Nat->Prop:=λ_ _=>False
mutual
def TV.Sm:TV->Prop
 |.str s=>s.size<=reachBytes|.list _ es=>es.length<=reachBytes/\TV.Sms es|.agg cs=>TV.Sms cs|_=>True
def TV.Sms:Fq->Prop
 |[]=>True|t::ts=>TV.Sm t/\TV.Sms ts
end
theorem V9:∀{l:Fq},TV.Sms l↔∀t∈l,t.Sm
 |[]=>by simp[TV.Sms]|t::l=>by simp[TV.Sms,V9 (l:=l)]
theorem jq{l m:Fq}:TV.Sms (l++m)↔TV.Sms l/\TV.Sms m:=by grind[V9]
theorem Wa{t:TV}(h:TV.Sms t.cells):t.Sm:=by
 cases t<;>first|exact h|exact h.1
def aU{H:Type}(P:Program)(t:TypeId)(d:DataW H):Prop:=∀n∈DataW.weights P t d,n<=reachBytes
def As(P:Program)(t:TypeId)(n:Nat){ζ:Type}(e:ζ->TV)(fuel:Nat):Prop:=
 ∀(H:Type)(enc:TypeId×Value->H)(w:World)(spare:Nat->Bool)(cs:List Value)(d:DataW H)(ps:List MemPlace),DataW.trod enc P w 0 spare X fuel t cs=Y (d,ps) ->
  ∃x:ζ,(e x).WF/\AT w ZE (e x).cells cs/\(∀v∈cs,v.oneCell'=X)/\(e x).cells.length=n/\(aU P t d->TV.Sms (e x).cells)
variable{H:Type}{m:Nat}
theorem TE{P:Program}{el:TypeId}:∀{l:List (DataW H)}{x:DataW H},x∈l->m∈DataW.weights P el x->m∈DataW.weightsAll P el l
 |[],x,a,_=>by cases a
 |y::l,x,a,b=>by
  rw [DataW.weightsAll,w?];rcases x_.1 a with rfl|a
  .exact .inl b
  .exact .inr (TE a b)
section
variable{P:Program}{t:TypeId}{fuel:Nat}
variable{n:Nat}{ζ:Type}{e:ζ->TV}
theorem AN:As P t n e 0:=by
 intro H enc w a cs d b h;cases h
theorem VS{k:IntKind}(c:P.underlying t=Y (.int k)):As P t 1 (λn:Int=>TV.int k n) (fuel+1):=by
 intro H enc w a cs d i h;unfold DataW.trod at h;rw[c]at h;split at h<;>simp_all;rename_i j l n o;obtain⟨b,_,_⟩:=h;obtain⟨rfl,b⟩:=b;refine⟨n,?_,t_,i_,rfl,λ_=>v6⟩;simpa[TV.WF,Lit.wf]using b
theorem Ts(c:P.underlying t=Y .bool):As P t 1 TV.bool (fuel+1):=by
 intro H enc w a cs d i h;unfold DataW.trod at h;rw[c]at h;split at h<;>simp_all;rename_i b;cases b
 .exact .inl ⟨by simp[TV.WF],t_,i_,rfl,λ_=>v6⟩
 .exact .inr ⟨by simp[TV.WF],t_,i_,rfl,λ_=>v6⟩
theorem VT(c:P.underlying t=Y .string):As P t 1 TV.str (fuel+1):=by
 intro H enc w a cs d j h;unfold DataW.trod at h;rw[c]at h;split at h<;>simp_all;rename_i b;refine⟨b,by simpa[TV.WF,JX,maxLen]using h.1,t_,i_,rfl,λi=>?_⟩;have:=h.2.1;subst this;have:=i b.data.toList.length (by simp[DataW.weights]);simp[TV.cells,TV.Sms,TV.Sm];simpa using this
theorem Q6{α β:Type}{f:α->Option β}:∀{l:List α}{r:List β},l.mapM f=Y r->r.length=l.length/\∀(i:Nat)(a:α),l[i]?=Y a->∃b,r[i]?=Y b/\f a=Y b
 |[],r,h=>by
  grind
 |x::l,r,h=>by
  simp [List.mapM_cons,Option.bind_eq_bind,A_,Option.pure_def,o4]at h;obtain⟨y,d,j,c,rfl⟩:=h;obtain⟨k,o⟩:=Q6 c
  grind
variable{w:World}
theorem VV{b:Nat}:∀(a:Fq)(cs:List Value)(o:Nat),AT w ZE a cs->(∀v∈cs,v.oneCell'=X)->(∀j v,cs[j]?=Y v->w.cell? ⟨b,o+j,none⟩=Y v)->DY w ZE a b o
 |[],_,_,_,_,_=>trivial|t::a,cs,o,h,c,d=>by
  simp [AT]at h;obtain⟨v,r,rfl,k,l⟩:=h;refine⟨⟨v,by simpa using d 0 v rfl,λhf=>hf,c v V,k⟩,?_⟩;refine VV a r (o+1) l (λv hv=>c v v_) (λj v i=>?_);have:=d (j+1) v (by simpa using i)
  grind
theorem Z2{Q:Nat->ζ->Prop}:∀(n:Nat),(∀i,i<n->∃x,Q i x)->∃l:List ζ,l.length=n/\∀i x,l[i]?=Y x->Q i x
 |0,_=>⟨[],rfl,λi x h=>by simp at h⟩|n+1,h=>by
  obtain ⟨l,a,c⟩:=Z2 n (λi hi=>h i U);obtain⟨x,d⟩:=h n U;refine⟨l++[x],by simp[a],λi y b=>?_⟩
  grind
theorem Xc{a:Addr}{cs:List Value}(h:w.cells? 0 a n=Y cs):cs.length=n/\∀j v,cs[j]?=Y v->w.cell? (a.add j)=Y v:=by
 unfold World.cells? at h;rw[aE (Nat.zero_le _)]at h;obtain⟨d,k⟩:=Q6 h;rw[x!]at d;refine⟨d,λj v i=>?_⟩;have c:j<n:=by have:=(x?.1 i).1;omega
 obtain ⟨b,l,o⟩:=k j j (by rw[y_ c])
 grind
theorem BL{el:TypeId}(K:P.underlying t=Y (.slice el))(κ:P.cellsOf el=n)(η:0<n)(L:0<P.bytesOf el)(he:As P el n e fuel):As P t 1 (λl:List ζ=>TV.list n (l.map e)) (fuel+1):=by
 intro H enc w u cs d ps h;unfold DataW.trod at h;rw[K]at h;split at h
 case h_7=>
  refine ⟨[],⟨Nat.zero_le _,trivial⟩,?_,i_,rfl,λ_=>⟨⟨Nat.zero_le _,trivial⟩,trivial⟩⟩;simp only[TV.cells,AT,At,List.map_nil];exact⟨_,_,rfl,⟨none,0,rfl,a5 _,λ_=>trivial,λZ q=>by cases q⟩,rfl⟩
 case h_8 e1 a len cap hu=>
  simp at hu;subst hu;simp only[]at h;split at h
  .rename_i ε;simp only[A_,A']at h;obtain⟨c,N,rest,O,hd⟩:=h;obtain⟨z,N⟩:=Q6 N;rw[x!]at z;simp at hd;obtain⟨hd,_⟩:=hd;subst hd;have hLt:=λl x F m θ=>TE (P:=P) (el:=el) (H:=H) (m:=m) (l:=l) (x:=x) F θ;have F:∀i,i<len->∃x:ζ,(e x).WF/\(e x).cells.length=n/\(∃o,w.cells? 0 (a.add (i*n)) n=Y o/\AT w ZE (e x).cells o/\∀v∈o,v.oneCell'=X)/\(aU P t (.slice (c.map (·.1)) (rest.map (·.1)))->(e x).Sm):=by
    intro i hi;obtain⟨b,hbi,J⟩:=N i i (y_ hi);simp[A_,κ]at J;obtain⟨o,B,J⟩:=J;obtain⟨x,k1,k2,k3,k4,k5⟩:=he H enc w u o b.1 b.2 J;refine⟨x,k1,k4,⟨o,B,k2,k3⟩,λG=>Wa (k5 (λm θ=>G m ?_))⟩;simp[DataW.weights,K,x_,w?]
    grind
   obtain ⟨l,Q,R⟩:=Z2 len F;have k:∀i,i<len->a.spot=none:=by
    intro i hi;obtain⟨x,_,_,⟨o,B,_,_⟩,_⟩:=F 0 U;obtain⟨h2,S⟩:=Xc B;have r:=S 0 _ (List.getElem?_eq_getElem U);simp[Nat.zero_mul,Addr.add,if_true]at r;unfold World.cell? at r;split at r
    .split at r
     .cases r
     .rename_i I;cases M:a.spot with
      |none=>rfl|some p=>simp[M]at I
    .cases r
   refine ⟨l,⟨?_,?_⟩,?_,i_,rfl,λG=>?_⟩
   .simp[Q];unfold JX;have:=ε.2.2;unfold maxLen at this;omega
   .rw[B1];intro y D;obtain⟨x,C,rfl⟩:=y!.1 D;obtain⟨i,hi⟩:=y? C;exact(R i x hi).1
   .simp only[TV.cells,AT,At,bd,Q];refine⟨_,_,rfl,⟨Y a,cap,rfl,ε.2.1,λh=>absurd h V,λZ q=>?_⟩,rfl⟩;simp at q;subst q;refine⟨?_,?_⟩
    .by_cases h0:len=0
     .exact .inl (by have:l=[]:=List.eq_nil_of_length_eq_zero U;rw[this];rfl)
     .exact .inr (k 0 U)
    .rw[RF];intro i y D;rw[z_,A']at D;obtain⟨x,E,rfl⟩:=D;have hi:i<len:=by have:=(x?.1 E).1;omega
     obtain ⟨_,S,⟨o,r,h5,h6⟩,_⟩:=R i x E;obtain⟨_,h7⟩:=Xc r;refine⟨?_,S⟩;refine VV _ o _ h5 h6 (λj v hj=>?_);have:=h7 j v hj;have I:=k i hi;obtain⟨ab,ao,sp⟩:=a;simp only at I;subst I;rw[Addr.add_lit,Addr.add_lit]at this;exact this
   .simp[TV.cells,TV.Sms,TV.Sm,Q];refine⟨?_,?_⟩
    .have:=G ((c.length+rest.length)*P.bytesOf el) (by simp[DataW.weights,K]);have h9:c.length+rest.length<=(c.length+rest.length)*P.bytesOf el:=Nat.le_mul_of_pos_right _ L;omega
    .rw[V9];intro y D;obtain⟨x,C,rfl⟩:=y!.1 D;obtain⟨i,hi⟩:=y? C;exact(R i x hi).2.2.2 G
  .cases h
 all_goals simp_all
def XK(P:Program)(fuel:Nat)(fs:List (TypeId×Nat))(k m:Nat){δ:Type}(g:δ->Fq):Prop:=
 ∀(H:Type)(enc:TypeId×Value->H)(w:World)(spare:Nat->Bool)(cs:List Value)(L:Prop),cs.length=m->(∀f∈fs,∃b,DataW.trod enc P w 0 spare X fuel f.1 ((cs.drop f.2).take (P.cellsOf f.1))=Y b/\(L->aU P f.1 b.1)) ->
  ∃y:δ,TV.pr (g y)/\AT w ZE (g y) (cs.drop k)/\(∀v∈cs.drop k,v.oneCell'=X)/\(g y).length=m-k/\(L->TV.Sms (g y))
variable{m:Nat}
theorem Av:XK P fuel [] m m (λ_:Unit=>[]):=by
 intro H enc w a cs L b _;have:cs.drop m=[]:=List.drop_eq_nil_of_le U;exact⟨(),trivial,by rw[this];rfl,by simp[this],V,λ_=>trivial⟩
variable{δ:Type}{g:δ->Fq}
theorem AF{f:TypeId}{k n m:Nat}{o:List (TypeId×Nat)}(r:P.cellsOf f=n)(K:k+n<=m)(he:As P f n e fuel)(u:XK P fuel o (k+n) m g):
  XK P fuel ((f,k)::o) k m (λp:ζ×δ=>(e p.1).cells++g p.2):=by
 intro H enc w c cs L d h;obtain⟨b,q,B⟩:=h (f,k) V;simp[r]at q;obtain⟨x,i,C,D,E,j⟩:=he H enc w c _ b.1 b.2 q;obtain⟨y,F,G,I,J,l⟩:=u H enc w c cs L d (λf hf=>h f (by simp[hf]));have a:cs.drop k=(cs.drop k).take n++cs.drop (k+n):=by
  rw [<-List.drop_drop,List.take_append_drop]
 refine ⟨(x,y),?_,?_,?_,?_,λd=>jq.2 ⟨j (B d),l d⟩⟩
 .refine KI.2 ⟨?_,F⟩;cases z:e x<;>rw[z]at i<;>first|exact i|exact⟨i,trivial⟩
 .rw[a];exact IS C G
 .rw[a];intro v hv;rcases w?.1 hv with hv|hv
  .exact D v hv
  .exact I v hv
 .simp[E,J];omega
theorem Aj{q:Array Field}{L:List (TypeId×Nat)}(conv:δ->ζ)(r:P.underlying t=Y (.struct q))(v:q.toList.map (λf=>(f.type,f.offset))=L)(x:P.cellsOf t=m)
  (z:XK P fuel L 0 m g)(k:∀y,e (conv y)=.agg (g y)):As P t m e (fuel+1):=by
 intro H enc w c cs d K h;unfold DataW.trod at h;rw[r]at h;split at h
 case h_9 fs' cs' hu=>
  simp at hu;subst hu;split at h
  .rename_i C;simp only[A']at h;obtain⟨xs,l,hd⟩:=h;simp at hd;obtain⟨hd,_⟩:=hd;subst hd;obtain⟨_,l⟩:=Q6 l;obtain⟨y,D,E,F,G,I⟩:=z H enc w c _ (aU P t (.agg (xs.map (·.1)))) (by rw[C,x]) (λf hf=>by
    rw [<-v]at hf;obtain⟨u,o,rfl⟩:=y!.1 hf;obtain⟨i,hi⟩:=y? o;obtain⟨b,p,J⟩:=l i u hi;refine⟨b,J,λa n B=>a n ?_⟩;simp[DataW.weights,r];exact DataW.weights_mem_each (j:=i) (t:=u.type) (d:=b.1) (by rw[z_,hi];rfl) (by rw[z_,p];rfl) n B)
   refine ⟨conv y,?_,?_,?_,?_,λa=>by rw[k];exact I a⟩
   .rw[k];exact D
   .rw[k];simpa[TV.cells]using E
   .simpa using F
   .rw[k];simpa[TV.cells]using G
  .cases h
 all_goals simp_all
end
end Go.Sf
namespace Go.Sf
open Go.ChangeShapes Go.WideShapes Go.ChangeAt Go.RowKit
variable{H:Type}
theorem Uh{enc:TypeId×Value->H}{P:Program}(l:laidOutB P=X){η o:World}(r:Below η.heap.size η o){u:Nat->Bool}:
  ∀{i:List TypeId}{vs:List Value}{ds:List (DataW H)}{j:List MemPlace},i.all (λt=>P.readableRec t&&decide (t<P.types.size))=X->DataW.TrodAll enc P η 0 (λ_=>X) X i vs ds j ->
   (∀x∈j,x.block<η.heap.size)->(∀x∈j,u x.block=X)->DataW.TrodAll enc P o 0 u X i vs ds j
 |[],_,_,_,_,h,_,_=>by
  obtain ⟨rfl,rfl,rfl⟩:=trodAll_nil h;exact trodAll_mk0
 |t::i,_,_,_,k,h,b,c=>by
  obtain ⟨v,vs,d,ds,p,q,rfl,rfl,rfl,y,z⟩:=trodAll_cons h;simp only[List.all_cons,kp,p0]at k;refine⟨p,q,?_,Uh l r k.2 z (λx a=>b x (z! _ a)) (λx a=>c x (z! _ a)),rfl⟩;exact WideElems.Trod_stays l k.1.1 k.1.2 y (λx a=>r.same (b x (z? _ a))) (λx a=>c x (z? _ a))
def Mr(P:Program)(ts:List TypeId)(A:Fq->Prop):Prop:=
 ∀(H:Type)(enc:TypeId×Value->H)(η:World)(vs:List Value)(ds:List (DataW H))(ps:List MemPlace),DataW.TrodAll enc P η 0 (λ_=>X) X ts vs ds ps->∃as,A as/\TV.pr as/\AT η ZE as vs/\((∀n∈DataW.weightsEach P ts ds,n<=reachBytes)->TV.Sms as)
theorem QT{P:Program}:Mr P [] (λa=>a=[]):=by
 intro H enc η vs ds b h;obtain⟨rfl,rfl,rfl⟩:=trodAll_nil h;exact⟨[],rfl,trivial,rfl,λ_=>trivial⟩
variable{A:Fq->Prop}{n:Nat}{ζ:Type}{e:ζ->TV}
theorem Jb{P:Program}{t:TypeId}{j:List TypeId}(b:n≠1)(o:∀fuel,As P t n e fuel)(he:∀x,∃cs,e x=.agg cs)(h:Mr P j A):
  Mr P (t::j) (λr=>∃x bs,r=e x::bs/\A bs):=by
 intro H enc η vs ds L z;obtain⟨v,vs,d,ds,p,q,rfl,rfl,rfl,⟨fuel,B⟩,C⟩:=trodAll_cons z;obtain⟨x,D,c,E,l,F⟩:=o fuel H enc η _ _ _ _ B;obtain⟨bs,G,I,J,K⟩:=h H enc η _ _ _ C;obtain⟨cs,i⟩:=he x;refine⟨e x::bs,⟨x,bs,rfl,G⟩,⟨D,I⟩,?_,λk=>⟨Wa (F λn b=>k n ?_),K λn b=>k n ?_⟩⟩
 case refine_2=>rw[DataW.weightsEach,w?];exact .inl b
 case refine_3=>rw[DataW.weightsEach,w?];exact .inr b
 simp only[AT];refine⟨v,vs,rfl,?_,J⟩;have a:=BS c;rw[i]at c l a|-;simp[TV.cells]at c l a;rw[At];cases v with
 |agg cells=>
  refine ⟨cells,rfl,by simpa[Value.cells]using c,List.all_eq_true.2 (λy u=>E y (by simpa[Value.cells]using u))⟩
 |_=>simp[Value.cells]at a;omega
variable{f:FuncId}{fn:Func}{s:ChangeSpec}{apart fresh handsOn again:Bool}
theorem Xw{P:Program}{tb:TypeId}(hl:laidOutB P=X)(R:fn.params.toList.all (λt=>P.readableRec t&&decide (t<P.types.size))=X)
  (M:fn.resultTypes=#[tb])(r:P.underlying tb=Y .bool)(a:s.vars=[])(S:∀(H:Type)(ds:List (DataW H)),ds.length=fn.params.toList.length->s.fn H (ds++[])={results:=[.lit (.bool X)],args:=ds,vars:=[]})
  (θ:∀c,A c->TV.pr c->TV.Sms c->AW P f c (.sh (.bool X)))
  (H:Type)(enc:TypeId×Value->H)(η:World)(args:Array Value)(ds gs:List (DataW H))(h:List MemPlace)(N:DataW.Whole enc P fn.params.toList s.vars apart η args.toList ds gs h)(ε:(DataW.weightsEach P (fn.params.toList++s.plain.varTypes P) (ds++gs)).all (·<=reachBytes)=X)
  (κ:∀Z,DataW.TrodAll enc P η 0 (λ_=>X) X fn.params.toList args.toList ds Z->∃c,A c/\TV.pr c/\AT η ZE c args.toList/\((∀n∈DataW.weightsEach P fn.params.toList ds,n<=reachBytes)->TV.Sms c))(u:Uc η:=by exact True.intro):
  Calls P f args η λe y=>∃v,e=.returned v/\s.post enc P fn apart fresh handsOn again η args v y:=by
 have l:=N;obtain⟨p,q,hT,O,rfl,J,K⟩:=N;rw[a]at O;obtain⟨rfl,rfl⟩:=trodVars_none O;obtain⟨c,ha,E,F,L⟩:=κ _ hT;have z:=L (λn hn=>by
  have hv:s.plain.varTypes P=[]:=by unfold DataSpec.varTypes ChangeSpec.plain;rw[a];rfl
  grind)
 obtain ⟨_,o⟩:=(θ c ha E z).to0 rfl E;obtain⟨_,hC⟩:=o ZE η args F u;refine hC.mono λe y=>?_;rintro⟨v,rfl,Q,hv⟩;simp[IY,At]at hv;subst hv;have B:ds.length=fn.params.toList.length:=(trodAll_length hT).2;have C:=S H ds B;have I:∀x∈p,x.block<η.heap.size:=λx j=>l.lt x (z? _ j);have k:∀(b:Nat)(i:Nat->Bool)(hd:Bool),DataW.TrodAll enc P y b i hd fn.resultTypes.toList ((Value.bool X).resultList fn.resultTypes.size) (s.fn H (ds++[])).results []:=by
  intro b i hd;rw[C,M];exact trodAll_cons_mk (shut_bool r _) trodAll_mk0
 have d:∀i:Nat->Bool,(∀x∈p,i x.block=X)->DataW.TrodAll enc P y 0 i X fn.params.toList args.toList (s.fn H (ds++[])).args p:=by
  grind [Uh]
 have D:∀i:Nat->Bool,DataW.TrodVars enc P y i s.vars (s.fn H (ds++[])).vars []:=by
  intro i;rw[C,a];rfl
 refine ⟨_,rfl,ds,[],p++[],[],p,[],l,k _ _ _,d _ (λx j=>decide_eq_true (I x j)),D _,Q.frame _,λ_=>?_⟩;refine⟨ok_one M rfl (okWide_bool_mk r _),(s.fn H (ds++[])).results++(s.fn H (ds++[])).args,(s.fn H (ds++[])).vars,p++[],⟨p,[],?_,D _,rfl,?_,K⟩,λx j _=>j⟩
 .have:=trodAll_append (d (λ_=>X) (λ_ _=>rfl)) (k 0 (λ_=>X) X);simpa using this
 .intro b G j;rw[Q.frozen (l.lt _ j)];exact J b G j
theorem QI{P:Program}{tb:TypeId}(l:laidOutB P=X)(i:fn.params.toList.all (λt=>P.readableRec t&&decide (t<P.types.size))=X)
  (o:fn.resultTypes=#[tb])(j:P.underlying tb=Y .bool)(b:s.vars=[])(p:∀(H:Type)(ds:List (DataW H)),ds.length=fn.params.toList.length->s.fn H (ds++[])={results:=[.lit (.bool X)],args:=ds,vars:=[]})
  (q:Mr P fn.params.toList A)(r:∀d,A d->TV.pr d->TV.Sms d->AW P f d (.sh (.bool X)))
  (H:Type)(enc:TypeId×Value->H)(η:World)(args:Array Value)(ds gs:List (DataW H))(a:List MemPlace)(u:DataW.Whole enc P fn.params.toList s.vars apart η args.toList ds gs a)(k:(DataW.weightsEach P (fn.params.toList++s.plain.varTypes P) (ds++gs)).all (·<=reachBytes)=X)(c:Uc η:=by exact True.intro):
  Calls P f args η λe x=>∃v,e=.returned v/\s.post enc P fn apart fresh handsOn again η args v x:=
 Xw l i o j b p r H enc η args ds gs a u k (λ_ h=>q H enc η _ _ _ h) c
end Go.Sf
