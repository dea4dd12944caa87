/- What is read of an argument: a typed value, and that memory holds its tree. -/
import Derived.Test.YthcncnllajfkfaaGreatSfLib
import GoSem.ClaimChange
import Derived.SizedLaws
import Derived.Carry
import Derived.ChangeCalls
import Derived.OpenShut
set_option linter.all false
open Option renaming some->Y
open Bool renaming true->X
open List renaming mem_append->v?,mem_cons->w_,length_range->w!,getElem?_eq_some_iff->w?,getElem?_range->x_,mem_map->x!,getElem?_of_mem->x?,getElem?_map->y_,mem_append_right->y!,mem_append_left->y?
open Option renaming bind_eq_some_iff->z_,map_eq_some_iff->z!
namespace Go.Sf
abbrev Xu:Nat->Nat->Prop:=λ_ _=>False
mutual
def TV.Sm:TV->Prop
 |.str s=>s.size<=reachBytes|.list _ es=>es.length<=reachBytes/\TV.Sms es|.agg cs=>TV.Sms cs|_=>True
def TV.Sms:Fq->Prop
 |[]=>True|t::ts=>TV.Sm t/\TV.Sms ts
end
theorem L5:∀{l:Fq},TV.Sms l↔∀t∈l,t.Sm
 |[]=>by simp[TV.Sms]|t::l=>by simp[TV.Sms,L5 (l:=l)]
theorem lc{l m:Fq}:TV.Sms (l++m)↔TV.Sms l/\TV.Sms m:=by grind[L5]
theorem W5{t:TV}(h:TV.Sms t.cells):t.Sm:=by
 cases t<;>first|exact h|exact h.1
def Xy{H:Type}(P:Program)(t:TypeId)(d:DataW H):Prop:=∀n∈DataW.weights P t d,n<=reachBytes
def ER(P:Program)(t:TypeId)(n:Nat){ζ:Type}(e:ζ->TV)(fuel:Nat):Prop:=
 ∀(H:Type)(enc:TypeId×Value->H)(w:World)(spare:Nat->Bool)(cs:List Value)(d:DataW H)(ps:List MemPlace),DataW.trod enc P w 0 spare X fuel t cs=Y (d,ps) ->
  ∃x:ζ,(e x).WF/\AP w Xu (e x).cells cs/\(∀v∈cs,v.oneCell'=X)/\(e x).cells.length=n/\(Xy P t d->TV.Sms (e x).cells)
variable{H:Type}{m:Nat}
theorem QM{P:Program}{el:TypeId}:∀{l:List (DataW H)}{x:DataW H},x∈l->m∈DataW.weights P el x->m∈DataW.weightsAll P el l
 |[],x,a,_=>by cases a
 |y::l,x,a,b=>by
  rw [DataW.weightsAll,v?];rcases w_.1 a with rfl|a
  .exact .inl b
  .exact .inr (QM a b)
section
variable{P:Program}{t:TypeId}{fuel:Nat}
variable{n:Nat}{ζ:Type}{e:ζ->TV}
theorem DH:ER P t n e 0:=by
 intro H enc w a cs d b h;cases h
variable{k:IntKind}
theorem Vq(c:P.underlying t=Y (.int k)):ER P t 1 (λn:Int=>TV.int k n) (fuel+1):=by
 intro H enc w a cs d f h;unfold DataW.trod at h;rw[c]at h;split at h<;>simp_all;rename_i i j n l;obtain⟨b,_,_⟩:=h;obtain⟨rfl,b⟩:=b;refine⟨n,?_,by simp[TV.cells,AP,A1],k?,rfl,λ_=>v_⟩;simpa[TV.WF,Lit.wf]using b
theorem lO(c:P.underlying t=Y .bool):ER P t 1 TV.bool (fuel+1):=by
 intro H enc w a cs d f h;unfold DataW.trod at h;rw[c]at h;split at h<;>simp_all;rename_i b;cases b
 .exact .inl ⟨by simp[TV.WF],by simp[TV.cells,AP,A1],k?,rfl,λ_=>v_⟩
 .exact .inr ⟨by simp[TV.WF],by simp[TV.cells,AP,A1],k?,rfl,λ_=>v_⟩
theorem Q0{α β:Type}{f:α->Option β}:∀{l:List α}{r:List β},l.mapM f=Y r->r.length=l.length/\∀(i:Nat)(a:α),l[i]?=Y a->∃b,r[i]?=Y b/\f a=Y b
 |[],r,h=>by
  grind
 |x::l,r,h=>by
  simp [List.mapM_cons,Option.bind_eq_bind,z_,Option.pure_def,tc]at h;obtain⟨y,d,ys,c,rfl⟩:=h;obtain⟨j,o⟩:=Q0 c
  grind
variable{w:World}
theorem Vt{b:Nat}:∀(ts:Fq)(cs:List Value)(o:Nat),AP w Xu ts cs->(∀v∈cs,v.oneCell'=X)->(∀j v,cs[j]?=Y v->w.cell? ⟨b,o+j,none⟩=Y v)->Dg w Xu ts b o
 |[],_,_,_,_,_=>trivial|t::ts,cs,o,h,a,c=>by
  simp [AP]at h;obtain⟨v,r,rfl,f,i⟩:=h;refine⟨⟨v,by simpa using c 0 v rfl,λhf=>hf,a v V,f⟩,?_⟩;refine Vt ts r (o+1) i (λv hv=>a v k_) (λj v d=>?_);have:=c (j+1) v c?
  grind
theorem aq{Q:Nat->ζ->Prop}:∀(n:Nat),(∀i,i<n->∃x,Q i x)->∃l:List ζ,l.length=n/\∀i x,l[i]?=Y x->Q i x
 |0,_=>⟨[],rfl,λi x h=>by simp at h⟩|n+1,h=>by
  obtain ⟨l,a,c⟩:=aq n (λi hi=>h i U);obtain⟨x,d⟩:=h n U;refine⟨l++[x],by simp[a],λi y b=>?_⟩
  grind
theorem X9{a:Addr}{cs:List Value}(h:w.cells? 0 a n=Y cs):cs.length=n/\∀j v,cs[j]?=Y v->w.cell? (a.add j)=Y v:=by
 unfold World.cells? at h;rw[ac (Nat.zero_le _)]at h;obtain⟨d,i⟩:=Q0 h;rw[w!]at d;refine⟨d,λj v f=>?_⟩;have c:j<n:=by have:=(w?.1 f).1;omega
 obtain ⟨b,hb,l⟩:=i j j (by rw[x_ c])
 grind
theorem Qf{el:TypeId}(I:P.underlying t=Y (.slice el))(ε:P.cellsOf el=n)(κ:0<n)(J:0<P.bytesOf el)(he:ER P el n e fuel):ER P t 1 (λl:List ζ=>TV.list n (l.map e)) (fuel+1):=by
 intro H enc w s cs d ps h;unfold DataW.trod at h;rw[I]at h;split at h
 case h_7=>
  refine ⟨[],⟨Nat.zero_le _,trivial⟩,?_,k?,rfl,λ_=>⟨⟨Nat.zero_le _,trivial⟩,trivial⟩⟩;simp only[TV.cells,AP,A1,List.map_nil];exact⟨_,_,rfl,⟨none,0,rfl,az _,λ_=>trivial,λη q=>by cases q⟩,rfl⟩
 case h_8 e1 a len cap hu=>
  simp at hu;subst hu;simp only[]at h;split at h
  .rename_i θ;simp only[z_,z!]at h;obtain⟨c,M,rest,N,hd⟩:=h;obtain⟨u,M⟩:=Q0 M;rw[w!]at u;simp at hd;obtain⟨hd,_⟩:=hd;subst hd;have hLt:=λl x E m S=>QM (P:=P) (el:=el) (H:=H) (m:=m) (l:=l) (x:=x) E S;have E:∀i,i<len->∃x:ζ,(e x).WF/\(e x).cells.length=n/\(∃o,w.cells? 0 (a.add (i*n)) n=Y o/\AP w Xu (e x).cells o/\∀v∈o,v.oneCell'=X)/\(Xy P t (.slice (c.map (·.1)) (rest.map (·.1)))->(e x).Sm):=by
    intro i hi;obtain⟨b,hbi,hb⟩:=M i i (x_ hi);simp[z_,ε]at hb;obtain⟨o,z,hb⟩:=hb;obtain⟨x,k1,k2,k3,k4,k5⟩:=he H enc w s o b.1 b.2 hb;refine⟨x,k1,k4,⟨o,z,k2,k3⟩,λF=>W5 (k5 (λm S=>F m ?_))⟩;simp[DataW.weights,I,w_,v?]
    grind
   obtain ⟨l,O,Q⟩:=aq len E;have f:∀i,i<len->a.spot=none:=by
    intro i hi;obtain⟨x,_,_,⟨o,z,_,_⟩,_⟩:=E 0 U;obtain⟨h2,R⟩:=X9 z;have r:=R 0 _ (List.getElem?_eq_getElem U);simp[Nat.zero_mul,Addr.add,if_true]at r;unfold World.cell? at r;split at r
    .split at r
     .cases r
     .rename_i G;cases K:a.spot with
      |none=>rfl|some p=>simp[K]at G
    .cases r
   refine ⟨l,⟨?_,?_⟩,?_,k?,rfl,λF=>?_⟩
   .simp[O];unfold LF;have:=θ.2.2;unfold maxLen at this;omega
   .rw[B7];intro y C;obtain⟨x,B,rfl⟩:=x!.1 C;obtain⟨i,hi⟩:=x? B;exact(Q i x hi).1
   .simp only[TV.cells,AP,A1,cL,O];refine⟨_,_,rfl,⟨Y a,cap,rfl,θ.2.1,λh=>absurd h V,λη q=>?_⟩,rfl⟩;simp at q;subst q;refine⟨?_,?_⟩
    .by_cases h0:len=0
     .exact .inl (by have:l=[]:=List.eq_nil_of_length_eq_zero U;rw[this];rfl)
     .exact .inr (f 0 U)
    .rw[S5];intro i y C;rw[y_,z!]at C;obtain⟨x,D,rfl⟩:=C;have hi:i<len:=by have:=(w?.1 D).1;omega
     obtain ⟨_,R,⟨o,r,h5,h6⟩,_⟩:=Q i x D;obtain⟨_,h7⟩:=X9 r;refine⟨?_,R⟩;refine Vt _ o _ h5 h6 (λj v Z=>?_);have:=h7 j v Z;have G:=f i hi;obtain⟨ab,ao,sp⟩:=a;simp only at G;subst G;rw[Addr.add_lit,Addr.add_lit]at this;exact this
   .simp[TV.cells,TV.Sms,TV.Sm,O];refine⟨?_,?_⟩
    .have:=F ((c.length+rest.length)*P.bytesOf el) (by simp[DataW.weights,I]);have h9:c.length+rest.length<=(c.length+rest.length)*P.bytesOf el:=Nat.le_mul_of_pos_right _ J;omega
    .rw[L5];intro y C;obtain⟨x,B,rfl⟩:=x!.1 C;obtain⟨i,hi⟩:=x? B;exact(Q i x hi).2.2.2 F
  .cases h
 all_goals simp_all
def Uy(P:Program)(fuel:Nat)(fs:List (TypeId×Nat))(k m:Nat){δ:Type}(g:δ->Fq):Prop:=
 ∀(H:Type)(enc:TypeId×Value->H)(w:World)(spare:Nat->Bool)(cs:List Value)(L:Prop),cs.length=m->(∀f∈fs,∃b,DataW.trod enc P w 0 spare X fuel f.1 ((cs.drop f.2).take (P.cellsOf f.1))=Y b/\(L->Xy P f.1 b.1)) ->
  ∃y:δ,TV.sc (g y)/\AP w Xu (g y) (cs.drop k)/\(∀v∈cs.drop k,v.oneCell'=X)/\(g y).length=m-k/\(L->TV.Sms (g y))
variable{m:Nat}
theorem IC:Uy P fuel [] m m (λ_:Unit=>[]):=by
 intro H enc w a cs L b _;have:cs.drop m=[]:=List.drop_eq_nil_of_le U;exact⟨(),trivial,by rw[this];rfl,by simp[this],V,λ_=>trivial⟩
variable{δ:Type}{g:δ->Fq}
theorem BO{f:TypeId}{k n m:Nat}{o:List (TypeId×Nat)}(q:P.cellsOf f=n)(G:k+n<=m)(he:ER P f n e fuel)(hr:Uy P fuel o (k+n) m g):
  Uy P fuel ((f,k)::o) k m (λp:ζ×δ=>(e p.1).cells++g p.2):=by
 intro H enc w c cs L d h;obtain⟨b,hb,s⟩:=h (f,k) V;simp[q]at hb;obtain⟨x,i,u,z,B,j⟩:=he H enc w c _ b.1 b.2 hb;obtain⟨y,C,D,E,F,l⟩:=hr H enc w c cs L d (λf hf=>h f (by simp[hf]));have a:cs.drop k=(cs.drop k).take n++cs.drop (k+n):=by
  rw [<-List.drop_drop,List.take_append_drop]
 refine ⟨(x,y),?_,?_,?_,?_,λd=>lc.2 ⟨j (s d),l d⟩⟩
 .refine Lg.2 ⟨?_,C⟩;cases r:e x<;>rw[r]at i<;>first|exact i|exact⟨i,trivial⟩
 .rw[a];exact JF u D
 .rw[a];intro v hv;rcases v?.1 hv with hv|hv
  .exact z v hv
  .exact E v hv
 .simp[B,F];omega
variable{L:List (TypeId×Nat)}
theorem Mf{r:Array Field}(conv:δ->ζ)(s:P.underlying t=Y (.struct r))(v:r.toList.map (λf=>(f.type,f.offset))=L)(x:P.cellsOf t=m)
  (z:Uy P fuel L 0 m g)(l:∀y,e (conv y)=.agg (g y)):ER P t m e (fuel+1):=by
 intro H enc w c cs d J h;unfold DataW.trod at h;rw[s]at h;split at h
 case h_9 fs' cs' hu=>
  simp at hu;subst hu;split at h
  .rename_i C;simp only[z!]at h;obtain⟨xs,o,hd⟩:=h;simp at hd;obtain⟨hd,_⟩:=hd;subst hd;obtain⟨_,o⟩:=Q0 o;obtain⟨y,D,E,F,G,I⟩:=z H enc w c _ (Xy P t (.agg (xs.map (·.1)))) (by rw[C,x]) (λf hf=>by
    rw [<-v]at hf;obtain⟨u,p,rfl⟩:=x!.1 hf;obtain⟨i,hi⟩:=x? p;obtain⟨b,q,hb⟩:=o i u hi;refine⟨b,hb,λa n B=>a n ?_⟩;simp[DataW.weights,s];exact DataW.weights_mem_each (j:=i) (t:=u.type) (d:=b.1) (by rw[y_,hi];rfl) (by rw[y_,q];rfl) n B)
   refine ⟨conv y,?_,?_,?_,?_,λa=>by rw[l];exact I a⟩
   .rw[l];exact D
   .rw[l];simpa[TV.cells]using E
   .simpa using F
   .rw[l];simpa[TV.cells]using G
  .cases h
 all_goals simp_all
theorem Qe{el:TypeId}(conv:δ->ζ)(p:P.underlying t=Y (.array n el))(q:(List.range n).map (λi=>(el,i*P.cellsOf el))=L)(r:P.cellsOf t=m)
  (s:Uy P fuel L 0 m g)(j:∀y,e (conv y)=.agg (g y)):ER P t m e (fuel+1):=by
 intro H enc w c cs d E h;unfold DataW.trod at h;rw[p]at h;split at h
 case h_10 n' e' cs' hu=>
  simp at hu;obtain⟨rfl,rfl⟩:=hu;split at h
  .rename_i v;simp only[z!]at h;obtain⟨xs,l,hd⟩:=h;simp at hd;obtain⟨hd,_⟩:=hd;subst hd;obtain⟨_,l⟩:=Q0 l;obtain⟨y,x,z,B,C,D⟩:=s H enc w c _ (Xy P t (.agg (xs.map (·.1)))) (by rw[v,r]) (λf hf=>by
    rw [<-q]at hf;obtain⟨i,hi,rfl⟩:=x!.1 hf;rw[List.mem_range]at hi;obtain⟨b,o,hb⟩:=l i i (x_ hi);refine⟨b,hb,λa n u=>a n ?_⟩;simp[DataW.weights,p];exact QM (x!.2 ⟨b,List.mem_of_getElem? o,rfl⟩) u)
   refine ⟨conv y,?_,?_,?_,?_,λa=>by rw[j];exact D a⟩
   .rw[j];exact x
   .rw[j];simpa[TV.cells]using z
   .simpa using B
   .rw[j];simpa[TV.cells]using C
  .cases h
 all_goals simp_all
end
end Go.Sf
namespace Go.Sf
open Go.ChangeShapes Go.WideShapes Go.ChangeAt Go.RowKit
variable{H:Type}
theorem Uv{enc:TypeId×Value->H}{P:Program}(j:laidOutB P=X){η l:World}(hb:Below η.heap.size η l){o:Nat->Bool}:
  ∀{ts:List TypeId}{vs:List Value}{ds:List (DataW H)}{f:List MemPlace},ts.all (λt=>P.readableRec t&&decide (t<P.types.size))=X->DataW.TrodAll enc P η 0 (λ_=>X) X ts vs ds f ->
   (∀x∈f,x.block<η.heap.size)->(∀x∈f,o x.block=X)->DataW.TrodAll enc P l 0 o X ts vs ds f
 |[],_,_,_,_,h,_,_=>by
  obtain ⟨rfl,rfl,rfl⟩:=trodAll_nil h;exact trodAll_mk0
 |t::ts,_,_,_,i,h,b,c=>by
  obtain ⟨v,vs,d,ds,p,q,rfl,rfl,rfl,r,s⟩:=trodAll_cons h;simp only[List.all_cons,pc,sx]at i;refine⟨p,q,?_,Uv j hb i.2 s (λx a=>b x (y! _ a)) (λx a=>c x (y! _ a)),rfl⟩;exact WideElems.Trod_stays j i.1.1 i.1.2 r (λx a=>hb.same (b x (y? _ a))) (λx a=>c x (y? _ a))
def W8(P:Program)(ts:List TypeId)(A:Fq->Prop):Prop:=
 ∀(H:Type)(enc:TypeId×Value->H)(η:World)(vs:List Value)(ds:List (DataW H))(ps:List MemPlace),DataW.TrodAll enc P η 0 (λ_=>X) X ts vs ds ps->∃as,A as/\TV.sc as/\AP η Xu as vs/\((∀n∈DataW.weightsEach P ts ds,n<=reachBytes)->TV.Sms as)
theorem fk{P:Program}:W8 P [] (λa=>a=[]):=by
 intro H enc η vs ds b h;obtain⟨rfl,rfl,rfl⟩:=trodAll_nil h;exact⟨[],rfl,trivial,rfl,λ_=>trivial⟩
variable{ts:List TypeId}{A:Fq->Prop}{n:Nat}{ζ:Type}{e:ζ->TV}
theorem fj{P:Program}{t:TypeId}(b:n≠1)(hr:∀fuel,ER P t n e fuel)(he:∀x,∃cs,e x=.agg cs)(h:W8 P ts A):
  W8 P (t::ts) (λl=>∃x bs,l=e x::bs/\A bs):=by
 intro H enc η vs ds I r;obtain⟨v,vs,d,ds,p,q,rfl,rfl,rfl,⟨fuel,s⟩,u⟩:=trodAll_cons r;obtain⟨x,z,c,B,j,C⟩:=hr fuel H enc η _ _ _ _ s;obtain⟨bs,D,E,F,G⟩:=h H enc η _ _ _ u;obtain⟨cs,f⟩:=he x;refine⟨e x::bs,⟨x,bs,rfl,D⟩,⟨z,E⟩,?_,λi=>⟨W5 (C λn b=>i n ?_),G λn b=>i n ?_⟩⟩
 case refine_2=>rw[DataW.weightsEach,v?];exact .inl b
 case refine_3=>rw[DataW.weightsEach,v?];exact .inr b
 simp only[AP];refine⟨v,vs,rfl,?_,F⟩;have a:=BX c;rw[f]at c j a|-;simp[TV.cells]at c j a;rw[A1];cases v with
 |agg cells=>
  refine ⟨cells,rfl,by simpa[Value.cells]using c,List.all_eq_true.2 (λy o=>B y (by simpa[Value.cells]using o))⟩
 |_=>simp[Value.cells]at a;omega
theorem Ya{P:Program}{f:FuncId}{fn:Func}{s:ChangeSpec}{tb:TypeId}{c r d again:Bool}(hl:laidOutB P=X)(ε:fn.params.toList.all (λt=>P.readableRec t&&decide (t<P.types.size))=X)
  (hr:fn.resultTypes=#[tb])(z:P.underlying tb=Y .bool)(a:s.vars=[])(κ:∀(H:Type)(ds:List (DataW H)),ds.length=fn.params.toList.length->s.fn H (ds++[])={results:=[.lit (.bool X)],args:=ds,vars:=[]})
  (Z:∀h,A h->TV.sc h->TV.Sms h->AV P f h (.sh (.bool X)))
  (H:Type)(enc:TypeId×Value->H)(η:World)(args:Array Value)(ds R:List (DataW H))(before:List MemPlace)(S:DataW.Whole enc P fn.params.toList s.vars c η args.toList ds R before)(hwt:(DataW.weightsEach P (fn.params.toList++s.plain.varTypes P) (ds++R)).all (·<=reachBytes)=X)
  (hA:∀ps,DataW.TrodAll enc P η 0 (λ_=>X) X fn.params.toList args.toList ds ps->∃h,A h/\TV.sc h/\AP η Xu h args.toList/\((∀n∈DataW.weightsEach P fn.params.toList ds,n<=reachBytes)->TV.Sms h))(B:U4 η:=by exact True.intro):
  Calls P f args η λe C=>∃v,e=.returned v/\s.post enc P fn c r d again η args v C:=by
 have u:=S;obtain⟨p,q,hT,θ,rfl,N,O⟩:=S;rw[a]at θ;obtain⟨rfl,rfl⟩:=trodVars_none θ;obtain⟨h,ha,I,J,Q⟩:=hA _ hT;have D:=Q (λn hn=>by
  have hv:s.plain.varTypes P=[]:=by unfold DataSpec.varTypes ChangeSpec.plain;rw[a];rfl
  grind)
 obtain ⟨_,y⟩:=(Z h ha I D).to0 rfl I;obtain⟨_,hC⟩:=y Xu η args J B;refine hC.mono λe C=>?_;rintro⟨v,rfl,hb,hv⟩;simp[JL,A1]at hv;subst hv;have E:ds.length=fn.params.toList.length:=(trodAll_length hT).2;have F:=κ H ds E;have M:∀x∈p,x.block<η.heap.size:=λx l=>u.lt x (y? _ l);have o:∀(b:Nat)(j:Nat->Bool)(hd:Bool),DataW.TrodAll enc P C b j hd fn.resultTypes.toList ((Value.bool X).resultList fn.resultTypes.size) (s.fn H (ds++[])).results []:=by
  intro b j hd;rw[F,hr];exact trodAll_cons_mk (shut_bool z _) trodAll_mk0
 have i:∀j:Nat->Bool,(∀x∈p,j x.block=X)->DataW.TrodAll enc P C 0 j X fn.params.toList args.toList (s.fn H (ds++[])).args p:=by
  grind [Uv]
 have G:∀j:Nat->Bool,DataW.TrodVars enc P C j s.vars (s.fn H (ds++[])).vars []:=by
  intro j;rw[F,a];rfl
 refine ⟨_,rfl,ds,[],p++[],[],p,[],u,o _ _ _,i _ (λx l=>decide_eq_true (M x l)),G _,hb.frame _,λ_=>?_⟩;refine⟨ok_one hr rfl (okWide_bool_mk z _),(s.fn H (ds++[])).results++(s.fn H (ds++[])).args,(s.fn H (ds++[])).vars,p++[],⟨p,[],?_,G _,rfl,?_,O⟩,λx l _=>l⟩
 .have:=trodAll_append (i (λ_=>X) (λ_ _=>rfl)) (o 0 (λ_=>X) X);simpa using this
 .intro b K l;rw[hb.frozen (u.lt _ l)];exact N b K l
def Of(P:Program)(ts:List TypeId)(A:Fq->Prop):Prop:=
 ∀(H:Type)(enc:TypeId×Value->H)(η:World)(base:Nat)(vs:List Value)(ds:List (DataW H))(ps:List MemPlace),(∀(j:Nat)t v,ts[j]?=Y t->vs[j]?=Y v->Value.okWide P η .any base t v)->DataW.TrodAll enc P η 0 (λ_=>X) X ts vs ds ps->∃as,A as/\TV.sc as/\AP η Xu as vs/\((∀n∈DataW.weightsEach P ts ds,n<=reachBytes)->TV.Sms as)
theorem Zk{P:Program}{t:TypeId}{B A:Fq->Prop}(c:Of P [t] B)(f:Of P ts A):Of P (t::ts) (λi=>∃cs bs,i=cs++bs/\B cs/\A bs):=by
 intro H enc η base vs ds I l h;obtain⟨v,vs,d,ds,p,q,rfl,rfl,rfl,x,y⟩:=trodAll_cons h;obtain⟨i,a1,a2,a3,z⟩:=c H enc η base [v] [d] (p++[]) (λj s o c f=>by
  match j with
  |0=>exact l 0 s o c f|j+1=>simp at c) (trodAll_cons_mk x trodAll_mk0)
 obtain ⟨bs,C,D,E,F⟩:=f H enc η base vs ds q (λj s o c f=>l (j+1) s o c f) y;cases i with
 |nil=>simp[AP]at a3|cons a i=>
  simp only[AP]at a3;obtain⟨o,r,hv,G,hr⟩:=a3;cases hv;cases i with
  |cons _ _=>simp only[AP]at hr;obtain⟨_,_,h,_⟩:=hr;cases h
  |nil=>
   refine ⟨a::bs,⟨_,_,rfl,a1,C⟩,⟨a2.1,D⟩,?_,λu=>⟨(z λn b=>u n ?_).1,F λn b=>u n ?_⟩⟩
   .simp only[AP];exact⟨v,vs,rfl,G,E⟩
   .simp only[DataW.weightsEach,v?]at b|-;rcases b with b|b;exact .inl b;cases b
   .simp[DataW.weightsEach,v?];exact .inr b
theorem cM{P:Program}{t:TypeId}(b:n≠1)(hr:∀fuel,ER P t n e fuel)(he:∀x,∃cs,e x=.agg cs):Of P [t] (λa=>∃x,a=[e x]):=by
 intro H enc η base vs ds d c h;obtain⟨a,⟨x,bs,rfl,rfl⟩,k⟩:=fj b hr he fk H enc η _ _ _ h;exact⟨_,⟨x,rfl⟩,k⟩
variable{k:IntKind}
theorem cN{P:Program}{t:TypeId}(b:P.underlying t=Y (.int k))(hr:∀fuel,ER P t 1 (λn:Int=>TV.int k n) fuel):Of P [t] (λc=>∃n:Int,c=[.int k n]):=by
 intro H enc η base vs ds y a i;obtain⟨v,vs,d,ds,p,q,rfl,rfl,rfl,⟨fuel,j⟩,l⟩:=trodAll_cons i;obtain⟨rfl,rfl,rfl⟩:=trodAll_nil l;obtain⟨x,o,r,z,B,u⟩:=hr fuel H enc η _ _ _ _ j;obtain⟨s,rfl⟩:=okWide_int b (a 0 t v rfl rfl);exact⟨_,⟨x,rfl⟩,⟨o,trivial⟩,by simpa[TV.cells,Value.cells]using r,λf=>by simpa[TV.cells]using u λn h=>f n (by rw[DataW.weightsEach,v?];exact .inl h)⟩
end Go.Sf
