/- What is read of an argument: a typed value, and that memory holds its tree. -/
import Derived.Test.YthcncnllajfkfaaGreatSfLib
import GoSem.ClaimChange
import Derived.SizedLaws
import Derived.Carry
import Derived.ChangeCalls
import Derived.OpenShut
set_option linter.all false
open Option renaming some->Y
open Bool renaming true->X
open List renaming mem_append->v1,mem_cons->v5,length_range->v6,getElem?_eq_some_iff->v_,getElem?_range->v!,mem_map->v?,getElem?_of_mem->w_,getElem?_map->w!,mem_append_right->w?,mem_append_left->x_
open Option renaming bind_eq_some_iff->x!,map_eq_some_iff->x?
namespace Go.Sf
abbrev Xn:Nat->Nat->Prop:=λ_ _=>False
mutual
def TV.Sm:TV->Prop
 |.str s=>s.size<=reachBytes|.list _ es=>es.length<=reachBytes/\TV.Sms es|.agg cs=>TV.Sms cs|_=>True
def TV.Sms:Fq->Prop
 |[]=>True|t::ts=>TV.Sm t/\TV.Sms ts
end
theorem WQ:∀{l:Fq},TV.Sms l↔∀t∈l,t.Sm
 |[]=>by simp[TV.Sms]|t::l=>by simp[TV.Sms,WQ (l:=l)]
theorem mu{l m:Fq}:TV.Sms (l++m)↔TV.Sms l/\TV.Sms m:=by grind[WQ]
theorem Wr{t:TV}(h:TV.Sms t.cells):t.Sm:=by
 cases t<;>first|exact h|exact h.1
def cf{H:Type}(P:Program)(t:TypeId)(d:DataW H):Prop:=∀n∈DataW.weights P t d,n<=reachBytes
def BO(P:Program)(t:TypeId)(n:Nat){ζ:Type}(e:ζ->TV)(fuel:Nat):Prop:=
 ∀(H:Type)(enc:TypeId×Value->H)(w:World)(spare:Nat->Bool)(cs:List Value)(d:DataW H)(ps:List MemPlace),DataW.trod enc P w 0 spare X fuel t cs=Y (d,ps) ->
  ∃x:ζ,(e x).WF/\AQ w Xn (e x).cells cs/\(∀v∈cs,v.oneCell'=X)/\(e x).cells.length=n/\(cf P t d->TV.Sms (e x).cells)
variable{H:Type}{m:Nat}
theorem Ti{P:Program}{el:TypeId}:∀{l:List (DataW H)}{x:DataW H},x∈l->m∈DataW.weights P el x->m∈DataW.weightsAll P el l
 |[],x,a,_=>by cases a
 |y::l,x,a,b=>by
  rw [DataW.weightsAll,v1];rcases v5.1 a with rfl|a
  .exact .inl b
  .exact .inr (Ti a b)
section
variable{P:Program}{t:TypeId}{fuel:Nat}
variable{n:Nat}{ζ:Type}{e:ζ->TV}
theorem AX:BO P t n e 0:=by
 intro H enc w a cs d b h;cases h
variable{k:IntKind}
theorem bf(c:P.underlying t=Y (.int k)):BO P t 1 (λn:Int=>TV.int k n) (fuel+1):=by
 intro H enc w a cs d f h;unfold DataW.trod at h;rw[c]at h;split at h<;>simp_all;rename_i i j n l;obtain⟨b,_,_⟩:=h;obtain⟨rfl,b⟩:=b;refine⟨n,?_,so,i9,rfl,λ_=>u_⟩;simpa[TV.WF,Lit.wf]using b
theorem Yw(c:P.underlying t=Y .bool):BO P t 1 TV.bool (fuel+1):=by
 intro H enc w a cs d f h;unfold DataW.trod at h;rw[c]at h;split at h<;>simp_all;rename_i b;cases b
 .exact .inl ⟨by simp[TV.WF],so,i9,rfl,λ_=>u_⟩
 .exact .inr ⟨by simp[TV.WF],so,i9,rfl,λ_=>u_⟩
theorem bg(c:P.underlying t=Y .string):BO P t 1 TV.str (fuel+1):=by
 intro H enc w a cs d i h;unfold DataW.trod at h;rw[c]at h;split at h<;>simp_all;rename_i b;refine⟨b,by simpa[TV.WF,Kn,maxLen]using h.1,so,i9,rfl,λf=>?_⟩;have:=h.2.1;subst this;have:=f b.data.toList.length (by simp[DataW.weights]);simp[TV.cells,TV.Sms,TV.Sm];simpa using this
theorem Su{α β:Type}{f:α->Option β}:∀{l:List α}{r:List β},l.mapM f=Y r->r.length=l.length/\∀(i:Nat)(a:α),l[i]?=Y a->∃b,r[i]?=Y b/\f a=Y b
 |[],r,h=>by
  grind
 |x::l,r,h=>by
  simp [List.mapM_cons,Option.bind_eq_bind,x!,Option.pure_def,q0]at h;obtain⟨y,d,j,c,rfl⟩:=h;obtain⟨o,p⟩:=Su c
  grind
variable{w:World}
theorem Vl{b:Nat}:∀(ts:Fq)(cs:List Value)(o:Nat),AQ w Xn ts cs->(∀v∈cs,v.oneCell'=X)->(∀j v,cs[j]?=Y v->w.cell? ⟨b,o+j,none⟩=Y v)->Dm w Xn ts b o
 |[],_,_,_,_,_=>trivial|t::ts,cs,o,h,a,c=>by
  simp [AQ]at h;obtain⟨v,r,rfl,f,i⟩:=h;refine⟨⟨v,by simpa using c 0 v rfl,λhf=>hf,a v V,f⟩,?_⟩;refine Vl ts r (o+1) i (λv hv=>a v l!) (λj v d=>?_);have:=c (j+1) v c!
  grind
theorem bV{Q:Nat->ζ->Prop}:∀(n:Nat),(∀i,i<n->∃x,Q i x)->∃l:List ζ,l.length=n/\∀i x,l[i]?=Y x->Q i x
 |0,_=>⟨[],rfl,λi x h=>by simp at h⟩|n+1,h=>by
  obtain ⟨l,a,c⟩:=bV n (λi hi=>h i U);obtain⟨x,d⟩:=h n U;refine⟨l++[x],by simp[a],λi y b=>?_⟩
  grind
theorem X2{a:Addr}{cs:List Value}(h:w.cells? 0 a n=Y cs):cs.length=n/\∀j v,cs[j]?=Y v->w.cell? (a.add j)=Y v:=by
 unfold World.cells? at h;rw[a6 (Nat.zero_le _)]at h;obtain⟨d,i⟩:=Su h;rw[v6]at d;refine⟨d,λj v f=>?_⟩;have c:j<n:=by have:=(v_.1 f).1;omega
 obtain ⟨b,hb,l⟩:=i j j (by rw[v! c])
 grind
theorem CU{el:TypeId}(I:P.underlying t=Y (.slice el))(θ:P.cellsOf el=n)(ε:0<n)(J:0<P.bytesOf el)(he:BO P el n e fuel):BO P t 1 (λl:List ζ=>TV.list n (l.map e)) (fuel+1):=by
 intro H enc w s cs d ps h;unfold DataW.trod at h;rw[I]at h;split at h
 case h_7=>
  refine ⟨[],⟨Nat.zero_le _,trivial⟩,?_,i9,rfl,λ_=>⟨⟨Nat.zero_le _,trivial⟩,trivial⟩⟩;simp only[TV.cells,AQ,A2,List.map_nil];exact⟨_,_,rfl,⟨none,0,rfl,ae _,λ_=>trivial,λκ q=>by cases q⟩,rfl⟩
 case h_8 e1 a len cap hu=>
  simp at hu;subst hu;simp only[]at h;split at h
  .rename_i S;simp only[x!,x?]at h;obtain⟨c,L,rest,M,hd⟩:=h;obtain⟨u,L⟩:=Su L;rw[v6]at u;simp at hd;obtain⟨hd,_⟩:=hd;subst hd;have Z:=λl x E m R=>Ti (P:=P) (el:=el) (H:=H) (m:=m) (l:=l) (x:=x) E R;have E:∀i,i<len->∃x:ζ,(e x).WF/\(e x).cells.length=n/\(∃o,w.cells? 0 (a.add (i*n)) n=Y o/\AQ w Xn (e x).cells o/\∀v∈o,v.oneCell'=X)/\(cf P t (.slice (c.map (·.1)) (rest.map (·.1)))->(e x).Sm):=by
    intro i hi;obtain⟨b,hbi,hb⟩:=L i i (v! hi);simp[x!,θ]at hb;obtain⟨o,z,hb⟩:=hb;obtain⟨x,k1,k2,k3,k4,k5⟩:=he H enc w s o b.1 b.2 hb;refine⟨x,k1,k4,⟨o,z,k2,k3⟩,λF=>Wr (k5 (λm R=>F m ?_))⟩;simp[DataW.weights,I,v5,v1]
    grind
   obtain ⟨l,N,O⟩:=bV len E;have f:∀i,i<len->a.spot=none:=by
    intro i hi;obtain⟨x,_,_,⟨o,z,_,_⟩,_⟩:=E 0 U;obtain⟨h2,Q⟩:=X2 z;have r:=Q 0 _ (List.getElem?_eq_getElem U);simp[Nat.zero_mul,Addr.add,if_true]at r;unfold World.cell? at r;split at r
    .split at r
     .cases r
     .rename_i G;cases K:a.spot with
      |none=>rfl|some p=>simp[K]at G
    .cases r
   refine ⟨l,⟨?_,?_⟩,?_,i9,rfl,λF=>?_⟩
   .simp[N];unfold Kn;have:=S.2.2;unfold maxLen at this;omega
   .rw[CG];intro y C;obtain⟨x,B,rfl⟩:=v?.1 C;obtain⟨i,hi⟩:=w_ B;exact(O i x hi).1
   .simp only[TV.cells,AQ,A2,c9,N];refine⟨_,_,rfl,⟨Y a,cap,rfl,S.2.1,λh=>absurd h V,λκ q=>?_⟩,rfl⟩;simp at q;subst q;refine⟨?_,?_⟩
    .by_cases h0:len=0
     .exact .inl (by have:l=[]:=List.eq_nil_of_length_eq_zero U;rw[this];rfl)
     .exact .inr (f 0 U)
    .rw[S1];intro i y C;rw[w!,x?]at C;obtain⟨x,D,rfl⟩:=C;have hi:i<len:=by have:=(v_.1 D).1;omega
     obtain ⟨_,Q,⟨o,r,h5,h6⟩,_⟩:=O i x D;obtain⟨_,h7⟩:=X2 r;refine⟨?_,Q⟩;refine Vl _ o _ h5 h6 (λj v η=>?_);have:=h7 j v η;have G:=f i hi;obtain⟨ab,ao,sp⟩:=a;simp only at G;subst G;rw[Addr.add_lit,Addr.add_lit]at this;exact this
   .simp[TV.cells,TV.Sms,TV.Sm,N];refine⟨?_,?_⟩
    .have:=F ((c.length+rest.length)*P.bytesOf el) (by simp[DataW.weights,I]);have h9:c.length+rest.length<=(c.length+rest.length)*P.bytesOf el:=Nat.le_mul_of_pos_right _ J;omega
    .rw[WQ];intro y C;obtain⟨x,B,rfl⟩:=v?.1 C;obtain⟨i,hi⟩:=w_ B;exact(O i x hi).2.2.2 F
  .cases h
 all_goals simp_all
def Xm(P:Program)(fuel:Nat)(fs:List (TypeId×Nat))(k m:Nat){δ:Type}(g:δ->Fq):Prop:=
 ∀(H:Type)(enc:TypeId×Value->H)(w:World)(spare:Nat->Bool)(cs:List Value)(L:Prop),cs.length=m->(∀f∈fs,∃b,DataW.trod enc P w 0 spare X fuel f.1 ((cs.drop f.2).take (P.cellsOf f.1))=Y b/\(L->cf P f.1 b.1)) ->
  ∃y:δ,TV.p0 (g y)/\AQ w Xn (g y) (cs.drop k)/\(∀v∈cs.drop k,v.oneCell'=X)/\(g y).length=m-k/\(L->TV.Sms (g y))
variable{m:Nat}
theorem BV:Xm P fuel [] m m (λ_:Unit=>[]):=by
 intro H enc w a cs L b _;have:cs.drop m=[]:=List.drop_eq_nil_of_le U;exact⟨(),trivial,by rw[this];rfl,by simp[this],V,λ_=>trivial⟩
variable{δ:Type}{g:δ->Fq}
theorem AH{f:TypeId}{k n m:Nat}{o:List (TypeId×Nat)}(q:P.cellsOf f=n)(G:k+n<=m)(he:BO P f n e fuel)(hr:Xm P fuel o (k+n) m g):
  Xm P fuel ((f,k)::o) k m (λp:ζ×δ=>(e p.1).cells++g p.2):=by
 intro H enc w c cs L d h;obtain⟨b,hb,s⟩:=h (f,k) V;simp[q]at hb;obtain⟨x,i,u,z,B,j⟩:=he H enc w c _ b.1 b.2 hb;obtain⟨y,C,D,E,F,l⟩:=hr H enc w c cs L d (λf hf=>h f (by simp[hf]));have a:cs.drop k=(cs.drop k).take n++cs.drop (k+n):=by
  rw [<-List.drop_drop,List.take_append_drop]
 refine ⟨(x,y),?_,?_,?_,?_,λd=>mu.2 ⟨j (s d),l d⟩⟩
 .refine Lq.2 ⟨?_,C⟩;cases r:e x<;>rw[r]at i<;>first|exact i|exact⟨i,trivial⟩
 .rw[a];exact JW u D
 .rw[a];intro v hv;rcases v1.1 hv with hv|hv
  .exact z v hv
  .exact E v hv
 .simp[B,F];omega
theorem BC{r:Array Field}{L:List (TypeId×Nat)}(conv:δ->ζ)(s:P.underlying t=Y (.struct r))(v:r.toList.map (λf=>(f.type,f.offset))=L)(x:P.cellsOf t=m)
  (z:Xm P fuel L 0 m g)(l:∀y,e (conv y)=.agg (g y)):BO P t m e (fuel+1):=by
 intro H enc w c cs d J h;unfold DataW.trod at h;rw[s]at h;split at h
 case h_9 fs' cs' hu=>
  simp at hu;subst hu;split at h
  .rename_i C;simp only[x?]at h;obtain⟨xs,o,hd⟩:=h;simp at hd;obtain⟨hd,_⟩:=hd;subst hd;obtain⟨_,o⟩:=Su o;obtain⟨y,D,E,F,G,I⟩:=z H enc w c _ (cf P t (.agg (xs.map (·.1)))) (by rw[C,x]) (λf hf=>by
    rw [<-v]at hf;obtain⟨u,p,rfl⟩:=v?.1 hf;obtain⟨i,hi⟩:=w_ p;obtain⟨b,q,hb⟩:=o i u hi;refine⟨b,hb,λa n B=>a n ?_⟩;simp[DataW.weights,s];exact DataW.weights_mem_each (j:=i) (t:=u.type) (d:=b.1) (by rw[w!,hi];rfl) (by rw[w!,q];rfl) n B)
   refine ⟨conv y,?_,?_,?_,?_,λa=>by rw[l];exact I a⟩
   .rw[l];exact D
   .rw[l];simpa[TV.cells]using E
   .simpa using F
   .rw[l];simpa[TV.cells]using G
  .cases h
 all_goals simp_all
end
end Go.Sf
namespace Go.Sf
open Go.ChangeShapes Go.WideShapes Go.ChangeAt Go.RowKit
variable{H:Type}
theorem Uw{enc:TypeId×Value->H}{P:Program}(j:laidOutB P=X){η l:World}(hb:Below η.heap.size η l){o:Nat->Bool}:
  ∀{ts:List TypeId}{vs:List Value}{ds:List (DataW H)}{f:List MemPlace},ts.all (λt=>P.readableRec t&&decide (t<P.types.size))=X->DataW.TrodAll enc P η 0 (λ_=>X) X ts vs ds f ->
   (∀x∈f,x.block<η.heap.size)->(∀x∈f,o x.block=X)->DataW.TrodAll enc P l 0 o X ts vs ds f
 |[],_,_,_,_,h,_,_=>by
  obtain ⟨rfl,rfl,rfl⟩:=trodAll_nil h;exact trodAll_mk0
 |t::ts,_,_,_,i,h,b,c=>by
  obtain ⟨v,vs,d,ds,p,q,rfl,rfl,rfl,r,s⟩:=trodAll_cons h;simp only[List.all_cons,ne,sA]at i;refine⟨p,q,?_,Uw j hb i.2 s (λx a=>b x (w? _ a)) (λx a=>c x (w? _ a)),rfl⟩;exact WideElems.Trod_stays j i.1.1 i.1.2 r (λx a=>hb.same (b x (x_ _ a))) (λx a=>c x (x_ _ a))
def Wu(P:Program)(ts:List TypeId)(A:Fq->Prop):Prop:=
 ∀(H:Type)(enc:TypeId×Value->H)(η:World)(vs:List Value)(ds:List (DataW H))(ps:List MemPlace),DataW.TrodAll enc P η 0 (λ_=>X) X ts vs ds ps->∃as,A as/\TV.p0 as/\AQ η Xn as vs/\((∀n∈DataW.weightsEach P ts ds,n<=reachBytes)->TV.Sms as)
theorem g7{P:Program}:Wu P [] (λa=>a=[]):=by
 intro H enc η vs ds b h;obtain⟨rfl,rfl,rfl⟩:=trodAll_nil h;exact⟨[],rfl,trivial,rfl,λ_=>trivial⟩
variable{ts:List TypeId}{A:Fq->Prop}{n:Nat}{ζ:Type}{e:ζ->TV}
theorem g6{P:Program}{t:TypeId}(b:n≠1)(hr:∀fuel,BO P t n e fuel)(he:∀x,∃cs,e x=.agg cs)(h:Wu P ts A):
  Wu P (t::ts) (λl=>∃x bs,l=e x::bs/\A bs):=by
 intro H enc η vs ds I r;obtain⟨v,vs,d,ds,p,q,rfl,rfl,rfl,⟨fuel,s⟩,u⟩:=trodAll_cons r;obtain⟨x,z,c,B,j,C⟩:=hr fuel H enc η _ _ _ _ s;obtain⟨bs,D,E,F,G⟩:=h H enc η _ _ _ u;obtain⟨cs,f⟩:=he x;refine⟨e x::bs,⟨x,bs,rfl,D⟩,⟨z,E⟩,?_,λi=>⟨Wr (C λn b=>i n ?_),G λn b=>i n ?_⟩⟩
 case refine_2=>rw[DataW.weightsEach,v1];exact .inl b
 case refine_3=>rw[DataW.weightsEach,v1];exact .inr b
 simp only[AQ];refine⟨v,vs,rfl,?_,F⟩;have a:=BY c;rw[f]at c j a|-;simp[TV.cells]at c j a;rw[A2];cases v with
 |agg cells=>
  refine ⟨cells,rfl,by simpa[Value.cells]using c,List.all_eq_true.2 (λy o=>B y (by simpa[Value.cells]using o))⟩
 |_=>simp[Value.cells]at a;omega
theorem Ss{P:Program}{f:FuncId}{fn:Func}{s:ChangeSpec}{tb:TypeId}{c r d again:Bool}(hl:laidOutB P=X)(θ:fn.params.toList.all (λt=>P.readableRec t&&decide (t<P.types.size))=X)
  (hr:fn.resultTypes=#[tb])(z:P.underlying tb=Y .bool)(a:s.vars=[])(ε:∀(H:Type)(ds:List (DataW H)),ds.length=fn.params.toList.length->s.fn H (ds++[])={results:=[.lit (.bool X)],args:=ds,vars:=[]})
  (κ:∀h,A h->TV.p0 h->TV.Sms h->AT P f h (.sh (.bool X)))
  (H:Type)(enc:TypeId×Value->H)(η:World)(args:Array Value)(ds Q:List (DataW H))(before:List MemPlace)(R:DataW.Whole enc P fn.params.toList s.vars c η args.toList ds Q before)(Z:(DataW.weightsEach P (fn.params.toList++s.plain.varTypes P) (ds++Q)).all (·<=reachBytes)=X)
  (hA:∀ps,DataW.TrodAll enc P η 0 (λ_=>X) X fn.params.toList args.toList ds ps->∃h,A h/\TV.p0 h/\AQ η Xn h args.toList/\((∀n∈DataW.weightsEach P fn.params.toList ds,n<=reachBytes)->TV.Sms h))(B:U1 η:=by exact True.intro):
  Calls P f args η λe C=>∃v,e=.returned v/\s.post enc P fn c r d again η args v C:=by
 have u:=R;obtain⟨p,q,hT,S,rfl,M,N⟩:=R;rw[a]at S;obtain⟨rfl,rfl⟩:=trodVars_none S;obtain⟨h,ha,I,J,O⟩:=hA _ hT;have D:=O (λn hn=>by
  have hv:s.plain.varTypes P=[]:=by unfold DataSpec.varTypes ChangeSpec.plain;rw[a];rfl
  grind)
 obtain ⟨_,y⟩:=(κ h ha I D).to0 rfl I;obtain⟨_,hC⟩:=y Xn η args J B;refine hC.mono λe C=>?_;rintro⟨v,rfl,hb,hv⟩;simp[Jc,A2]at hv;subst hv;have E:ds.length=fn.params.toList.length:=(trodAll_length hT).2;have F:=ε H ds E;have L:∀x∈p,x.block<η.heap.size:=λx l=>u.lt x (x_ _ l);have o:∀(b:Nat)(j:Nat->Bool)(hd:Bool),DataW.TrodAll enc P C b j hd fn.resultTypes.toList ((Value.bool X).resultList fn.resultTypes.size) (s.fn H (ds++[])).results []:=by
  intro b j hd;rw[F,hr];exact trodAll_cons_mk (shut_bool z _) trodAll_mk0
 have i:∀j:Nat->Bool,(∀x∈p,j x.block=X)->DataW.TrodAll enc P C 0 j X fn.params.toList args.toList (s.fn H (ds++[])).args p:=by
  grind [Uw]
 have G:∀j:Nat->Bool,DataW.TrodVars enc P C j s.vars (s.fn H (ds++[])).vars []:=by
  intro j;rw[F,a];rfl
 refine ⟨_,rfl,ds,[],p++[],[],p,[],u,o _ _ _,i _ (λx l=>decide_eq_true (L x l)),G _,hb.frame _,λ_=>?_⟩;refine⟨ok_one hr rfl (okWide_bool_mk z _),(s.fn H (ds++[])).results++(s.fn H (ds++[])).args,(s.fn H (ds++[])).vars,p++[],⟨p,[],?_,G _,rfl,?_,N⟩,λx l _=>l⟩
 .have:=trodAll_append (i (λ_=>X) (λ_ _=>rfl)) (o 0 (λ_=>X) X);simpa using this
 .intro b K l;rw[hb.frozen (u.lt _ l)];exact M b K l
def Mf(P:Program)(ts:List TypeId)(A:Fq->Prop):Prop:=
 ∀(H:Type)(enc:TypeId×Value->H)(η:World)(base:Nat)(vs:List Value)(ds:List (DataW H))(ps:List MemPlace),(∀(j:Nat)t v,ts[j]?=Y t->vs[j]?=Y v->Value.okWide P η .any base t v)->DataW.TrodAll enc P η 0 (λ_=>X) X ts vs ds ps->∃as,A as/\TV.p0 as/\AQ η Xn as vs/\((∀n∈DataW.weightsEach P ts ds,n<=reachBytes)->TV.Sms as)
theorem NW{P:Program}{t:TypeId}{B A:Fq->Prop}(c:Mf P [t] B)(f:Mf P ts A):Mf P (t::ts) (λi=>∃cs bs,i=cs++bs/\B cs/\A bs):=by
 intro H enc η base vs ds K l h;obtain⟨v,vs,d,ds,p,q,rfl,rfl,rfl,y,z⟩:=trodAll_cons h;obtain⟨i,a1,C,u,D⟩:=c H enc η base [v] [d] (p++[]) (λj s o c f=>by
  match j with
  |0=>exact l 0 s o c f|j+1=>simp at c) (trodAll_cons_mk y trodAll_mk0)
 obtain ⟨bs,E,F,G,I⟩:=f H enc η base vs ds q (λj s o c f=>l (j+1) s o c f) z;cases i with
 |nil=>simp[AQ]at u|cons a i=>
  simp only[AQ]at u;obtain⟨o,r,hv,J,hr⟩:=u;cases hv;cases i with
  |cons _ _=>simp only[AQ]at hr;obtain⟨_,_,h,_⟩:=hr;cases h
  |nil=>
   refine ⟨a::bs,⟨_,_,rfl,a1,E⟩,⟨C.1,F⟩,?_,λx=>⟨(D λn b=>x n ?_).1,I λn b=>x n ?_⟩⟩
   .simp only[AQ];exact⟨v,vs,rfl,J,G⟩
   .simp only[DataW.weightsEach,v1]at b|-;rcases b with b|b;exact .inl b;cases b
   .simp[DataW.weightsEach,v1];exact .inr b
theorem OQ{P:Program}{t:TypeId}(b:n≠1)(hr:∀fuel,BO P t n e fuel)(he:∀x,∃cs,e x=.agg cs):Mf P [t] (λa=>∃x,a=[e x]):=by
 intro H enc η base vs ds d c h;obtain⟨a,⟨x,bs,rfl,rfl⟩,k⟩:=g6 b hr he g7 H enc η _ _ _ h;exact⟨_,⟨x,rfl⟩,k⟩
variable{k:IntKind}
theorem Uu{P:Program}{t:TypeId}(b:P.underlying t=Y (.int k))(hr:∀fuel,BO P t 1 (λn:Int=>TV.int k n) fuel):Mf P [t] (λc=>∃n:Int,c=[.int k n]):=by
 intro H enc η base vs ds y a i;obtain⟨v,vs,d,ds,p,q,rfl,rfl,rfl,⟨fuel,j⟩,l⟩:=trodAll_cons i;obtain⟨rfl,rfl,rfl⟩:=trodAll_nil l;obtain⟨x,o,r,z,B,u⟩:=hr fuel H enc η _ _ _ _ j;obtain⟨s,rfl⟩:=okWide_int b (a 0 t v rfl rfl);exact⟨_,⟨x,rfl⟩,⟨o,trivial⟩,by simpa[TV.cells,Value.cells]using r,λf=>by simpa[TV.cells]using u λn h=>f n (by rw[DataW.weightsEach,v1];exact .inl h)⟩
end Go.Sf
