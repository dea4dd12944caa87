/- What is read of an argument: a typed value, and that memory holds its tree. -/
import Derived.Test.YtiefejhapgafkaaGreatSfStep
import GoSem.ClaimChange
import Derived.SizedLaws
import Derived.Carry
import Derived.ChangeCalls
import Derived.OpenShut
set_option linter.all false
open Option renaming some->Y
open Bool renaming true->X
open List renaming mem_append->x!,mem_cons->x?,length_range->y_,getElem?_eq_some_iff->y!,getElem?_range->y?,mem_map->z_,getElem?_of_mem->z!,getElem?_map->z?,mem_append_right->A_,mem_append_left->A'
open Option renaming bind_eq_some_iff->A!,map_eq_some_iff->A?
namespace Go.Sf
abbrev X5:Nat->Nat->Prop:=λ_ _=>False
mutual
def TV.Sm:TV->Prop
 |.str s=>s.size<=reachBytes|.list _ es=>es.length<=reachBytes/\TV.Sms es|.agg cs=>TV.Sms cs|_=>True
def TV.Sms:Fq->Prop
 |[]=>True|t::ts=>TV.Sm t/\TV.Sms ts
end
theorem MK:∀{l:Fq},TV.Sms l↔∀t∈l,t.Sm
 |[]=>by simp[TV.Sms]|t::l=>by simp[TV.Sms,MK (l:=l)]
def mK{l m:Fq}:TV.Sms (l++m)↔TV.Sms l/\TV.Sms m:=by grind[MK]
def XJ{t:TV}(h:TV.Sms t.cells):t.Sm:=by
 cases t<;>first|exact h|exact h.1
def X9{H:Type}(P:Program)(t:TypeId)(d:DataW H):Prop:=∀n∈DataW.weights P t d,n<=reachBytes
def Ek(P:Program)(t:TypeId)(n:Nat){ζ:Type}(e:ζ->TV)(fuel:Nat):Prop:=
 ∀(H:Type)(enc:TypeId×Value->H)(w:World)(spare:Nat->Bool)(cs:List Value)(d:DataW H)(ps:List MemPlace),DataW.trod enc P w 0 spare X fuel t cs=Y (d,ps) ->
  ∃x:ζ,(e x).WF/\AR w X5 (e x).cells cs/\(∀v∈cs,v.oneCell'=X)/\(e x).cells.length=n/\(X9 P t d->TV.Sms (e x).cells)
variable{H:Type}{m:Nat}
def QP{P:Program}{el:TypeId}:∀{l:List (DataW H)}{x:DataW H},x∈l->m∈DataW.weights P el x->m∈DataW.weightsAll P el l
 |[],x,a,_=>by cases a
 |y::l,x,a,b=>by
  rw [DataW.weightsAll,x!];rcases x?.1 a with rfl|a
  .exact .inl b
  .exact .inr (QP a b)
section
variable{P:Program}{t:TypeId}{fuel:Nat}
variable{n:Nat}{ζ:Type}{e:ζ->TV}
def DO:Ek P t n e 0:=by
 intro H enc w a cs d b h;cases h
def V4{k:IntKind}(c:P.underlying t=Y (.int k)):Ek P t 1 (λn:Int=>TV.int k n) (fuel+1):=by
 intro H enc w a cs d f h;unfold DataW.trod at h;rw[c]at h;split at h<;>simp_all;rename_i i j n l;obtain⟨b,_,_⟩:=h;obtain⟨rfl,b⟩:=b;refine⟨n,?_,by simp[TV.cells,AR,A3],k_,rfl,λ_=>v?⟩;simpa[TV.WF,Lit.wf]using b
def l9(c:P.underlying t=Y .bool):Ek P t 1 TV.bool (fuel+1):=by
 intro H enc w a cs d f h;unfold DataW.trod at h;rw[c]at h;split at h<;>simp_all;rename_i b;cases b
 .exact .inl ⟨by simp[TV.WF],by simp[TV.cells,AR,A3],k_,rfl,λ_=>v?⟩
 .exact .inr ⟨by simp[TV.WF],by simp[TV.cells,AR,A3],k_,rfl,λ_=>v?⟩
def Q3{α β:Type}{f:α->Option β}:∀{l:List α}{r:List β},l.mapM f=Y r->r.length=l.length/\∀(i:Nat)(a:α),l[i]?=Y a->∃b,r[i]?=Y b/\f a=Y b
 |[],r,h=>by
  grind
 |x::l,r,h=>by
  simp [List.mapM_cons,Option.bind_eq_bind,A!,Option.pure_def,p0]at h;obtain⟨y,d,ys,c,rfl⟩:=h;obtain⟨j,k⟩:=Q3 c
  grind
variable{w:World}
def V7{b:Nat}:∀(a:Fq)(cs:List Value)(o:Nat),AR w X5 a cs->(∀v∈cs,v.oneCell'=X)->(∀j v,cs[j]?=Y v->w.cell? ⟨b,o+j,none⟩=Y v)->Dn w X5 a b o
 |[],_,_,_,_,_=>trivial|t::a,cs,o,h,c,d=>by
  simp [AR]at h;obtain⟨v,r,rfl,i,k⟩:=h;refine⟨⟨v,by simpa using d 0 v rfl,λhf=>hf,c v V,i⟩,?_⟩;refine V7 a r (o+1) k (λv hv=>c v j!) (λj v f=>?_);have:=d (j+1) v w_
  grind
def bN{Q:Nat->ζ->Prop}:∀(n:Nat),(∀i,i<n->∃x,Q i x)->∃l:List ζ,l.length=n/\∀i x,l[i]?=Y x->Q i x
 |0,_=>⟨[],rfl,λi x h=>by simp at h⟩|n+1,h=>by
  obtain ⟨l,a,c⟩:=bN n (λi hi=>h i U);obtain⟨x,d⟩:=h n U;refine⟨l++[x],by simp[a],λi y b=>?_⟩
  grind
def YK{a:Addr}{cs:List Value}(h:w.cells? 0 a n=Y cs):cs.length=n/\∀j v,cs[j]?=Y v->w.cell? (a.add j)=Y v:=by
 unfold World.cells? at h;rw[ac (Nat.zero_le _)]at h;obtain⟨d,i⟩:=Q3 h;rw[y_]at d;refine⟨d,λj v f=>?_⟩;have c:j<n:=by have:=(y!.1 f).1;omega
 obtain ⟨b,hb,k⟩:=i j j (by rw[y? c])
 grind
def Qh{el:TypeId}(G:P.underlying t=Y (.slice el))(θ:P.cellsOf el=n)(ε:0<n)(I:0<P.bytesOf el)(he:Ek P el n e fuel):Ek P t 1 (λl:List ζ=>TV.list n (l.map e)) (fuel+1):=by
 intro H enc w r cs d ps h;unfold DataW.trod at h;rw[G]at h;split at h
 case h_7=>
  refine ⟨[],⟨Nat.zero_le _,trivial⟩,?_,k_,rfl,λ_=>⟨⟨Nat.zero_le _,trivial⟩,trivial⟩⟩;simp only[TV.cells,AR,A3,List.map_nil];exact⟨_,_,rfl,⟨none,0,rfl,az _,λ_=>trivial,λκ o=>by cases o⟩,rfl⟩
 case h_8 e1 a len cap hu=>
  simp at hu;subst hu;simp only[]at h;split at h
  .rename_i S;simp only[A!,A?]at h;obtain⟨c,K,rest,M,hd⟩:=h;obtain⟨s,K⟩:=Q3 K;rw[y_]at s;simp at hd;obtain⟨hd,_⟩:=hd;subst hd;have Z:=λl x D m R=>QP (P:=P) (el:=el) (H:=H) (m:=m) (l:=l) (x:=x) D R;have D:∀i,i<len->∃x:ζ,(e x).WF/\(e x).cells.length=n/\(∃k,w.cells? 0 (a.add (i*n)) n=Y k/\AR w X5 (e x).cells k/\∀v∈k,v.oneCell'=X)/\(X9 P t (.slice (c.map (·.1)) (rest.map (·.1)))->(e x).Sm):=by
    intro i hi;obtain⟨b,hbi,hb⟩:=K i i (y? hi);simp[A!,θ]at hb;obtain⟨k,u,hb⟩:=hb;obtain⟨x,k1,k2,k3,k4,k5⟩:=he H enc w r k b.1 b.2 hb;refine⟨x,k1,k4,⟨k,u,k2,k3⟩,λE=>XJ (k5 (λm R=>E m ?_))⟩;simp[DataW.weights,G,x?,x!]
    grind
   obtain ⟨l,N,O⟩:=bN len D;have f:∀i,i<len->a.spot=none:=by
    intro i hi;obtain⟨x,_,_,⟨k,u,_,_⟩,_⟩:=D 0 U;obtain⟨h2,Q⟩:=YK u;have q:=Q 0 _ (List.getElem?_eq_getElem U);simp[Nat.zero_mul,Addr.add,if_true]at q;unfold World.cell? at q;split at q
    .split at q
     .cases q
     .rename_i F;cases J:a.spot with
      |none=>rfl|some p=>simp[J]at F
    .cases q
   refine ⟨l,⟨?_,?_⟩,?_,k_,rfl,λE=>?_⟩
   .simp[N];unfold LY;have:=S.2.2;unfold maxLen at this;omega
   .rw[CC];intro y B;obtain⟨x,z,rfl⟩:=z_.1 B;obtain⟨i,hi⟩:=z! z;exact(O i x hi).1
   .simp only[TV.cells,AR,A3,c9,N];refine⟨_,_,rfl,⟨Y a,cap,rfl,S.2.1,λh=>absurd h V,λκ o=>?_⟩,rfl⟩;simp at o;subst o;refine⟨?_,?_⟩
    .by_cases h0:len=0
     .exact .inl (by have:l=[]:=List.eq_nil_of_length_eq_zero U;rw[this];rfl)
     .exact .inr (f 0 U)
    .rw[TF];intro i y B;rw[z?,A?]at B;obtain⟨x,C,rfl⟩:=B;have hi:i<len:=by have:=(y!.1 C).1;omega
     obtain ⟨_,Q,⟨k,q,h5,h6⟩,_⟩:=O i x C;obtain⟨_,h7⟩:=YK q;refine⟨?_,Q⟩;refine V7 _ k _ h5 h6 (λj v η=>?_);have:=h7 j v η;have F:=f i hi;obtain⟨ab,ao,sp⟩:=a;simp only at F;subst F;rw[Addr.add_lit,Addr.add_lit]at this;exact this
   .simp[TV.cells,TV.Sms,TV.Sm,N];refine⟨?_,?_⟩
    .have:=E ((c.length+rest.length)*P.bytesOf el) (by simp[DataW.weights,G]);have h9:c.length+rest.length<=(c.length+rest.length)*P.bytesOf el:=Nat.le_mul_of_pos_right _ I;omega
    .rw[MK];intro y B;obtain⟨x,z,rfl⟩:=z_.1 B;obtain⟨i,hi⟩:=z! z;exact(O i x hi).2.2.2 E
  .cases h
 all_goals simp_all
def VH(P:Program)(fuel:Nat)(fs:List (TypeId×Nat))(k m:Nat){δ:Type}(g:δ->Fq):Prop:=
 ∀(H:Type)(enc:TypeId×Value->H)(w:World)(spare:Nat->Bool)(cs:List Value)(L:Prop),cs.length=m->(∀f∈fs,∃b,DataW.trod enc P w 0 spare X fuel f.1 ((cs.drop f.2).take (P.cellsOf f.1))=Y b/\(L->X9 P f.1 b.1)) ->
  ∃y:δ,TV.pq (g y)/\AR w X5 (g y) (cs.drop k)/\(∀v∈cs.drop k,v.oneCell'=X)/\(g y).length=m-k/\(L->TV.Sms (g y))
variable{m:Nat}
def IR:VH P fuel [] m m (λ_:Unit=>[]):=by
 intro H enc w a cs L b _;have:cs.drop m=[]:=List.drop_eq_nil_of_le U;exact⟨(),trivial,by rw[this];rfl,by simp[this],V,λ_=>trivial⟩
variable{δ:Type}{g:δ->Fq}
def BQ{f:TypeId}{k n m:Nat}{o:List (TypeId×Nat)}(q:P.cellsOf f=n)(G:k+n<=m)(he:Ek P f n e fuel)(hr:VH P fuel o (k+n) m g):
  VH P fuel ((f,k)::o) k m (λp:ζ×δ=>(e p.1).cells++g p.2):=by
 intro H enc w c cs L d h;obtain⟨b,hb,s⟩:=h (f,k) V;simp[q]at hb;obtain⟨x,i,u,z,B,j⟩:=he H enc w c _ b.1 b.2 hb;obtain⟨y,C,D,E,F,l⟩:=hr H enc w c cs L d (λf hf=>h f (by simp[hf]));have a:cs.drop k=(cs.drop k).take n++cs.drop (k+n):=by
  rw [<-List.drop_drop,List.take_append_drop]
 refine ⟨(x,y),?_,?_,?_,?_,λd=>mK.2 ⟨j (s d),l d⟩⟩
 .refine Lw.2 ⟨?_,C⟩;cases r:e x<;>rw[r]at i<;>first|exact i|exact⟨i,trivial⟩
 .rw[a];exact JS u D
 .rw[a];intro v hv;rcases x!.1 hv with hv|hv
  .exact z v hv
  .exact E v hv
 .simp[B,F];omega
variable{L:List (TypeId×Nat)}
def Mu{q:Array Field}(conv:δ->ζ)(r:P.underlying t=Y (.struct q))(u:q.toList.map (λf=>(f.type,f.offset))=L)(v:P.cellsOf t=m)
  (x:VH P fuel L 0 m g)(k:∀y,e (conv y)=.agg (g y)):Ek P t m e (fuel+1):=by
 intro H enc w c cs d I h;unfold DataW.trod at h;rw[r]at h;split at h
 case h_9 fs' cs' hu=>
  simp at hu;subst hu;split at h
  .rename_i B;simp only[A?]at h;obtain⟨xs,l,hd⟩:=h;simp at hd;obtain⟨hd,_⟩:=hd;subst hd;obtain⟨_,l⟩:=Q3 l;obtain⟨y,C,D,E,F,G⟩:=x H enc w c _ (X9 P t (.agg (xs.map (·.1)))) (by rw[B,v]) (λf hf=>by
    rw [<-u]at hf;obtain⟨s,o,rfl⟩:=z_.1 hf;obtain⟨i,hi⟩:=z! o;obtain⟨b,p,hb⟩:=l i s hi;refine⟨b,hb,λa n z=>a n ?_⟩;simp[DataW.weights,r];exact DataW.weights_mem_each (j:=i) (t:=s.type) (d:=b.1) (by rw[z?,hi];rfl) (by rw[z?,p];rfl) n z)
   refine ⟨conv y,?_,?_,?_,?_,λa=>by rw[k];exact G a⟩
   .rw[k];exact C
   .rw[k];simpa[TV.cells]using D
   .simpa using E
   .rw[k];simpa[TV.cells]using F
  .cases h
 all_goals simp_all
def Qg{el:TypeId}(conv:δ->ζ)(o:P.underlying t=Y (.array n el))(p:(List.range n).map (λi=>(el,i*P.cellsOf el))=L)(q:P.cellsOf t=m)
  (r:VH P fuel L 0 m g)(j:∀y,e (conv y)=.agg (g y)):Ek P t m e (fuel+1):=by
 intro H enc w c cs d D h;unfold DataW.trod at h;rw[o]at h;split at h
 case h_10 n' e' cs' hu=>
  simp at hu;obtain⟨rfl,rfl⟩:=hu;split at h
  .rename_i u;simp only[A?]at h;obtain⟨xs,k,hd⟩:=h;simp at hd;obtain⟨hd,_⟩:=hd;subst hd;obtain⟨_,k⟩:=Q3 k;obtain⟨y,v,x,z,B,C⟩:=r H enc w c _ (X9 P t (.agg (xs.map (·.1)))) (by rw[u,q]) (λf hf=>by
    rw [<-p]at hf;obtain⟨i,hi,rfl⟩:=z_.1 hf;rw[List.mem_range]at hi;obtain⟨b,l,hb⟩:=k i i (y? hi);refine⟨b,hb,λa n s=>a n ?_⟩;simp[DataW.weights,o];exact QP (z_.2 ⟨b,List.mem_of_getElem? l,rfl⟩) s)
   refine ⟨conv y,?_,?_,?_,?_,λa=>by rw[j];exact C a⟩
   .rw[j];exact v
   .rw[j];simpa[TV.cells]using x
   .simpa using z
   .rw[j];simpa[TV.cells]using B
  .cases h
 all_goals simp_all
end
end Go.Sf
namespace Go.Sf
open Go.ChangeShapes Go.WideShapes Go.ChangeAt Go.RowKit
variable{H:Type}
theorem VD{enc:TypeId×Value->H}{P:Program}(k:laidOutB P=X){η l:World}(hb:Below η.heap.size η l){o:Nat->Bool}:
  ∀{f:List TypeId}{vs:List Value}{ds:List (DataW H)}{i:List MemPlace},f.all (λt=>P.readableRec t&&decide (t<P.types.size))=X->DataW.TrodAll enc P η 0 (λ_=>X) X f vs ds i ->
   (∀x∈i,x.block<η.heap.size)->(∀x∈i,o x.block=X)->DataW.TrodAll enc P l 0 o X f vs ds i
 |[],_,_,_,_,h,_,_=>by
  obtain ⟨rfl,rfl,rfl⟩:=trodAll_nil h;exact trodAll_mk0
 |t::f,_,_,_,j,h,b,c=>by
  obtain ⟨v,vs,d,ds,p,q,rfl,rfl,rfl,r,s⟩:=trodAll_cons h;simp only[List.all_cons,mo,qo]at j;refine⟨p,q,?_,VD k hb j.2 s (λx a=>b x (A_ _ a)) (λx a=>c x (A_ _ a)),rfl⟩;exact WideElems.Trod_stays k j.1.1 j.1.2 r (λx a=>hb.same (b x (A' _ a))) (λx a=>c x (A' _ a))
def XL(P:Program)(ts:List TypeId)(A:Fq->Prop):Prop:=
 ∀(H:Type)(enc:TypeId×Value->H)(η:World)(vs:List Value)(ds:List (DataW H))(ps:List MemPlace),DataW.TrodAll enc P η 0 (λ_=>X) X ts vs ds ps->∃as,A as/\TV.pq as/\AR η X5 as vs/\((∀n∈DataW.weightsEach P ts ds,n<=reachBytes)->TV.Sms as)
def gK{P:Program}:XL P [] (λa=>a=[]):=by
 intro H enc η vs ds b h;obtain⟨rfl,rfl,rfl⟩:=trodAll_nil h;exact⟨[],rfl,trivial,rfl,λ_=>trivial⟩
variable{A:Fq->Prop}{n:Nat}{ζ:Type}{e:ζ->TV}
def gJ{P:Program}{t:TypeId}{i:List TypeId}(b:n≠1)(hr:∀fuel,Ek P t n e fuel)(he:∀x,∃cs,e x=.agg cs)(h:XL P i A):
  XL P (t::i) (λl=>∃x bs,l=e x::bs/\A bs):=by
 intro H enc η vs ds I r;obtain⟨v,vs,d,ds,p,q,rfl,rfl,rfl,⟨fuel,s⟩,u⟩:=trodAll_cons r;obtain⟨x,z,c,B,k,C⟩:=hr fuel H enc η _ _ _ _ s;obtain⟨bs,D,E,F,G⟩:=h H enc η _ _ _ u;obtain⟨cs,f⟩:=he x;refine⟨e x::bs,⟨x,bs,rfl,D⟩,⟨z,E⟩,?_,λj=>⟨XJ (C λn b=>j n ?_),G λn b=>j n ?_⟩⟩
 case refine_2=>rw[DataW.weightsEach,x!];exact .inl b
 case refine_3=>rw[DataW.weightsEach,x!];exact .inr b
 simp only[AR];refine⟨v,vs,rfl,?_,F⟩;have a:=BX c;rw[f]at c k a|-;simp[TV.cells]at c k a;rw[A3];cases v with
 |agg cells=>
  refine ⟨cells,rfl,by simpa[Value.cells]using c,List.all_eq_true.2 (λy o=>B y (by simpa[Value.cells]using o))⟩
 |_=>simp[Value.cells]at a;omega
def Yl{P:Program}{f:FuncId}{fn:Func}{s:ChangeSpec}{tb:TypeId}{c o d again:Bool}(hl:laidOutB P=X)(θ:fn.params.toList.all (λt=>P.readableRec t&&decide (t<P.types.size))=X)
  (hr:fn.resultTypes=#[tb])(y:P.underlying tb=Y .bool)(a:s.vars=[])(ε:∀(H:Type)(ds:List (DataW H)),ds.length=fn.params.toList.length->s.fn H (ds++[])={results:=[.lit (.bool X)],args:=ds,vars:=[]})
  (κ:∀h,A h->TV.pq h->TV.Sms h->AV P f h (.sh (.bool X)))
  (H:Type)(enc:TypeId×Value->H)(η:World)(args:Array Value)(ds Q:List (DataW H))(before:List MemPlace)(R:DataW.Whole enc P fn.params.toList s.vars c η args.toList ds Q before)(Z:(DataW.weightsEach P (fn.params.toList++s.plain.varTypes P) (ds++Q)).all (·<=reachBytes)=X)
  (hA:∀ps,DataW.TrodAll enc P η 0 (λ_=>X) X fn.params.toList args.toList ds ps->∃h,A h/\TV.pq h/\AR η X5 h args.toList/\((∀n∈DataW.weightsEach P fn.params.toList ds,n<=reachBytes)->TV.Sms h))(z:VL η:=by exact True.intro):
  Calls P f args η λe B=>∃v,e=.returned v/\s.post enc P fn c o d again η args v B:=by
 have r:=R;obtain⟨p,q,hT,S,rfl,M,N⟩:=R;rw[a]at S;obtain⟨rfl,rfl⟩:=trodVars_none S;obtain⟨h,ha,G,I,O⟩:=hA _ hT;have C:=O (λn hn=>by
  have hv:s.plain.varTypes P=[]:=by unfold DataSpec.varTypes ChangeSpec.plain;rw[a];rfl
  grind)
 obtain ⟨_,u⟩:=(κ h ha G C).to0 rfl G;obtain⟨_,hC⟩:=u X5 η args I z;refine hC.mono λe B=>?_;rintro⟨v,rfl,hb,hv⟩;simp[JY,A3]at hv;subst hv;have D:ds.length=fn.params.toList.length:=(trodAll_length hT).2;have E:=ε H ds D;have K:∀x∈p,x.block<η.heap.size:=λx k=>r.lt x (A' _ k);have l:∀(b:Nat)(j:Nat->Bool)(hd:Bool),DataW.TrodAll enc P B b j hd fn.resultTypes.toList ((Value.bool X).resultList fn.resultTypes.size) (s.fn H (ds++[])).results []:=by
  intro b j hd;rw[E,hr];exact trodAll_cons_mk (shut_bool y _) trodAll_mk0
 have i:∀j:Nat->Bool,(∀x∈p,j x.block=X)->DataW.TrodAll enc P B 0 j X fn.params.toList args.toList (s.fn H (ds++[])).args p:=by
  grind [VD]
 have F:∀j:Nat->Bool,DataW.TrodVars enc P B j s.vars (s.fn H (ds++[])).vars []:=by
  intro j;rw[E,a];rfl
 refine ⟨_,rfl,ds,[],p++[],[],p,[],r,l _ _ _,i _ (λx k=>decide_eq_true (K x k)),F _,hb.frame _,λ_=>?_⟩;refine⟨ok_one hr rfl (okWide_bool_mk y _),(s.fn H (ds++[])).results++(s.fn H (ds++[])).args,(s.fn H (ds++[])).vars,p++[],⟨p,[],?_,F _,rfl,?_,N⟩,λx k _=>k⟩
 .have:=trodAll_append (i (λ_=>X) (λ_ _=>rfl)) (l 0 (λ_=>X) X);simpa using this
 .intro b J k;rw[hb.frozen (r.lt _ k)];exact M b J k
def Z3(P:Program)(ts:List TypeId)(A:Fq->Prop):Prop:=
 ∀(H:Type)(enc:TypeId×Value->H)(η:World)(base:Nat)(vs:List Value)(ds:List (DataW H))(ps:List MemPlace),(∀(j:Nat)t v,ts[j]?=Y t->vs[j]?=Y v->Value.okWide P η .any base t v)->DataW.TrodAll enc P η 0 (λ_=>X) X ts vs ds ps->∃as,A as/\TV.pq as/\AR η X5 as vs/\((∀n∈DataW.weightsEach P ts ds,n<=reachBytes)->TV.Sms as)
def cg{P:Program}{t:TypeId}(b:n≠1)(hr:∀fuel,Ek P t n e fuel)(he:∀x,∃cs,e x=.agg cs):Z3 P [t] (λa=>∃x,a=[e x]):=by
 intro H enc η base vs ds d c h;obtain⟨a,⟨x,bs,rfl,rfl⟩,k⟩:=gJ b hr he gK H enc η _ _ _ h;exact⟨_,⟨x,rfl⟩,k⟩
end Go.Sf
