/- What is read of an argument: a typed value, and that memory holds its tree. -/
import Derived.Test.YtpagkickoiafkaaGreatSfLib
import GoSem.ClaimChange
import Derived.SizedLaws
import Derived.Carry
import Derived.ChangeCalls
import Derived.OpenShut
set_option linter.all false
open Option renaming some->Y
open Bool renaming true->X
open List renaming mem_append->v?,mem_cons->w_,length_range->w!,getElem?_eq_some_iff->w?,getElem?_range->x_,mem_map->x!,getElem?_of_mem->x?,getElem?_map->y_,mem_append_right->y!,mem_append_left->y?
open Option renaming bind_eq_some_iff->z_,map_eq_some_iff->z!
namespace Go.Sf
abbrev Y2:Nat->Nat->Prop:=λ_ _=>False
mutual
def TV.Sm:TV->Prop
 |.str s=>s.size<=reachBytes|.list _ es=>es.length<=reachBytes/\TV.Sms es|.agg cs=>TV.Sms cs|_=>True
def TV.Sms:Fq->Prop
 |[]=>True|t::ts=>TV.Sm t/\TV.Sms ts
end
theorem Ko:∀{l:Fq},TV.Sms l↔∀t∈l,t.Sm
 |[]=>by simp[TV.Sms]|t::l=>by simp[TV.Sms,Ko (l:=l)]
theorem ju{l m:Fq}:TV.Sms (l++m)↔TV.Sms l/\TV.Sms m:=by grind[Ko]
theorem WN{t:TV}(h:TV.Sms t.cells):t.Sm:=by
 cases t<;>first|exact h|exact h.1
def W7{H:Type}(P:Program)(t:TypeId)(d:DataW H):Prop:=∀n∈DataW.weights P t d,n<=reachBytes
def I9(P:Program)(t:TypeId)(n:Nat){ζ:Type}(e:ζ->TV)(fuel:Nat):Prop:=
 ∀(H:Type)(enc:TypeId×Value->H)(w:World)(spare:Nat->Bool)(cs:List Value)(d:DataW H)(ps:List MemPlace),DataW.trod enc P w 0 spare X fuel t cs=Y (d,ps) ->
  ∃x:ζ,(e x).WF/\AT w Y2 (e x).cells cs/\(∀v∈cs,v.oneCell'=X)/\(e x).cells.length=n/\(W7 P t d->TV.Sms (e x).cells)
variable{H:Type}{m:Nat}
theorem O5{P:Program}{el:TypeId}:∀{l:List (DataW H)}{x:DataW H},x∈l->m∈DataW.weights P el x->m∈DataW.weightsAll P el l
 |[],x,a,_=>by cases a
 |y::l,x,a,b=>by
  rw [DataW.weightsAll,v?];rcases w_.1 a with rfl|a
  .exact .inl b
  .exact .inr (O5 a b)
section
variable{P:Program}{t:TypeId}{fuel:Nat}
variable{n:Nat}{ζ:Type}{e:ζ->TV}
theorem If:I9 P t n e 0:=by
 intro H enc w a cs d b h;cases h
theorem mU{k:IntKind}(c:P.underlying t=Y (.int k)):I9 P t 1 (λn:Int=>TV.int k n) (fuel+1):=by
 intro H enc w a cs d i h;unfold DataW.trod at h;rw[c]at h;split at h<;>simp_all;rename_i j l n o;obtain⟨b,_,_⟩:=h;obtain⟨rfl,b⟩:=b;refine⟨n,?_,by simp[TV.cells,AT,Ap],n!,rfl,λ_=>by simp[TV.cells,TV.Sms,TV.Sm]⟩;simpa[TV.WF,Lit.wf]using b
theorem Pl{α β:Type}{f:α->Option β}:∀{l:List α}{r:List β},l.mapM f=Y r->r.length=l.length/\∀(i:Nat)(a:α),l[i]?=Y a->∃b,r[i]?=Y b/\f a=Y b
 |[],r,h=>by
  grind
 |x::l,r,h=>by
  simp [List.mapM_cons,Option.bind_eq_bind,z_,Option.pure_def,kx]at h;obtain⟨y,d,j,c,rfl⟩:=h;obtain⟨k,o⟩:=Pl c
  grind
variable{w:World}
theorem VJ{b:Nat}:∀(a:Fq)(cs:List Value)(o:Nat),AT w Y2 a cs->(∀v∈cs,v.oneCell'=X)->(∀j v,cs[j]?=Y v->w.cell? ⟨b,o+j,none⟩=Y v)->DD w Y2 a b o
 |[],_,_,_,_,_=>trivial|t::a,cs,o,h,c,d=>by
  simp [AT]at h;obtain⟨v,r,rfl,k,l⟩:=h;refine⟨⟨v,by simpa using d 0 v rfl,λhf=>hf,c v V,k⟩,?_⟩;refine VJ a r (o+1) l (λv hv=>c v u?) (λj v i=>?_);have:=d (j+1) v (by simpa using i)
  grind
theorem Z1{Q:Nat->ζ->Prop}:∀(n:Nat),(∀i,i<n->∃x,Q i x)->∃l:List ζ,l.length=n/\∀i x,l[i]?=Y x->Q i x
 |0,_=>⟨[],rfl,λi x h=>by simp at h⟩|n+1,h=>by
  obtain ⟨l,a,c⟩:=Z1 n (λi hi=>h i U);obtain⟨x,d⟩:=h n U;refine⟨l++[x],by simp[a],λi y b=>?_⟩
  grind
theorem XL{a:Addr}{cs:List Value}(h:w.cells? 0 a n=Y cs):cs.length=n/\∀j v,cs[j]?=Y v->w.cell? (a.add j)=Y v:=by
 unfold World.cells? at h;rw[QQ (Nat.zero_le _)]at h;obtain⟨d,k⟩:=Pl h;rw[w!]at d;refine⟨d,λj v i=>?_⟩;have c:j<n:=by have:=(w?.1 i).1;omega
 obtain ⟨b,l,o⟩:=k j j (by rw[x_ c])
 grind
theorem SL{el:TypeId}(K:P.underlying t=Y (.slice el))(hn:P.cellsOf el=n)(η:0<n)(M:0<P.bytesOf el)(he:I9 P el n e fuel):I9 P t 1 (λl:List ζ=>TV.list n (l.map e)) (fuel+1):=by
 intro H enc w u cs d ps h;unfold DataW.trod at h;rw[K]at h;split at h
 case h_7=>
  refine ⟨[],⟨Nat.zero_le _,trivial⟩,?_,n!,rfl,λ_=>⟨⟨Nat.zero_le _,trivial⟩,trivial⟩⟩;simp only[TV.cells,AT,Ap,List.map_nil];exact⟨_,_,rfl,⟨none,0,rfl,aN _,λ_=>trivial,λZ q=>by cases q⟩,rfl⟩
 case h_8 e1 a len cap hu=>
  simp at hu;subst hu;simp only[]at h;split at h
  .rename_i κ;simp only[z_,z!]at h;obtain⟨c,O,rest,Q,hd⟩:=h;obtain⟨z,O⟩:=Pl O;rw[w!]at z;simp at hd;obtain⟨hd,_⟩:=hd;subst hd;have hLt:=λl x F m ε=>O5 (P:=P) (el:=el) (H:=H) (m:=m) (l:=l) (x:=x) F ε;have F:∀i,i<len->∃x:ζ,(e x).WF/\(e x).cells.length=n/\(∃o,w.cells? 0 (a.add (i*n)) n=Y o/\AT w Y2 (e x).cells o/\∀v∈o,v.oneCell'=X)/\(W7 P t (.slice (c.map (·.1)) (rest.map (·.1)))->(e x).Sm):=by
    intro i hi;obtain⟨b,hbi,J⟩:=O i i (x_ hi);simp[z_,hn]at J;obtain⟨o,B,J⟩:=J;obtain⟨x,k1,k2,k3,k4,k5⟩:=he H enc w u o b.1 b.2 J;refine⟨x,k1,k4,⟨o,B,k2,k3⟩,λG=>WN (k5 (λm ε=>G m ?_))⟩;simp[DataW.weights,K,w_,v?]
    grind
   obtain ⟨l,R,S⟩:=Z1 len F;have k:∀i,i<len->a.spot=none:=by
    intro i hi;obtain⟨x,_,_,⟨o,B,_,_⟩,_⟩:=F 0 U;obtain⟨h2,θ⟩:=XL B;have r:=θ 0 _ (List.getElem?_eq_getElem U);simp[Nat.zero_mul,Addr.add,if_true]at r;unfold World.cell? at r;split at r
    .split at r
     .cases r
     .rename_i I;cases N:a.spot with
      |none=>rfl|some p=>simp[N]at I
    .cases r
   refine ⟨l,⟨?_,?_⟩,?_,n!,rfl,λG=>?_⟩
   .simp[R];unfold J3;have:=κ.2.2;unfold maxLen at this;omega
   .rw[Bn];intro y D;obtain⟨x,C,rfl⟩:=x!.1 D;obtain⟨i,hi⟩:=x? C;exact(S i x hi).1
   .simp only[TV.cells,AT,Ap,az,R];refine⟨_,_,rfl,⟨Y a,cap,rfl,κ.2.1,λh=>absurd h V,λZ q=>?_⟩,rfl⟩;simp at q;subst q;refine⟨?_,?_⟩
    .by_cases h0:len=0
     .exact .inl (by have:l=[]:=List.eq_nil_of_length_eq_zero U;rw[this];rfl)
     .exact .inr (k 0 U)
    .rw[R3];intro i y D;rw[y_,z!]at D;obtain⟨x,E,rfl⟩:=D;have hi:i<len:=by have:=(w?.1 E).1;omega
     obtain ⟨_,θ,⟨o,r,h5,h6⟩,_⟩:=S i x E;obtain⟨_,h7⟩:=XL r;refine⟨?_,θ⟩;refine VJ _ o _ h5 h6 (λj v hj=>?_);have:=h7 j v hj;have I:=k i hi;obtain⟨ab,ao,sp⟩:=a;simp only at I;subst I;rw[Addr.add_lit,Addr.add_lit]at this;exact this
   .simp[TV.cells,TV.Sms,TV.Sm,R];refine⟨?_,?_⟩
    .have:=G ((c.length+rest.length)*P.bytesOf el) (by simp[DataW.weights,K]);have h9:c.length+rest.length<=(c.length+rest.length)*P.bytesOf el:=Nat.le_mul_of_pos_right _ M;omega
    .rw[Ko];intro y D;obtain⟨x,C,rfl⟩:=x!.1 D;obtain⟨i,hi⟩:=x? C;exact(S i x hi).2.2.2 G
  .cases h
 all_goals simp_all
def Uc(P:Program)(fuel:Nat)(fs:List (TypeId×Nat))(k m:Nat){δ:Type}(g:δ->Fq):Prop:=
 ∀(H:Type)(enc:TypeId×Value->H)(w:World)(spare:Nat->Bool)(cs:List Value)(L:Prop),cs.length=m->(∀f∈fs,∃b,DataW.trod enc P w 0 spare X fuel f.1 ((cs.drop f.2).take (P.cellsOf f.1))=Y b/\(L->W7 P f.1 b.1)) ->
  ∃y:δ,TV.k7 (g y)/\AT w Y2 (g y) (cs.drop k)/\(∀v∈cs.drop k,v.oneCell'=X)/\(g y).length=m-k/\(L->TV.Sms (g y))
variable{m:Nat}
theorem QT:Uc P fuel [] m m (λ_:Unit=>[]):=by
 intro H enc w a cs L b _;have:cs.drop m=[]:=List.drop_eq_nil_of_le U;exact⟨(),trivial,by rw[this];rfl,by simp[this],V,λ_=>trivial⟩
variable{δ:Type}{g:δ->Fq}
theorem FK{f:TypeId}{k n m:Nat}{o:List (TypeId×Nat)}(hn:P.cellsOf f=n)(J:k+n<=m)(he:I9 P f n e fuel)(r:Uc P fuel o (k+n) m g):
  Uc P fuel ((f,k)::o) k m (λp:ζ×δ=>(e p.1).cells++g p.2):=by
 intro H enc w c cs L d h;obtain⟨b,q,z⟩:=h (f,k) V;simp[hn]at q;obtain⟨x,i,B,C,D,j⟩:=he H enc w c _ b.1 b.2 q;obtain⟨y,E,F,G,I,l⟩:=r H enc w c cs L d (λf hf=>h f (by simp[hf]));have a:cs.drop k=(cs.drop k).take n++cs.drop (k+n):=by
  rw [<-List.drop_drop,List.take_append_drop]
 refine ⟨(x,y),?_,?_,?_,?_,λd=>ju.2 ⟨j (z d),l d⟩⟩
 .refine KJ.2 ⟨?_,E⟩;cases u:e x<;>rw[u]at i<;>first|exact i|exact⟨i,trivial⟩
 .rw[a];exact ID B F
 .rw[a];intro v hv;rcases v?.1 hv with hv|hv
  .exact C v hv
  .exact G v hv
 .simp[D,I];omega
variable{L:List (TypeId×Nat)}
theorem VG{q:Array Field}(conv:δ->ζ)(r:P.underlying t=Y (.struct q))(v:q.toList.map (λf=>(f.type,f.offset))=L)(x:P.cellsOf t=m)
  (z:Uc P fuel L 0 m g)(k:∀y,e (conv y)=.agg (g y)):I9 P t m e (fuel+1):=by
 intro H enc w c cs d J h;unfold DataW.trod at h;rw[r]at h;split at h
 case h_9 fs' cs' hu=>
  simp at hu;subst hu;split at h
  .rename_i B;simp only[z!]at h;obtain⟨xs,l,hd⟩:=h;simp at hd;obtain⟨hd,_⟩:=hd;subst hd;obtain⟨_,l⟩:=Pl l;obtain⟨y,C,D,E,F,G⟩:=z H enc w c _ (W7 P t (.agg (xs.map (·.1)))) (by rw[B,x]) (λf hf=>by
    rw [<-v]at hf;obtain⟨u,o,rfl⟩:=x!.1 hf;obtain⟨i,hi⟩:=x? o;obtain⟨b,p,I⟩:=l i u hi;refine⟨b,I,λa n hn=>a n ?_⟩;simp[DataW.weights,r];exact DataW.weights_mem_each (j:=i) (t:=u.type) (d:=b.1) (by rw[y_,hi];rfl) (by rw[y_,p];rfl) n hn)
   refine ⟨conv y,?_,?_,?_,?_,λa=>by rw[k];exact G a⟩
   .rw[k];exact C
   .rw[k];simpa[TV.cells]using D
   .simpa using E
   .rw[k];simpa[TV.cells]using F
  .cases h
 all_goals simp_all
theorem WH{el:TypeId}(conv:δ->ζ)(o:P.underlying t=Y (.array n el))(p:(List.range n).map (λi=>(el,i*P.cellsOf el))=L)(q:P.cellsOf t=m)
  (r:Uc P fuel L 0 m g)(j:∀y,e (conv y)=.agg (g y)):I9 P t m e (fuel+1):=by
 intro H enc w c cs d E h;unfold DataW.trod at h;rw[o]at h;split at h
 case h_10 n' e' cs' hu=>
  simp at hu;obtain⟨rfl,rfl⟩:=hu;split at h
  .rename_i u;simp only[z!]at h;obtain⟨xs,k,hd⟩:=h;simp at hd;obtain⟨hd,_⟩:=hd;subst hd;obtain⟨_,k⟩:=Pl k;obtain⟨y,v,x,z,B,C⟩:=r H enc w c _ (W7 P t (.agg (xs.map (·.1)))) (by rw[u,q]) (λf hf=>by
    rw [<-p]at hf;obtain⟨i,hi,rfl⟩:=x!.1 hf;rw[List.mem_range]at hi;obtain⟨b,l,D⟩:=k i i (x_ hi);refine⟨b,D,λa n hn=>a n ?_⟩;simp[DataW.weights,o];exact O5 (x!.2 ⟨b,List.mem_of_getElem? l,rfl⟩) hn)
   refine ⟨conv y,?_,?_,?_,?_,λa=>by rw[j];exact C a⟩
   .rw[j];exact v
   .rw[j];simpa[TV.cells]using x
   .simpa using z
   .rw[j];simpa[TV.cells]using B
  .cases h
 all_goals simp_all
end
end Go.Sf
namespace Go.Sf
open Go.ChangeShapes Go.WideShapes Go.ChangeAt Go.RowKit
variable{H:Type}
theorem UX{enc:TypeId×Value->H}{P:Program}(l:laidOutB P=X){η o:World}(r:Below η.heap.size η o){u:Nat->Bool}:
  ∀{i:List TypeId}{vs:List Value}{ds:List (DataW H)}{j:List MemPlace},i.all (λt=>P.readableRec t&&decide (t<P.types.size))=X->DataW.TrodAll enc P η 0 (λ_=>X) X i vs ds j ->
   (∀x∈j,x.block<η.heap.size)->(∀x∈j,u x.block=X)->DataW.TrodAll enc P o 0 u X i vs ds j
 |[],_,_,_,_,h,_,_=>by
  obtain ⟨rfl,rfl,rfl⟩:=trodAll_nil h;exact trodAll_mk0
 |t::i,_,_,_,k,h,b,c=>by
  obtain ⟨v,vs,d,ds,p,q,rfl,rfl,rfl,y,z⟩:=trodAll_cons h;simp only[List.all_cons,gN,ml]at k;refine⟨p,q,?_,UX l r k.2 z (λx a=>b x (y! _ a)) (λx a=>c x (y! _ a)),rfl⟩;exact WideElems.Trod_stays l k.1.1 k.1.2 y (λx a=>r.same (b x (y? _ a))) (λx a=>c x (y? _ a))
def Q5(P:Program)(ts:List TypeId)(A:Fq->Prop):Prop:=
 ∀(H:Type)(enc:TypeId×Value->H)(η:World)(vs:List Value)(ds:List (DataW H))(ps:List MemPlace),DataW.TrodAll enc P η 0 (λ_=>X) X ts vs ds ps->∃as,A as/\TV.k7 as/\AT η Y2 as vs/\((∀n∈DataW.weightsEach P ts ds,n<=reachBytes)->TV.Sms as)
theorem dN{P:Program}:Q5 P [] (λa=>a=[]):=by
 intro H enc η vs ds b h;obtain⟨rfl,rfl,rfl⟩:=trodAll_nil h;exact⟨[],rfl,trivial,rfl,λ_=>trivial⟩
variable{A:Fq->Prop}{n:Nat}{ζ:Type}{e:ζ->TV}
theorem VF{P:Program}{t:TypeId}{i:List TypeId}(hn:n≠1)(l:∀fuel,I9 P t n e fuel)(he:∀x,∃cs,e x=.agg cs)(h:Q5 P i A):
  Q5 P (t::i) (λo=>∃x bs,o=e x::bs/\A bs):=by
 intro H enc η vs ds K u;obtain⟨v,vs,d,ds,p,q,rfl,rfl,rfl,⟨fuel,z⟩,B⟩:=trodAll_cons u;obtain⟨x,C,b,D,k,E⟩:=l fuel H enc η _ _ _ _ z;obtain⟨bs,F,G,I,J⟩:=h H enc η _ _ _ B;obtain⟨cs,c⟩:=he x;refine⟨e x::bs,⟨x,bs,rfl,F⟩,⟨C,G⟩,?_,λj=>⟨WN (E λn hn=>j n ?_),J λn hn=>j n ?_⟩⟩
 case refine_2=>rw[DataW.weightsEach,v?];exact .inl hn
 case refine_3=>rw[DataW.weightsEach,v?];exact .inr hn
 simp only[AT];refine⟨v,vs,rfl,?_,I⟩;have a:=BJ b;rw[c]at b k a|-;simp[TV.cells]at b k a;rw[Ap];cases v with
 |agg cells=>
  refine ⟨cells,rfl,by simpa[Value.cells]using b,List.all_eq_true.2 (λy r=>D y (by simpa[Value.cells]using r))⟩
 |_=>simp[Value.cells]at a;omega
variable{f:FuncId}{fn:Func}{s:ChangeSpec}{apart fresh handsOn again:Bool}
theorem Xl{P:Program}{tb:TypeId}(hl:laidOutB P=X)(S:fn.params.toList.all (λt=>P.readableRec t&&decide (t<P.types.size))=X)
  (N:fn.resultTypes=#[tb])(r:P.underlying tb=Y .bool)(a:s.vars=[])(θ:∀(H:Type)(ds:List (DataW H)),ds.length=fn.params.toList.length->s.fn H (ds++[])={results:=[.lit (.bool X)],args:=ds,vars:=[]})
  (ε:∀c,A c->TV.k7 c->TV.Sms c->AV P f c (.sh (.bool X)))
  (H:Type)(enc:TypeId×Value->H)(η:World)(args:Array Value)(ds gs:List (DataW H))(h:List MemPlace)(O:DataW.Whole enc P fn.params.toList s.vars apart η args.toList ds gs h)(κ:(DataW.weightsEach P (fn.params.toList++s.plain.varTypes P) (ds++gs)).all (·<=reachBytes)=X)
  (Z:∀ps,DataW.TrodAll enc P η 0 (λ_=>X) X fn.params.toList args.toList ds ps->∃c,A c/\TV.k7 c/\AT η Y2 c args.toList/\((∀n∈DataW.weightsEach P fn.params.toList ds,n<=reachBytes)->TV.Sms c))(u:UQ η:=by exact True.intro):
  Calls P f args η λe y=>∃v,e=.returned v/\s.post enc P fn apart fresh handsOn again η args v y:=by
 have l:=O;obtain⟨p,q,hT,Q,rfl,J,K⟩:=O;rw[a]at Q;obtain⟨rfl,rfl⟩:=trodVars_none Q;obtain⟨c,ha,E,F,M⟩:=Z _ hT;have z:=M (λn hn=>by
  have hv:s.plain.varTypes P=[]:=by unfold DataSpec.varTypes ChangeSpec.plain;rw[a];rfl
  grind)
 obtain ⟨_,o⟩:=(ε c ha E z).to0 rfl E;obtain⟨_,hC⟩:=o Y2 η args F u;refine hC.mono λe y=>?_;rintro⟨v,rfl,R,hv⟩;simp[IJ,Ap]at hv;subst hv;have B:ds.length=fn.params.toList.length:=(trodAll_length hT).2;have C:=θ H ds B;have I:∀x∈p,x.block<η.heap.size:=λx j=>l.lt x (y? _ j);have k:∀(b:Nat)(i:Nat->Bool)(hd:Bool),DataW.TrodAll enc P y b i hd fn.resultTypes.toList ((Value.bool X).resultList fn.resultTypes.size) (s.fn H (ds++[])).results []:=by
  intro b i hd;rw[C,N];exact trodAll_cons_mk (shut_bool r _) trodAll_mk0
 have d:∀i:Nat->Bool,(∀x∈p,i x.block=X)->DataW.TrodAll enc P y 0 i X fn.params.toList args.toList (s.fn H (ds++[])).args p:=by
  grind [UX]
 have D:∀i:Nat->Bool,DataW.TrodVars enc P y i s.vars (s.fn H (ds++[])).vars []:=by
  intro i;rw[C,a];rfl
 refine ⟨_,rfl,ds,[],p++[],[],p,[],l,k _ _ _,d _ (λx j=>decide_eq_true (I x j)),D _,R.frame _,λ_=>?_⟩;refine⟨ok_one N rfl (okWide_bool_mk r _),(s.fn H (ds++[])).results++(s.fn H (ds++[])).args,(s.fn H (ds++[])).vars,p++[],⟨p,[],?_,D _,rfl,?_,K⟩,λx j _=>j⟩
 .have:=trodAll_append (d (λ_=>X) (λ_ _=>rfl)) (k 0 (λ_=>X) X);simpa using this
 .intro b G j;rw[R.frozen (l.lt _ j)];exact J b G j
theorem cM{P:Program}{tb:TypeId}(l:laidOutB P=X)(i:fn.params.toList.all (λt=>P.readableRec t&&decide (t<P.types.size))=X)
  (o:fn.resultTypes=#[tb])(j:P.underlying tb=Y .bool)(b:s.vars=[])(p:∀(H:Type)(ds:List (DataW H)),ds.length=fn.params.toList.length->s.fn H (ds++[])={results:=[.lit (.bool X)],args:=ds,vars:=[]})
  (q:Q5 P fn.params.toList A)(r:∀d,A d->TV.k7 d->TV.Sms d->AV P f d (.sh (.bool X)))
  (H:Type)(enc:TypeId×Value->H)(η:World)(args:Array Value)(ds gs:List (DataW H))(a:List MemPlace)(u:DataW.Whole enc P fn.params.toList s.vars apart η args.toList ds gs a)(k:(DataW.weightsEach P (fn.params.toList++s.plain.varTypes P) (ds++gs)).all (·<=reachBytes)=X)(c:UQ η:=by exact True.intro):
  Calls P f args η λe x=>∃v,e=.returned v/\s.post enc P fn apart fresh handsOn again η args v x:=
 Xl l i o j b p r H enc η args ds gs a u k (λ_ h=>q H enc η _ _ _ h) c
end Go.Sf
