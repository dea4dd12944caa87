/- What is read of an argument: a typed value, and that memory holds its tree. -/
import Derived.Test.YtfcfkigfmofniaaGreatSfLib
import GoSem.ClaimChange
import Derived.SizedLaws
import Derived.Carry
import Derived.ChangeCalls
import Derived.OpenShut
set_option linter.all false
open Option renaming some->Y
open Bool renaming true->X
open List renaming mem_append->u!,mem_cons->u?,length_range->v1,getElem?_eq_some_iff->v5,getElem?_range->v6,mem_map->v9,getElem?_of_mem->v_,getElem?_map->v!,mem_append_right->v?,mem_append_left->w_
open Option renaming bind_eq_some_iff->w!,map_eq_some_iff->w?
namespace Go.Sf
abbrev V8:Nat->Nat->Prop:=λ_ _=>False
mutual
def TV.Sm:TV->Prop
 |.str s=>s.size<=reachBytes|.list _ es=>es.length<=reachBytes/\TV.zQ es|.agg cs=>TV.zQ cs|_=>True
def TV.zQ:Fq->Prop
 |[]=>True|t::ts=>TV.Sm t/\TV.zQ ts
end
theorem Ka:∀{l:Fq},TV.zQ l↔∀t∈l,t.Sm
 |[]=>by simp[TV.zQ]|t::l=>by simp[TV.zQ,Ka (l:=l)]
theorem fz{l m:Fq}:TV.zQ (l++m)↔TV.zQ l/\TV.zQ m:=by grind[Ka]
theorem VY{t:TV}(h:TV.zQ t.cells):t.Sm:=by
 cases t<;>first|exact h|exact h.1
def WA{H:Type}(P:Program)(t:TypeId)(d:DataW H):Prop:=∀n∈DataW.weights P t d,n<=reachBytes
def DX(P:Program)(t:TypeId)(n:Nat){ζ:Type}(e:ζ->TV)(fuel:Nat):Prop:=
 ∀(H:Type)(enc:TypeId×Value->H)(w:World)(spare:Nat->Bool)(cs:List Value)(d:DataW H)(ps:List MemPlace),DataW.trod enc P w 0 spare X fuel t cs=Y (d,ps) ->
  ∃x:ζ,(e x).WF/\AP w V8 (e x).cells cs/\(∀v∈cs,v.oneCell'=X)/\(e x).cells.length=n/\(WA P t d->TV.zQ (e x).cells)
variable{H:Type}{m:Nat}
theorem Oo{P:Program}{el:TypeId}:∀{l:List (DataW H)}{x:DataW H},x∈l->m∈DataW.weights P el x->m∈DataW.weightsAll P el l
 |[],x,a,_=>by cases a
 |y::l,x,a,b=>by
  rw [DataW.weightsAll,u!];rcases u?.1 a with rfl|a
  .exact .inl b
  .exact .inr (Oo a b)
section
variable{P:Program}{t:TypeId}{fuel:Nat}
variable{n:Nat}{ζ:Type}{e:ζ->TV}
theorem Ca:DX P t n e 0:=by
 intro H enc w a cs d b h;cases h
theorem UZ{k:IntKind}(c:P.underlying t=Y (.int k)):DX P t 1 (λn:Int=>TV.int k n) (fuel+1):=by
 intro H enc w a cs d f h;unfold DataW.trod at h;rw[c]at h;split at h<;>simp_all;rename_i i j n l;obtain⟨b,_,_⟩:=h;obtain⟨rfl,b⟩:=b;refine⟨n,?_,by simp[TV.cells,AP,Af],j?,rfl,λ_=>u'⟩;simpa[TV.WF,Lit.wf]using b
theorem fi(c:P.underlying t=Y .bool):DX P t 1 TV.bool (fuel+1):=by
 intro H enc w a cs d f h;unfold DataW.trod at h;rw[c]at h;split at h<;>simp_all;rename_i b;cases b
 .exact .inl ⟨by simp[TV.WF],by simp[TV.cells,AP,Af],j?,rfl,λ_=>u'⟩
 .exact .inr ⟨by simp[TV.WF],by simp[TV.cells,AP,Af],j?,rfl,λ_=>u'⟩
theorem PU{α β:Type}{f:α->Option β}:∀{l:List α}{r:List β},l.mapM f=Y r->r.length=l.length/\∀(i:Nat)(a:α),l[i]?=Y a->∃b,r[i]?=Y b/\f a=Y b
 |[],r,h=>by
  grind
 |x::l,r,h=>by
  simp [List.mapM_cons,Option.bind_eq_bind,w!,Option.pure_def,t5]at h;obtain⟨y,d,ys,c,rfl⟩:=h;obtain⟨j,k⟩:=PU c
  grind
variable{w:World}
theorem Ub{b:Nat}:∀(ts:Fq)(cs:List Value)(o:Nat),AP w V8 ts cs->(∀v∈cs,v.oneCell'=X)->(∀j v,cs[j]?=Y v->w.cell? ⟨b,o+j,none⟩=Y v)->C0 w V8 ts b o
 |[],_,_,_,_,_=>trivial|t::ts,cs,o,h,a,c=>by
  simp [AP]at h;obtain⟨v,r,rfl,f,i⟩:=h;refine⟨⟨v,by simpa using c 0 v rfl,λhf=>hf,a v V,f⟩,?_⟩;refine Ub ts r (o+1) i (λv hv=>a v m_) (λj v d=>?_);have:=c (j+1) v b?
  grind
theorem Ym{Q:Nat->ζ->Prop}:∀(n:Nat),(∀i,i<n->∃x,Q i x)->∃l:List ζ,l.length=n/\∀i x,l[i]?=Y x->Q i x
 |0,_=>⟨[],rfl,λi x h=>by simp at h⟩|n+1,h=>by
  obtain ⟨l,a,c⟩:=Ym n (λi hi=>h i U);obtain⟨x,d⟩:=h n U;refine⟨l++[x],by simp[a],λi y b=>?_⟩
  grind
theorem WN{a:Addr}{cs:List Value}(h:w.cells? 0 a n=Y cs):cs.length=n/\∀j v,cs[j]?=Y v->w.cell? (a.add j)=Y v:=by
 unfold World.cells? at h;rw[ae (Nat.zero_le _)]at h;obtain⟨d,i⟩:=PU h;rw[v1]at d;refine⟨d,λj v f=>?_⟩;have c:j<n:=by have:=(v5.1 f).1;omega
 obtain ⟨b,k,l⟩:=i j j (by rw[v6 c])
 grind
theorem MB{el:TypeId}(I:P.underlying t=Y (.slice el))(ε:P.cellsOf el=n)(κ:0<n)(J:0<P.bytesOf el)(he:DX P el n e fuel):DX P t 1 (λl:List ζ=>TV.list n (l.map e)) (fuel+1):=by
 intro H enc w r cs d ps h;unfold DataW.trod at h;rw[I]at h;split at h
 case h_7=>
  refine ⟨[],⟨Nat.zero_le _,trivial⟩,?_,j?,rfl,λ_=>⟨⟨Nat.zero_le _,trivial⟩,trivial⟩⟩;simp only[TV.cells,AP,Af,List.map_nil];exact⟨_,_,rfl,⟨none,0,rfl,b6 _,λ_=>trivial,λη o=>by cases o⟩,rfl⟩
 case h_8 e1 a len cap hu=>
  simp at hu;subst hu;simp only[]at h;split at h
  .rename_i θ;simp only[w!,w?]at h;obtain⟨c,M,rest,N,hd⟩:=h;obtain⟨s,M⟩:=PU M;rw[v1]at s;simp at hd;obtain⟨hd,_⟩:=hd;subst hd;have hLt:=λl x D m S=>Oo (P:=P) (el:=el) (H:=H) (m:=m) (l:=l) (x:=x) D S;have D:∀i,i<len->∃x:ζ,(e x).WF/\(e x).cells.length=n/\(∃k,w.cells? 0 (a.add (i*n)) n=Y k/\AP w V8 (e x).cells k/\∀v∈k,v.oneCell'=X)/\(WA P t (.slice (c.map (·.1)) (rest.map (·.1)))->(e x).Sm):=by
    intro i hi;obtain⟨b,hbi,G⟩:=M i i (v6 hi);simp[w!,ε]at G;obtain⟨k,u,G⟩:=G;obtain⟨x,k1,k2,k3,k4,k5⟩:=he H enc w r k b.1 b.2 G;refine⟨x,k1,k4,⟨k,u,k2,k3⟩,λE=>VY (k5 (λm S=>E m ?_))⟩;simp[DataW.weights,I,u?,u!]
    grind
   obtain ⟨l,O,Q⟩:=Ym len D;have f:∀i,i<len->a.spot=none:=by
    intro i hi;obtain⟨x,_,_,⟨k,u,_,_⟩,_⟩:=D 0 U;obtain⟨h2,R⟩:=WN u;have q:=R 0 _ (List.getElem?_eq_getElem U);simp[Nat.zero_mul,Addr.add,if_true]at q;unfold World.cell? at q;split at q
    .split at q
     .cases q
     .rename_i F;cases K:a.spot with
      |none=>rfl|some p=>simp[K]at F
    .cases q
   refine ⟨l,⟨?_,?_⟩,?_,j?,rfl,λE=>?_⟩
   .simp[O];unfold Jm;have:=θ.2.2;unfold maxLen at this;omega
   .rw[Bg];intro y B;obtain⟨x,z,rfl⟩:=v9.1 B;obtain⟨i,hi⟩:=v_ z;exact(Q i x hi).1
   .simp only[TV.cells,AP,Af,c8,O];refine⟨_,_,rfl,⟨Y a,cap,rfl,θ.2.1,λh=>absurd h V,λη o=>?_⟩,rfl⟩;simp at o;subst o;refine⟨?_,?_⟩
    .by_cases h0:len=0
     .exact .inl (by have:l=[]:=List.eq_nil_of_length_eq_zero U;rw[this];rfl)
     .exact .inr (f 0 U)
    .rw[RM];intro i y B;rw[v!,w?]at B;obtain⟨x,C,rfl⟩:=B;have hi:i<len:=by have:=(v5.1 C).1;omega
     obtain ⟨_,R,⟨k,q,h5,h6⟩,_⟩:=Q i x C;obtain⟨_,h7⟩:=WN q;refine⟨?_,R⟩;refine Ub _ k _ h5 h6 (λj v Z=>?_);have:=h7 j v Z;have F:=f i hi;obtain⟨ab,ao,sp⟩:=a;simp only at F;subst F;rw[Addr.add_lit,Addr.add_lit]at this;exact this
   .simp[TV.cells,TV.zQ,TV.Sm,O];refine⟨?_,?_⟩
    .have:=E ((c.length+rest.length)*P.bytesOf el) (by simp[DataW.weights,I]);have h9:c.length+rest.length<=(c.length+rest.length)*P.bytesOf el:=Nat.le_mul_of_pos_right _ J;omega
    .rw[Ka];intro y B;obtain⟨x,z,rfl⟩:=v9.1 B;obtain⟨i,hi⟩:=v_ z;exact(Q i x hi).2.2.2 E
  .cases h
 all_goals simp_all
def Tk(P:Program)(fuel:Nat)(fs:List (TypeId×Nat))(k m:Nat){δ:Type}(g:δ->Fq):Prop:=
 ∀(H:Type)(enc:TypeId×Value->H)(w:World)(spare:Nat->Bool)(cs:List Value)(L:Prop),cs.length=m->(∀f∈fs,∃b,DataW.trod enc P w 0 spare X fuel f.1 ((cs.drop f.2).take (P.cellsOf f.1))=Y b/\(L->WA P f.1 b.1)) ->
  ∃y:δ,TV.tl (g y)/\AP w V8 (g y) (cs.drop k)/\(∀v∈cs.drop k,v.oneCell'=X)/\(g y).length=m-k/\(L->TV.zQ (g y))
variable{m:Nat}
theorem Gm:Tk P fuel [] m m (λ_:Unit=>[]):=by
 intro H enc w a cs L b _;have:cs.drop m=[]:=List.drop_eq_nil_of_le U;exact⟨(),trivial,by rw[this];rfl,by simp[this],V,λ_=>trivial⟩
variable{δ:Type}{g:δ->Fq}
theorem A6{f:TypeId}{k n m:Nat}{o:List (TypeId×Nat)}(r:P.cellsOf f=n)(J:k+n<=m)(he:DX P f n e fuel)(s:Tk P fuel o (k+n) m g):
  Tk P fuel ((f,k)::o) k m (λp:ζ×δ=>(e p.1).cells++g p.2):=by
 intro H enc w c cs L d h;obtain⟨b,q,z⟩:=h (f,k) V;simp[r]at q;obtain⟨x,i,B,C,D,j⟩:=he H enc w c _ b.1 b.2 q;obtain⟨y,E,F,G,I,l⟩:=s H enc w c cs L d (λf hf=>h f (by simp[hf]));have a:cs.drop k=(cs.drop k).take n++cs.drop (k+n):=by
  rw [<-List.drop_drop,List.take_append_drop]
 refine ⟨(x,y),?_,?_,?_,?_,λd=>fz.2 ⟨j (z d),l d⟩⟩
 .refine J1.2 ⟨?_,E⟩;cases u:e x<;>rw[u]at i<;>first|exact i|exact⟨i,trivial⟩
 .rw[a];exact Hw B F
 .rw[a];intro v hv;rcases u!.1 hv with hv|hv
  .exact C v hv
  .exact G v hv
 .simp[D,I];omega
variable{L:List (TypeId×Nat)}
theorem K8{q:Array Field}(conv:δ->ζ)(r:P.underlying t=Y (.struct q))(u:q.toList.map (λf=>(f.type,f.offset))=L)(v:P.cellsOf t=m)
  (x:Tk P fuel L 0 m g)(k:∀y,e (conv y)=.agg (g y)):DX P t m e (fuel+1):=by
 intro H enc w c cs d J h;unfold DataW.trod at h;rw[r]at h;split at h
 case h_9 fs' cs' hu=>
  simp at hu;subst hu;split at h
  .rename_i B;simp only[w?]at h;obtain⟨xs,l,hd⟩:=h;simp at hd;obtain⟨hd,_⟩:=hd;subst hd;obtain⟨_,l⟩:=PU l;obtain⟨y,C,D,E,F,G⟩:=x H enc w c _ (WA P t (.agg (xs.map (·.1)))) (by rw[B,v]) (λf hf=>by
    rw [<-u]at hf;obtain⟨s,o,rfl⟩:=v9.1 hf;obtain⟨i,hi⟩:=v_ o;obtain⟨b,p,I⟩:=l i s hi;refine⟨b,I,λa n z=>a n ?_⟩;simp[DataW.weights,r];exact DataW.weights_mem_each (j:=i) (t:=s.type) (d:=b.1) (by rw[v!,hi];rfl) (by rw[v!,p];rfl) n z)
   refine ⟨conv y,?_,?_,?_,?_,λa=>by rw[k];exact G a⟩
   .rw[k];exact C
   .rw[k];simpa[TV.cells]using D
   .simpa using E
   .rw[k];simpa[TV.cells]using F
  .cases h
 all_goals simp_all
theorem O6{el:TypeId}(conv:δ->ζ)(o:P.underlying t=Y (.array n el))(p:(List.range n).map (λi=>(el,i*P.cellsOf el))=L)(q:P.cellsOf t=m)
  (r:Tk P fuel L 0 m g)(j:∀y,e (conv y)=.agg (g y)):DX P t m e (fuel+1):=by
 intro H enc w c cs d E h;unfold DataW.trod at h;rw[o]at h;split at h
 case h_10 n' e' cs' hu=>
  simp at hu;obtain⟨rfl,rfl⟩:=hu;split at h
  .rename_i u;simp only[w?]at h;obtain⟨xs,k,hd⟩:=h;simp at hd;obtain⟨hd,_⟩:=hd;subst hd;obtain⟨_,k⟩:=PU k;obtain⟨y,v,x,z,B,C⟩:=r H enc w c _ (WA P t (.agg (xs.map (·.1)))) (by rw[u,q]) (λf hf=>by
    rw [<-p]at hf;obtain⟨i,hi,rfl⟩:=v9.1 hf;rw[List.mem_range]at hi;obtain⟨b,l,D⟩:=k i i (v6 hi);refine⟨b,D,λa n s=>a n ?_⟩;simp[DataW.weights,o];exact Oo (v9.2 ⟨b,List.mem_of_getElem? l,rfl⟩) s)
   refine ⟨conv y,?_,?_,?_,?_,λa=>by rw[j];exact C a⟩
   .rw[j];exact v
   .rw[j];simpa[TV.cells]using x
   .simpa using z
   .rw[j];simpa[TV.cells]using B
  .cases h
 all_goals simp_all
end
end Go.Sf
namespace Go.Sf
open Go.ChangeShapes Go.WideShapes Go.ChangeAt Go.RowKit
variable{H:Type}
theorem TH{enc:TypeId×Value->H}{P:Program}(j:laidOutB P=X){η k:World}(l:Below η.heap.size η k){o:Nat->Bool}:
  ∀{ts:List TypeId}{vs:List Value}{ds:List (DataW H)}{f:List MemPlace},ts.all (λt=>P.readableRec t&&decide (t<P.types.size))=X->DataW.TrodAll enc P η 0 (λ_=>X) X ts vs ds f ->
   (∀x∈f,x.block<η.heap.size)->(∀x∈f,o x.block=X)->DataW.TrodAll enc P k 0 o X ts vs ds f
 |[],_,_,_,_,h,_,_=>by
  obtain ⟨rfl,rfl,rfl⟩:=trodAll_nil h;exact trodAll_mk0
 |t::ts,_,_,_,i,h,b,c=>by
  obtain ⟨v,vs,d,ds,p,q,rfl,rfl,rfl,r,s⟩:=trodAll_cons h;simp only[List.all_cons,sx,yk]at i;refine⟨p,q,?_,TH j l i.2 s (λx a=>b x (v? _ a)) (λx a=>c x (v? _ a)),rfl⟩;exact WideElems.Trod_stays j i.1.1 i.1.2 r (λx a=>l.same (b x (w_ _ a))) (λx a=>c x (w_ _ a))
def Va(P:Program)(ts:List TypeId)(A:Fq->Prop):Prop:=
 ∀(H:Type)(enc:TypeId×Value->H)(η:World)(vs:List Value)(ds:List (DataW H))(ps:List MemPlace),DataW.TrodAll enc P η 0 (λ_=>X) X ts vs ds ps->∃as,A as/\TV.tl as/\AP η V8 as vs/\((∀n∈DataW.weightsEach P ts ds,n<=reachBytes)->TV.zQ as)
theorem bO{P:Program}:Va P [] (λa=>a=[]):=by
 intro H enc η vs ds b h;obtain⟨rfl,rfl,rfl⟩:=trodAll_nil h;exact⟨[],rfl,trivial,rfl,λ_=>trivial⟩
variable{ts:List TypeId}{A:Fq->Prop}{n:Nat}{ζ:Type}{e:ζ->TV}
theorem bN{P:Program}{t:TypeId}(b:n≠1)(k:∀fuel,DX P t n e fuel)(he:∀x,∃cs,e x=.agg cs)(h:Va P ts A):
  Va P (t::ts) (λl=>∃x bs,l=e x::bs/\A bs):=by
 intro H enc η vs ds I r;obtain⟨v,vs,d,ds,p,q,rfl,rfl,rfl,⟨fuel,s⟩,u⟩:=trodAll_cons r;obtain⟨x,z,c,B,j,C⟩:=k fuel H enc η _ _ _ _ s;obtain⟨bs,D,E,F,G⟩:=h H enc η _ _ _ u;obtain⟨cs,f⟩:=he x;refine⟨e x::bs,⟨x,bs,rfl,D⟩,⟨z,E⟩,?_,λi=>⟨VY (C λn b=>i n ?_),G λn b=>i n ?_⟩⟩
 case refine_2=>rw[DataW.weightsEach,u!];exact .inl b
 case refine_3=>rw[DataW.weightsEach,u!];exact .inr b
 simp only[AP];refine⟨v,vs,rfl,?_,F⟩;have a:=A9 c;rw[f]at c j a|-;simp[TV.cells]at c j a;rw[Af];cases v with
 |agg cells=>
  refine ⟨cells,rfl,by simpa[Value.cells]using c,List.all_eq_true.2 (λy o=>B y (by simpa[Value.cells]using o))⟩
 |_=>simp[Value.cells]at a;omega
theorem Wm{P:Program}{f:FuncId}{fn:Func}{s:ChangeSpec}{tb:TypeId}{c r d again:Bool}(hl:laidOutB P=X)(Z:fn.params.toList.all (λt=>P.readableRec t&&decide (t<P.types.size))=X)
  (R:fn.resultTypes=#[tb])(z:P.underlying tb=Y .bool)(a:s.vars=[])(hs:∀(H:Type)(ds:List (DataW H)),ds.length=fn.params.toList.length->s.fn H (ds++[])={results:=[.lit (.bool X)],args:=ds,vars:=[]})
  (hS:∀h,A h->TV.tl h->TV.zQ h->AX P f h (.sh (.bool X)))
  (H:Type)(enc:TypeId×Value->H)(η:World)(args:Array Value)(ds S:List (DataW H))(j:List MemPlace)(θ:DataW.Whole enc P fn.params.toList s.vars c η args.toList ds S j)(hwt:(DataW.weightsEach P (fn.params.toList++s.plain.varTypes P) (ds++S)).all (·<=reachBytes)=X)
  (hA:∀ps,DataW.TrodAll enc P η 0 (λ_=>X) X fn.params.toList args.toList ds ps->∃h,A h/\TV.tl h/\AP η V8 h args.toList/\((∀n∈DataW.weightsEach P fn.params.toList ds,n<=reachBytes)->TV.zQ h))(B:Tp η:=by exact True.intro):
  Calls P f args η λe C=>∃v,e=.returned v/\s.post enc P fn c r d again η args v C:=by
 have u:=θ;obtain⟨p,q,hT,ε,rfl,N,O⟩:=θ;rw[a]at ε;obtain⟨rfl,rfl⟩:=trodVars_none ε;obtain⟨h,ha,I,J,Q⟩:=hA _ hT;have D:=Q (λn hn=>by
  have hv:s.plain.varTypes P=[]:=by unfold DataSpec.varTypes ChangeSpec.plain;rw[a];rfl
  grind)
 obtain ⟨_,y⟩:=(hS h ha I D).to0 rfl I;obtain⟨_,hC⟩:=y V8 η args J B;refine hC.mono λe C=>?_;rintro⟨v,rfl,κ,hv⟩;simp[H5,Af]at hv;subst hv;have E:ds.length=fn.params.toList.length:=(trodAll_length hT).2;have F:=hs H ds E;have M:∀x∈p,x.block<η.heap.size:=λx l=>u.lt x (w_ _ l);have o:∀(b:Nat)(k:Nat->Bool)(hd:Bool),DataW.TrodAll enc P C b k hd fn.resultTypes.toList ((Value.bool X).resultList fn.resultTypes.size) (s.fn H (ds++[])).results []:=by
  intro b k hd;rw[F,R];exact trodAll_cons_mk (shut_bool z _) trodAll_mk0
 have i:∀k:Nat->Bool,(∀x∈p,k x.block=X)->DataW.TrodAll enc P C 0 k X fn.params.toList args.toList (s.fn H (ds++[])).args p:=by
  grind [TH]
 have G:∀k:Nat->Bool,DataW.TrodVars enc P C k s.vars (s.fn H (ds++[])).vars []:=by
  intro k;rw[F,a];rfl
 refine ⟨_,rfl,ds,[],p++[],[],p,[],u,o _ _ _,i _ (λx l=>decide_eq_true (M x l)),G _,κ.frame _,λ_=>?_⟩;refine⟨ok_one R rfl (okWide_bool_mk z _),(s.fn H (ds++[])).results++(s.fn H (ds++[])).args,(s.fn H (ds++[])).vars,p++[],⟨p,[],?_,G _,rfl,?_,O⟩,λx l _=>l⟩
 .have:=trodAll_append (i (λ_=>X) (λ_ _=>rfl)) (o 0 (λ_=>X) X);simpa using this
 .intro b K l;rw[κ.frozen (u.lt _ l)];exact N b K l
def M3(P:Program)(ts:List TypeId)(A:Fq->Prop):Prop:=
 ∀(H:Type)(enc:TypeId×Value->H)(η:World)(base:Nat)(vs:List Value)(ds:List (DataW H))(ps:List MemPlace),(∀(j:Nat)t v,ts[j]?=Y t->vs[j]?=Y v->Value.okWide P η .any base t v)->DataW.TrodAll enc P η 0 (λ_=>X) X ts vs ds ps->∃as,A as/\TV.tl as/\AP η V8 as vs/\((∀n∈DataW.weightsEach P ts ds,n<=reachBytes)->TV.zQ as)
theorem R5{P:Program}{t:TypeId}{B A:Fq->Prop}(c:M3 P [t] B)(f:M3 P ts A):M3 P (t::ts) (λi=>∃cs bs,i=cs++bs/\B cs/\A bs):=by
 intro H enc η base vs ds I k h;obtain⟨v,vs,d,ds,p,q,rfl,rfl,rfl,x,y⟩:=trodAll_cons h;obtain⟨i,a1,a2,a3,z⟩:=c H enc η base [v] [d] (p++[]) (λj o l c f=>by
  match j with
  |0=>exact k 0 o l c f|j+1=>simp at c) (trodAll_cons_mk x trodAll_mk0)
 obtain ⟨bs,C,D,E,F⟩:=f H enc η base vs ds q (λj o l c f=>k (j+1) o l c f) y;cases i with
 |nil=>simp[AP]at a3|cons a i=>
  simp only[AP]at a3;obtain⟨l,r,hv,G,u⟩:=a3;cases hv;cases i with
  |cons _ _=>simp only[AP]at u;obtain⟨_,_,h,_⟩:=u;cases h
  |nil=>
   refine ⟨a::bs,⟨_,_,rfl,a1,C⟩,⟨a2.1,D⟩,?_,λs=>⟨(z λn b=>s n ?_).1,F λn b=>s n ?_⟩⟩
   .simp only[AP];exact⟨v,vs,rfl,G,E⟩
   .simp only[DataW.weightsEach,u!]at b|-;rcases b with b|b;exact .inl b;cases b
   .simp[DataW.weightsEach,u!];exact .inr b
theorem ZI{P:Program}{t:TypeId}(b:n≠1)(c:∀fuel,DX P t n e fuel)(he:∀x,∃cs,e x=.agg cs):M3 P [t] (λa=>∃x,a=[e x]):=by
 intro H enc η base vs ds f d h;obtain⟨a,⟨x,bs,rfl,rfl⟩,k⟩:=bN b c he bO H enc η _ _ _ h;exact⟨_,⟨x,rfl⟩,k⟩
theorem UY{P:Program}{t el:TypeId}(c:P.underlying t=Y (.slice el))(f:∀fuel,DX P t 1 (λl:List ζ=>TV.list n (l.map e)) fuel):M3 P [t] (λh=>∃l:List ζ,h=[.list n (l.map e)]):=by
 intro H enc η base vs ds z b k;obtain⟨v,vs,d,ds,p,q,rfl,rfl,rfl,⟨fuel,o⟩,r⟩:=trodAll_cons k;obtain⟨rfl,rfl,rfl⟩:=trodAll_nil r;obtain⟨x,s,u,B,C,y⟩:=f fuel H enc η _ _ _ _ o;obtain⟨a,len,cap,rfl⟩:=okWide_slice c (b 0 t v rfl rfl);exact⟨_,⟨x,rfl⟩,⟨s,trivial⟩,by simpa[TV.cells,Value.cells]using u,λi=>by simpa[TV.cells]using y λn j=>i n (by rw[DataW.weightsEach,u!];exact .inl j)⟩
end Go.Sf
