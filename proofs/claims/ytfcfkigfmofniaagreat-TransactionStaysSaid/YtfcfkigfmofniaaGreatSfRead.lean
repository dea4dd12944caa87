/- What is read of an argument: a typed value, and that memory holds its tree. -/
import Derived.Test.YtfcfkigfmofniaaGreatSfLib
import GoSem.ClaimChange
import Derived.SizedLaws
import Derived.Carry
import Derived.ChangeCalls
import Derived.ProofKit
import Derived.OpenShut
set_option linter.all false
namespace Go.Sf
abbrev Vy:Nat->Nat->Prop:=fun _ _=>False
mutual
def TV.Sm:TV->Prop
 |.str s=>s.size<=reachBytes|.list _ es=>es.length<=reachBytes/\TV.zy es|.agg cs=>TV.zy cs|_=>True
def TV.zy:Fq->Prop
 |[]=>True|t::ts=>TV.Sm t/\TV.zy ts
end
theorem KW:∀{l:Fq},TV.zy l↔∀t∈l,t.Sm
 |[]=>by simp[TV.zy]|t::l=>by simp[TV.zy,KW (l:=l)]
theorem fX{l m:Fq}:TV.zy (l++m)↔TV.zy l/\TV.zy m:=by grind[KW]
theorem VP{t:TV}(h:TV.zy t.cells):t.Sm:=by
 cases t<;>first|exact h|exact h.1
def V0{H:Type}(P:Program)(t:TypeId)(d:DataW H):Prop:=∀n∈DataW.weights P t d,n<=reachBytes
def DV(P:Program)(t:TypeId)(n:Nat){X:Type}(e:X->TV)(fuel:Nat):Prop:=
 ∀(H:Type)(enc:TypeId×Value->H)(w:World)(spare:Nat->Bool)(cs:List Value)(d:DataW H)(ps:List MemPlace),DataW.trod enc P w 0 spare true fuel t cs=some (d,ps) ->
  ∃x:X,(e x).WF/\AP w Vy (e x).cells cs/\(∀v∈cs,v.oneCell'=true)/\(e x).cells.length=n/\(V0 P t d->TV.zy (e x).cells)
variable{H:Type}{m:Nat}
theorem Ol{P:Program}{el:TypeId}:∀{l:List (DataW H)}{x:DataW H},x∈l->m∈DataW.weights P el x->m∈DataW.weightsAll P el l
 |[],x,a,_=>by cases a
 |y::l,x,a,b=>by
  rw [DataW.weightsAll,List.mem_append];rcases List.mem_cons.1 a with rfl|a
  .exact .inl b
  .exact .inr (Ol a b)
section
variable{P:Program}{t:TypeId}{fuel:Nat}
variable{n:Nat}{X:Type}{e:X->TV}
theorem CZ:DV P t n e 0:=by
 intro H enc w a cs d b h;cases h
theorem UT{k:IntKind}(c:P.underlying t=some (.int k)):DV P t 1 (fun n:Int=>TV.int k n) (fuel+1):=by
 intro H enc w a cs d f h;unfold DataW.trod at h;rw[c]at h;split at h<;>simp_all;rename_i i j n l;obtain⟨b,_,_⟩:=h;obtain⟨rfl,b⟩:=b;refine⟨n,?_,by simp[TV.cells,AP,Af],by simp[Value.oneCell'],rfl,fun _=>by simp[TV.cells,TV.zy,TV.Sm]⟩;simpa[TV.WF,Lit.wf]using b
theorem fN(c:P.underlying t=some .bool):DV P t 1 TV.bool (fuel+1):=by
 intro H enc w a cs d f h;unfold DataW.trod at h;rw[c]at h;split at h<;>simp_all;rename_i b;cases b
 .exact .inl ⟨by simp[TV.WF],by simp[TV.cells,AP,Af],by simp[Value.oneCell'],rfl,fun _=>by simp[TV.cells,TV.zy,TV.Sm]⟩
 .exact .inr ⟨by simp[TV.WF],by simp[TV.cells,AP,Af],by simp[Value.oneCell'],rfl,fun _=>by simp[TV.cells,TV.zy,TV.Sm]⟩
theorem PQ{α β:Type}{f:α->Option β}:∀{l:List α}{r:List β},l.mapM f=some r->r.length=l.length/\∀(i:Nat)(a:α),l[i]?=some a->∃b,r[i]?=some b/\f a=some b
 |[],r,h=>by
  grind
 |x::l,r,h=>by
  simp [List.mapM_cons,Option.bind_eq_bind,Option.bind_eq_some_iff,Option.pure_def,tn]at h;obtain⟨y,d,ys,c,rfl⟩:=h;obtain⟨j,k⟩:=PQ c
  grind
variable{w:World}
theorem UV{b:Nat}:∀(ts:Fq)(cs:List Value)(o:Nat),AP w Vy ts cs->(∀v∈cs,v.oneCell'=true)->(∀j v,cs[j]?=some v->w.cell? ⟨b,o+j,none⟩=some v)->C0 w Vy ts b o
 |[],_,_,_,_,_=>trivial|t::ts,cs,o,h,a,c=>by
  simp [AP]at h;obtain⟨v,r,rfl,f,i⟩:=h;refine⟨⟨v,by simpa using c 0 v rfl,fun hf=>hf,a v (by simp),f⟩,?_⟩;refine UV ts r (o+1) i (fun v hv=>a v (by simp[hv])) (fun j v d=>?_);have:=c (j+1) v (by simpa using d)
  grind
theorem Ya{Q:Nat->X->Prop}:∀(n:Nat),(∀i,i<n->∃x,Q i x)->∃l:List X,l.length=n/\∀i x,l[i]?=some x->Q i x
 |0,_=>⟨[],rfl,fun i x h=>by simp at h⟩|n+1,h=>by
  obtain ⟨l,a,c⟩:=Ya n (fun i hi=>h i (by omega));obtain⟨x,d⟩:=h n (by omega);refine⟨l++[x],by simp[a],fun i y b=>?_⟩
  grind
theorem WC{a:Addr}{cs:List Value}(h:w.cells? 0 a n=some cs):cs.length=n/\∀j v,cs[j]?=some v->w.cell? (a.add j)=some v:=by
 unfold World.cells? at h;rw[ae (Nat.zero_le _)]at h;obtain⟨d,i⟩:=PQ h;rw[List.length_range]at d;refine⟨d,fun j v f=>?_⟩;have c:j<n:=by have:=(List.getElem?_eq_some_iff.1 f).1;omega
 obtain ⟨b,k,l⟩:=i j j (by rw[List.getElem?_range c])
 grind
theorem MB{el:TypeId}(I:P.underlying t=some (.slice el))(U:P.cellsOf el=n)(V:0<n)(J:0<P.bytesOf el)(he:DV P el n e fuel):DV P t 1 (fun l:List X=>TV.list n (l.map e)) (fuel+1):=by
 intro H enc w r cs d ps h;unfold DataW.trod at h;rw[I]at h;split at h
 case h_7=>
  refine ⟨[],⟨Nat.zero_le _,trivial⟩,?_,by simp[Value.oneCell'],rfl,fun _=>⟨⟨Nat.zero_le _,trivial⟩,trivial⟩⟩;simp only[TV.cells,AP,Af,List.map_nil];exact⟨_,_,rfl,⟨none,0,rfl,b6 _,fun _=>trivial,fun W o=>by cases o⟩,rfl⟩
 case h_8 e1 a len cap hu=>
  simp at hu;subst hu;simp only[]at h;split at h
  .rename_i T;simp only[Option.bind_eq_some_iff,Option.map_eq_some_iff]at h;obtain⟨c,M,rest,N,hd⟩:=h;obtain⟨s,M⟩:=PQ M;rw[List.length_range]at s;simp at hd;obtain⟨hd,_⟩:=hd;subst hd;have hLt:=fun l x D m S=>Ol (P:=P) (el:=el) (H:=H) (m:=m) (l:=l) (x:=x) D S;have D:∀i,i<len->∃x:X,(e x).WF/\(e x).cells.length=n/\(∃k,w.cells? 0 (a.add (i*n)) n=some k/\AP w Vy (e x).cells k/\∀v∈k,v.oneCell'=true)/\(V0 P t (.slice (c.map (·.1)) (rest.map (·.1)))->(e x).Sm):=by
    intro i hi;obtain⟨b,hbi,G⟩:=M i i (List.getElem?_range hi);simp[Option.bind_eq_some_iff,U]at G;obtain⟨k,u,G⟩:=G;obtain⟨x,k1,k2,k3,k4,k5⟩:=he H enc w r k b.1 b.2 G;refine⟨x,k1,k4,⟨k,u,k2,k3⟩,fun E=>VP (k5 (fun m S=>E m ?_))⟩;simp[DataW.weights,I,List.mem_cons,List.mem_append]
    grind
   obtain ⟨l,O,Q⟩:=Ya len D;have f:∀i,i<len->a.spot=none:=by
    intro i hi;obtain⟨x,_,_,⟨k,u,_,_⟩,_⟩:=D 0 (by omega);obtain⟨h2,R⟩:=WC u;have q:=R 0 _ (List.getElem?_eq_getElem (by omega));simp[Nat.zero_mul,Addr.add,if_true]at q;unfold World.cell? at q;split at q
    .split at q
     .cases q
     .rename_i F;cases K:a.spot with
      |none=>rfl|some p=>simp[K]at F
    .cases q
   refine ⟨l,⟨?_,?_⟩,?_,by simp[Value.oneCell'],rfl,fun E=>?_⟩
   .simp[O];unfold Ji;have:=T.2.2;unfold maxLen at this;omega
   .rw[Bc];intro y B;obtain⟨x,z,rfl⟩:=List.mem_map.1 B;obtain⟨i,hi⟩:=List.getElem?_of_mem z;exact(Q i x hi).1
   .simp only[TV.cells,AP,Af,c8,O];refine⟨_,_,rfl,⟨some a,cap,rfl,T.2.1,fun h=>absurd h (by simp),fun W o=>?_⟩,rfl⟩;simp at o;subst o;refine⟨?_,?_⟩
    .by_cases h0:len=0
     .exact .inl (by have:l=[]:=List.eq_nil_of_length_eq_zero (by omega);rw[this];rfl)
     .exact .inr (f 0 (by omega))
    .rw[RD];intro i y B;rw[List.getElem?_map,Option.map_eq_some_iff]at B;obtain⟨x,C,rfl⟩:=B;have hi:i<len:=by have:=(List.getElem?_eq_some_iff.1 C).1;omega
     obtain ⟨_,R,⟨k,q,h5,h6⟩,_⟩:=Q i x C;obtain⟨_,h7⟩:=WC q;refine⟨?_,R⟩;refine UV _ k _ h5 h6 (fun j v Z=>?_);have:=h7 j v Z;have F:=f i hi;obtain⟨ab,ao,sp⟩:=a;simp only at F;subst F;rw[Addr.add_lit,Addr.add_lit]at this;exact this
   .simp[TV.cells,TV.zy,TV.Sm,O];refine⟨?_,?_⟩
    .have:=E ((c.length+rest.length)*P.bytesOf el) (by simp[DataW.weights,I]);have h9:c.length+rest.length<=(c.length+rest.length)*P.bytesOf el:=Nat.le_mul_of_pos_right _ J;omega
    .rw[KW];intro y B;obtain⟨x,z,rfl⟩:=List.mem_map.1 B;obtain⟨i,hi⟩:=List.getElem?_of_mem z;exact(Q i x hi).2.2.2 E
  .cases h
 all_goals simp_all
def Tf(P:Program)(fuel:Nat)(fs:List (TypeId×Nat))(k m:Nat){Y:Type}(g:Y->Fq):Prop:=
 ∀(H:Type)(enc:TypeId×Value->H)(w:World)(spare:Nat->Bool)(cs:List Value)(L:Prop),cs.length=m->(∀f∈fs,∃b,DataW.trod enc P w 0 spare true fuel f.1 ((cs.drop f.2).take (P.cellsOf f.1))=some b/\(L->V0 P f.1 b.1)) ->
  ∃y:Y,TV.tg (g y)/\AP w Vy (g y) (cs.drop k)/\(∀v∈cs.drop k,v.oneCell'=true)/\(g y).length=m-k/\(L->TV.zy (g y))
variable{m:Nat}
theorem Gk:Tf P fuel [] m m (fun _:Unit=>[]):=by
 intro H enc w a cs L b _;have:cs.drop m=[]:=List.drop_eq_nil_of_le (by omega);exact⟨(),trivial,by rw[this];rfl,by simp[this],by simp,fun _=>trivial⟩
variable{Y:Type}{g:Y->Fq}
theorem A6{f:TypeId}{k n m:Nat}{o:List (TypeId×Nat)}(r:P.cellsOf f=n)(J:k+n<=m)(he:DV P f n e fuel)(s:Tf P fuel o (k+n) m g):
  Tf P fuel ((f,k)::o) k m (fun p:X×Y=>(e p.1).cells++g p.2):=by
 intro H enc w c cs L d h;obtain⟨b,q,z⟩:=h (f,k) (by simp);simp[r]at q;obtain⟨x,i,B,C,D,j⟩:=he H enc w c _ b.1 b.2 q;obtain⟨y,E,F,G,I,l⟩:=s H enc w c cs L d (fun f hf=>h f (by simp[hf]));have a:cs.drop k=(cs.drop k).take n++cs.drop (k+n):=by
  rw [<-List.drop_drop,List.take_append_drop]
 refine ⟨(x,y),?_,?_,?_,?_,fun d=>fX.2 ⟨j (z d),l d⟩⟩
 .refine Jx.2 ⟨?_,E⟩;cases u:e x<;>rw[u]at i<;>first|exact i|exact⟨i,trivial⟩
 .rw[a];exact Hs B F
 .rw[a];intro v hv;rcases List.mem_append.1 hv with hv|hv
  .exact C v hv
  .exact G v hv
 .simp[D,I];omega
variable{L:List (TypeId×Nat)}
theorem K4{q:Array Field}(conv:Y->X)(r:P.underlying t=some (.struct q))(u:q.toList.map (fun f=>(f.type,f.offset))=L)(v:P.cellsOf t=m)
  (x:Tf P fuel L 0 m g)(k:∀y,e (conv y)=.agg (g y)):DV P t m e (fuel+1):=by
 intro H enc w c cs d J h;unfold DataW.trod at h;rw[r]at h;split at h
 case h_9 fs' cs' hu=>
  simp at hu;subst hu;split at h
  .rename_i B;simp only[Option.map_eq_some_iff]at h;obtain⟨xs,l,hd⟩:=h;simp at hd;obtain⟨hd,_⟩:=hd;subst hd;obtain⟨_,l⟩:=PQ l;obtain⟨y,C,D,E,F,G⟩:=x H enc w c _ (V0 P t (.agg (xs.map (·.1)))) (by rw[B,v]) (fun f hf=>by
    rw [<-u]at hf;obtain⟨s,o,rfl⟩:=List.mem_map.1 hf;obtain⟨i,hi⟩:=List.getElem?_of_mem o;obtain⟨b,p,I⟩:=l i s hi;refine⟨b,I,fun a n z=>a n ?_⟩;simp[DataW.weights,r];exact DataW.weights_mem_each (j:=i) (t:=s.type) (d:=b.1) (by rw[List.getElem?_map,hi];rfl) (by rw[List.getElem?_map,p];rfl) n z)
   refine ⟨conv y,?_,?_,?_,?_,fun a=>by rw[k];exact G a⟩
   .rw[k];exact C
   .rw[k];simpa[TV.cells]using D
   .simpa using E
   .rw[k];simpa[TV.cells]using F
  .cases h
 all_goals simp_all
theorem O2{el:TypeId}(conv:Y->X)(o:P.underlying t=some (.array n el))(p:(List.range n).map (fun i=>(el,i*P.cellsOf el))=L)(q:P.cellsOf t=m)
  (r:Tf P fuel L 0 m g)(j:∀y,e (conv y)=.agg (g y)):DV P t m e (fuel+1):=by
 intro H enc w c cs d E h;unfold DataW.trod at h;rw[o]at h;split at h
 case h_10 n' e' cs' hu=>
  simp at hu;obtain⟨rfl,rfl⟩:=hu;split at h
  .rename_i u;simp only[Option.map_eq_some_iff]at h;obtain⟨xs,k,hd⟩:=h;simp at hd;obtain⟨hd,_⟩:=hd;subst hd;obtain⟨_,k⟩:=PQ k;obtain⟨y,v,x,z,B,C⟩:=r H enc w c _ (V0 P t (.agg (xs.map (·.1)))) (by rw[u,q]) (fun f hf=>by
    rw [<-p]at hf;obtain⟨i,hi,rfl⟩:=List.mem_map.1 hf;rw[List.mem_range]at hi;obtain⟨b,l,D⟩:=k i i (List.getElem?_range hi);refine⟨b,D,fun a n s=>a n ?_⟩;simp[DataW.weights,o];exact Ol (List.mem_map.2 ⟨b,List.mem_of_getElem? l,rfl⟩) s)
   refine ⟨conv y,?_,?_,?_,?_,fun a=>by rw[j];exact C a⟩
   .rw[j];exact v
   .rw[j];simpa[TV.cells]using x
   .simpa using z
   .rw[j];simpa[TV.cells]using B
  .cases h
 all_goals simp_all
end
end Go.Sf
namespace Go.Sf
open Go.ChangeShapes Go.WideShapes Go.ChangeAt Go.RowKit
variable{H:Type}
theorem TZ{enc:TypeId×Value->H}{P:Program}(j:laidOutB P=true){W k:World}(l:Below W.heap.size W k){o:Nat->Bool}:
  ∀{ts:List TypeId}{vs:List Value}{ds:List (DataW H)}{f:List MemPlace},ts.all (fun t=>P.readableRec t&&decide (t<P.types.size))=true->DataW.TrodAll enc P W 0 (fun _=>true) true ts vs ds f ->
   (∀x∈f,x.block<W.heap.size)->(∀x∈f,o x.block=true)->DataW.TrodAll enc P k 0 o true ts vs ds f
 |[],_,_,_,_,h,_,_=>by
  obtain ⟨rfl,rfl,rfl⟩:=trodAll_nil h;exact trodAll_mk0
 |t::ts,_,_,_,i,h,b,c=>by
  obtain ⟨v,vs,d,ds,p,q,rfl,rfl,rfl,r,s⟩:=trodAll_cons h;simp only[List.all_cons,sr,yf]at i;refine⟨p,q,?_,TZ j l i.2 s (fun x a=>b x (List.mem_append_right _ a)) (fun x a=>c x (List.mem_append_right _ a)),rfl⟩;exact WideElems.Trod_stays j i.1.1 i.1.2 r (fun x a=>l.same (b x (List.mem_append_left _ a))) (fun x a=>c x (List.mem_append_left _ a))
def VR(P:Program)(ts:List TypeId)(A:Fq->Prop):Prop:=
 ∀(H:Type)(enc:TypeId×Value->H)(W:World)(vs:List Value)(ds:List (DataW H))(ps:List MemPlace),DataW.TrodAll enc P W 0 (fun _=>true) true ts vs ds ps->∃as,A as/\TV.tg as/\AP W Vy as vs/\((∀n∈DataW.weightsEach P ts ds,n<=reachBytes)->TV.zy as)
theorem a7{P:Program}:VR P [] (fun a=>a=[]):=by
 intro H enc W vs ds b h;obtain⟨rfl,rfl,rfl⟩:=trodAll_nil h;exact⟨[],rfl,trivial,rfl,fun _=>trivial⟩
variable{ts:List TypeId}{A:Fq->Prop}{n:Nat}{X:Type}{e:X->TV}
theorem ay{P:Program}{t:TypeId}(b:n≠1)(k:∀fuel,DV P t n e fuel)(he:∀x,∃cs,e x=.agg cs)(h:VR P ts A):
  VR P (t::ts) (fun l=>∃x bs,l=e x::bs/\A bs):=by
 intro H enc W vs ds I r;obtain⟨v,vs,d,ds,p,q,rfl,rfl,rfl,⟨fuel,s⟩,u⟩:=trodAll_cons r;obtain⟨x,z,c,B,j,C⟩:=k fuel H enc W _ _ _ _ s;obtain⟨bs,D,E,F,G⟩:=h H enc W _ _ _ u;obtain⟨cs,f⟩:=he x;refine⟨e x::bs,⟨x,bs,rfl,D⟩,⟨z,E⟩,?_,fun i=>⟨VP (C fun n b=>i n ?_),G fun n b=>i n ?_⟩⟩
 case refine_2=>rw[DataW.weightsEach,List.mem_append];exact .inl b
 case refine_3=>rw[DataW.weightsEach,List.mem_append];exact .inr b
 simp only[AP];refine⟨v,vs,rfl,?_,F⟩;have a:=A9 c;rw[f]at c j a|-;simp[TV.cells]at c j a;rw[Af];cases v with
 |agg cells=>
  refine ⟨cells,rfl,by simpa[Value.cells]using c,List.all_eq_true.2 (fun y o=>B y (by simpa[Value.cells]using o))⟩
 |_=>simp[Value.cells]at a;omega
theorem Wa{P:Program}{f:FuncId}{fn:Func}{s:ChangeSpec}{tb:TypeId}{c r d again:Bool}(hl:laidOutB P=true)(Z:fn.params.toList.all (fun t=>P.readableRec t&&decide (t<P.types.size))=true)
  (R:fn.resultTypes=#[tb])(z:P.underlying tb=some .bool)(a:s.vars=[])(hs:∀(H:Type)(ds:List (DataW H)),ds.length=fn.params.toList.length->s.fn H (ds++[])={results:=[.lit (.bool true)],args:=ds,vars:=[]})
  (hS:∀h,A h->TV.tg h->TV.zy h->AX P f h (.sh (.bool true)))
  (H:Type)(enc:TypeId×Value->H)(W:World)(args:Array Value)(ds S:List (DataW H))(j:List MemPlace)(T:DataW.Whole enc P fn.params.toList s.vars c W args.toList ds S j)(hwt:(DataW.weightsEach P (fn.params.toList++s.plain.varTypes P) (ds++S)).all (·<=reachBytes)=true)
  (hA:∀ps,DataW.TrodAll enc P W 0 (fun _=>true) true fn.params.toList args.toList ds ps->∃h,A h/\TV.tg h/\AP W Vy h args.toList/\((∀n∈DataW.weightsEach P fn.params.toList ds,n<=reachBytes)->TV.zy h))(B:Ti W:=by exact True.intro):
  Calls P f args W fun e C=>∃v,e=.returned v/\s.post enc P fn c r d again W args v C:=by
 have u:=T;obtain⟨p,q,hT,U,rfl,N,O⟩:=T;rw[a]at U;obtain⟨rfl,rfl⟩:=trodVars_none U;obtain⟨h,ha,I,J,Q⟩:=hA _ hT;have D:=Q (fun n hn=>by
  have hv:s.plain.varTypes P=[]:=by unfold DataSpec.varTypes ChangeSpec.plain;rw[a];rfl
  grind)
 obtain ⟨_,y⟩:=(hS h ha I D).to0 rfl I;obtain⟨_,hC⟩:=y Vy W args J B;refine hC.mono fun e C=>?_;rintro⟨v,rfl,V,hv⟩;simp[Hx,Af]at hv;subst hv;have E:ds.length=fn.params.toList.length:=(trodAll_length hT).2;have F:=hs H ds E;have M:∀x∈p,x.block<W.heap.size:=fun x l=>u.lt x (List.mem_append_left _ l);have o:∀(b:Nat)(k:Nat->Bool)(hd:Bool),DataW.TrodAll enc P C b k hd fn.resultTypes.toList ((Value.bool true).resultList fn.resultTypes.size) (s.fn H (ds++[])).results []:=by
  intro b k hd;rw[F,R];exact trodAll_cons_mk (shut_bool z _) trodAll_mk0
 have i:∀k:Nat->Bool,(∀x∈p,k x.block=true)->DataW.TrodAll enc P C 0 k true fn.params.toList args.toList (s.fn H (ds++[])).args p:=by
  grind [TZ]
 have G:∀k:Nat->Bool,DataW.TrodVars enc P C k s.vars (s.fn H (ds++[])).vars []:=by
  intro k;rw[F,a];rfl
 refine ⟨_,rfl,ds,[],p++[],[],p,[],u,o _ _ _,i _ (fun x l=>decide_eq_true (M x l)),G _,V.frame _,fun _=>?_⟩;refine⟨ok_one R rfl (okWide_bool_mk z _),(s.fn H (ds++[])).results++(s.fn H (ds++[])).args,(s.fn H (ds++[])).vars,p++[],⟨p,[],?_,G _,rfl,?_,O⟩,fun x l _=>l⟩
 .have:=trodAll_append (i (fun _=>true) (fun _ _=>rfl)) (o 0 (fun _=>true) true);simpa using this
 .intro b K l;rw[V.frozen (u.lt _ l)];exact N b K l
def M2(P:Program)(ts:List TypeId)(A:Fq->Prop):Prop:=
 ∀(H:Type)(enc:TypeId×Value->H)(W:World)(base:Nat)(vs:List Value)(ds:List (DataW H))(ps:List MemPlace),(∀(j:Nat)t v,ts[j]?=some t->vs[j]?=some v->Value.okWide P W .any base t v)->DataW.TrodAll enc P W 0 (fun _=>true) true ts vs ds ps->∃as,A as/\TV.tg as/\AP W Vy as vs/\((∀n∈DataW.weightsEach P ts ds,n<=reachBytes)->TV.zy as)
theorem Xm{P:Program}{t:TypeId}{B A:Fq->Prop}(c:M2 P [t] B)(f:M2 P ts A):M2 P (t::ts) (fun i=>∃cs bs,i=cs++bs/\B cs/\A bs):=by
 intro H enc W base vs ds I k h;obtain⟨v,vs,d,ds,p,q,rfl,rfl,rfl,x,y⟩:=trodAll_cons h;obtain⟨i,a1,a2,a3,z⟩:=c H enc W base [v] [d] (p++[]) (fun j o l c f=>by
  match j with
  |0=>exact k 0 o l c f|j+1=>simp at c) (trodAll_cons_mk x trodAll_mk0)
 obtain ⟨bs,C,D,E,F⟩:=f H enc W base vs ds q (fun j o l c f=>k (j+1) o l c f) y;cases i with
 |nil=>simp[AP]at a3|cons a i=>
  simp only[AP]at a3;obtain⟨l,r,hv,G,u⟩:=a3;cases hv;cases i with
  |cons _ _=>simp only[AP]at u;obtain⟨_,_,h,_⟩:=u;cases h
  |nil=>
   refine ⟨a::bs,⟨_,_,rfl,a1,C⟩,⟨a2.1,D⟩,?_,fun s=>⟨(z fun n b=>s n ?_).1,F fun n b=>s n ?_⟩⟩
   .simp only[AP];exact⟨v,vs,rfl,G,E⟩
   .simp only[DataW.weightsEach,List.mem_append]at b|-;rcases b with b|b;exact .inl b;cases b
   .simp[DataW.weightsEach,List.mem_append];exact .inr b
theorem Y3{P:Program}{t:TypeId}(b:n≠1)(c:∀fuel,DV P t n e fuel)(he:∀x,∃cs,e x=.agg cs):M2 P [t] (fun a=>∃x,a=[e x]):=by
 intro H enc W base vs ds f d h;obtain⟨a,⟨x,bs,rfl,rfl⟩,k⟩:=ay b c he a7 H enc W _ _ _ h;exact⟨_,⟨x,rfl⟩,k⟩
theorem ax{P:Program}{t el:TypeId}(c:P.underlying t=some (.slice el))(f:∀fuel,DV P t 1 (fun l:List X=>TV.list n (l.map e)) fuel):M2 P [t] (fun h=>∃l:List X,h=[.list n (l.map e)]):=by
 intro H enc W base vs ds z b k;obtain⟨v,vs,d,ds,p,q,rfl,rfl,rfl,⟨fuel,o⟩,r⟩:=trodAll_cons k;obtain⟨rfl,rfl,rfl⟩:=trodAll_nil r;obtain⟨x,s,u,B,C,y⟩:=f fuel H enc W _ _ _ _ o;obtain⟨a,len,cap,rfl⟩:=okWide_slice c (b 0 t v rfl rfl);exact⟨_,⟨x,rfl⟩,⟨s,trivial⟩,by simpa[TV.cells,Value.cells]using u,fun i=>by simpa[TV.cells]using y fun n j=>i n (by rw[DataW.weightsEach,List.mem_append];exact .inl j)⟩
end Go.Sf
