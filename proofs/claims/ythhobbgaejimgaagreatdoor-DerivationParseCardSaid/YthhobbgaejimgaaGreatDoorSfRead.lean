/- What is read of an argument: a typed value, and that memory holds its tree. -/
import Derived.Test.YthhobbgaejimgaaGreatDoorSfLib
import GoSem.ClaimChange
import Derived.SizedLaws
import Derived.Carry
import Derived.ChangeCalls
import Derived.ProofKit
import Derived.OpenShut
set_option linter.all false
namespace Go.Sf
abbrev PU:Nat->Nat->Prop:=fun _ _=>False
mutual
def TV.Sm:TV->Prop
 |.str s=>s.size<=reachBytes|.list _ es=>es.length<=reachBytes/\TV.td es|.agg cs=>TV.td cs|_=>True
def TV.td:D2->Prop
 |[]=>True|t::ts=>TV.Sm t/\TV.td ts
end
theorem Of:∀{l:D2},TV.td l↔∀t∈l,t.Sm
 |[]=>by simp[TV.td]|t::l=>by simp[TV.td,Of (l:=l)]
theorem VN{l m:D2}:TV.td (l++m)↔TV.td l/\TV.td m:=by grind[Of]
theorem Ox{t:TV}(h:TV.td t.cells):t.Sm:=by
 cases t<;>first|exact h|exact h.1
def RU{H:Type}(P:Program)(t:TypeId)(d:DataW H):Prop:=∀n∈DataW.weights P t d,n<=reachBytes
def Cm(P:Program)(t:TypeId)(n:Nat){X:Type}(e:X->TV)(fuel:Nat):Prop:=
 ∀(H:Type)(enc:TypeId×Value->H)(w:World)(spare:Nat->Bool)(cs:List Value)(d:DataW H)(ps:List MemPlace),DataW.trod enc P w 0 spare true fuel t cs=some (d,ps) ->
  ∃x:X,(e x).WF/\AH w PU (e x).cells cs/\(∀v∈cs,v.oneCell'=true)/\(e x).cells.length=n/\(RU P t d->TV.td (e x).cells)
variable{H:Type}{m:Nat}
theorem Lz{P:Program}{el:TypeId}:∀{l:List (DataW H)}{x:DataW H},x∈l->m∈DataW.weights P el x->m∈DataW.weightsAll P el l
 |[],x,a,_=>by cases a
 |y::l,x,a,b=>by
  rw [DataW.weightsAll,List.mem_append];rcases List.mem_cons.1 a with rfl|a
  .exact .inl b
  .exact .inr (Lz a b)
section
variable{P:Program}{t:TypeId}{fuel:Nat}
variable{n:Nat}{X:Type}{e:X->TV}
theorem CD:Cm P t n e 0:=by
 intro H enc w a cs d b h;cases h
theorem WK{k:IntKind}(c:P.underlying t=some (.int k)):Cm P t 1 (fun n:Int=>TV.int k n) (fuel+1):=by
 intro H enc w a cs d f h;unfold DataW.trod at h;rw[c]at h;split at h<;>simp_all;rename_i i j n l;obtain⟨b,_,_⟩:=h;obtain⟨rfl,b⟩:=b;refine⟨n,?_,by simp[TV.cells,AH,AV],by simp[Value.oneCell'],rfl,fun _=>by simp[TV.cells,TV.td,TV.Sm]⟩;simpa[TV.WF,Lit.wf]using b
theorem VC(c:P.underlying t=some .bool):Cm P t 1 TV.bool (fuel+1):=by
 intro H enc w a cs d f h;unfold DataW.trod at h;rw[c]at h;split at h<;>simp_all;rename_i b;cases b
 .exact .inl ⟨by simp[TV.WF],by simp[TV.cells,AH,AV],by simp[Value.oneCell'],rfl,fun _=>by simp[TV.cells,TV.td,TV.Sm]⟩
 .exact .inr ⟨by simp[TV.WF],by simp[TV.cells,AH,AV],by simp[Value.oneCell'],rfl,fun _=>by simp[TV.cells,TV.td,TV.Sm]⟩
theorem WL(c:P.underlying t=some .string):Cm P t 1 TV.str (fuel+1):=by
 intro H enc w a cs d i h;unfold DataW.trod at h;rw[c]at h;split at h<;>simp_all;rename_i b;refine⟨b,by simpa[TV.WF,EX,maxLen]using h.1,by simp[TV.cells,AH,AV],by simp[Value.oneCell'],rfl,fun f=>?_⟩;have:=h.2.1;subst this;have:=f b.data.toList.length (by simp[DataW.weights]);simp[TV.cells,TV.td,TV.Sm];simpa using this
theorem LI{α β:Type}{f:α->Option β}:∀{l:List α}{r:List β},l.mapM f=some r->r.length=l.length/\∀(i:Nat)(a:α),l[i]?=some a->∃b,r[i]?=some b/\f a=some b
 |[],r,h=>by
  grind
 |x::l,r,h=>by
  simp [List.mapM_cons,Option.bind_eq_bind,Option.bind_eq_some_iff,Option.pure_def,rb]at h;obtain⟨y,d,j,c,rfl⟩:=h;obtain⟨k,o⟩:=LI c
  grind
variable{w:World}
theorem OA{b:Nat}:∀(ts:D2)(cs:List Value)(o:Nat),AH w PU ts cs->(∀v∈cs,v.oneCell'=true)->(∀j v,cs[j]?=some v->w.cell? ⟨b,o+j,none⟩=some v)->CP w PU ts b o
 |[],_,_,_,_,_=>trivial|t::ts,cs,o,h,a,c=>by
  simp [AH]at h;obtain⟨v,r,rfl,f,i⟩:=h;refine⟨⟨v,by simpa using c 0 v rfl,fun hf=>hf,a v (by simp),f⟩,?_⟩;refine OA ts r (o+1) i (fun v hv=>a v (by simp[hv])) (fun j v d=>?_);have:=c (j+1) v (by simpa using d)
  grind
theorem Q7{Q:Nat->X->Prop}:∀(n:Nat),(∀i,i<n->∃x,Q i x)->∃l:List X,l.length=n/\∀i x,l[i]?=some x->Q i x
 |0,_=>⟨[],rfl,fun i x h=>by simp at h⟩|n+1,h=>by
  obtain ⟨l,a,c⟩:=Q7 n (fun i hi=>h i (by omega));obtain⟨x,d⟩:=h n (by omega);refine⟨l++[x],by simp[a],fun i y b=>?_⟩
  grind
theorem Ph{a:Addr}{cs:List Value}(h:w.cells? 0 a n=some cs):cs.length=n/\∀j v,cs[j]?=some v->w.cell? (a.add j)=some v:=by
 unfold World.cells? at h;rw[QQ (Nat.zero_le _)]at h;obtain⟨d,i⟩:=LI h;rw[List.length_range]at d;refine⟨d,fun j v f=>?_⟩;have c:j<n:=by have:=(List.getElem?_eq_some_iff.1 f).1;omega
 obtain ⟨b,k,l⟩:=i j j (by rw[List.getElem?_range c])
 grind
theorem Fm{el:TypeId}(I:P.underlying t=some (.slice el))(T:P.cellsOf el=n)(U:0<n)(J:0<P.bytesOf el)(he:Cm P el n e fuel):Cm P t 1 (fun l:List X=>TV.list n (l.map e)) (fuel+1):=by
 intro H enc w r cs d ps h;unfold DataW.trod at h;rw[I]at h;split at h
 case h_7=>
  refine ⟨[],⟨Nat.zero_le _,trivial⟩,?_,by simp[Value.oneCell'],rfl,fun _=>⟨⟨Nat.zero_le _,trivial⟩,trivial⟩⟩;simp only[TV.cells,AH,AV,List.map_nil];exact⟨_,_,rfl,⟨none,0,rfl,ae _,fun _=>trivial,fun V o=>by cases o⟩,rfl⟩
 case h_8 e1 a len cap hu=>
  simp at hu;subst hu;simp only[]at h;split at h
  .rename_i S;simp only[Option.bind_eq_some_iff,Option.map_eq_some_iff]at h;obtain⟨c,L,rest,M,hd⟩:=h;obtain⟨s,L⟩:=LI L;rw[List.length_range]at s;simp at hd;obtain⟨hd,_⟩:=hd;subst hd;have Z:=fun l x D m R=>Lz (P:=P) (el:=el) (H:=H) (m:=m) (l:=l) (x:=x) D R;have D:∀i,i<len->∃x:X,(e x).WF/\(e x).cells.length=n/\(∃k,w.cells? 0 (a.add (i*n)) n=some k/\AH w PU (e x).cells k/\∀v∈k,v.oneCell'=true)/\(RU P t (.slice (c.map (·.1)) (rest.map (·.1)))->(e x).Sm):=by
    intro i hi;obtain⟨b,hbi,G⟩:=L i i (List.getElem?_range hi);simp[Option.bind_eq_some_iff,T]at G;obtain⟨k,u,G⟩:=G;obtain⟨x,k1,k2,k3,k4,k5⟩:=he H enc w r k b.1 b.2 G;refine⟨x,k1,k4,⟨k,u,k2,k3⟩,fun E=>Ox (k5 (fun m R=>E m ?_))⟩;simp[DataW.weights,I,List.mem_cons,List.mem_append]
    grind
   obtain ⟨l,N,O⟩:=Q7 len D;have f:∀i,i<len->a.spot=none:=by
    intro i hi;obtain⟨x,_,_,⟨k,u,_,_⟩,_⟩:=D 0 (by omega);obtain⟨h2,Q⟩:=Ph u;have q:=Q 0 _ (List.getElem?_eq_getElem (by omega));simp[Nat.zero_mul,Addr.add,if_true]at q;unfold World.cell? at q;split at q
    .split at q
     .cases q
     .rename_i F;cases K:a.spot with
      |none=>rfl|some p=>simp[K]at F
    .cases q
   refine ⟨l,⟨?_,?_⟩,?_,by simp[Value.oneCell'],rfl,fun E=>?_⟩
   .simp[N];unfold EX;have:=S.2.2;unfold maxLen at this;omega
   .rw[BF];intro y B;obtain⟨x,z,rfl⟩:=List.mem_map.1 B;obtain⟨i,hi⟩:=List.getElem?_of_mem z;exact(O i x hi).1
   .simp only[TV.cells,AH,AV,c6,N];refine⟨_,_,rfl,⟨some a,cap,rfl,S.2.1,fun h=>absurd h (by simp),fun V o=>?_⟩,rfl⟩;simp at o;subst o;refine⟨?_,?_⟩
    .by_cases h0:len=0
     .exact .inl (by have:l=[]:=List.eq_nil_of_length_eq_zero (by omega);rw[this];rfl)
     .exact .inr (f 0 (by omega))
    .rw[LK];intro i y B;rw[List.getElem?_map,Option.map_eq_some_iff]at B;obtain⟨x,C,rfl⟩:=B;have hi:i<len:=by have:=(List.getElem?_eq_some_iff.1 C).1;omega
     obtain ⟨_,Q,⟨k,q,h5,h6⟩,_⟩:=O i x C;obtain⟨_,h7⟩:=Ph q;refine⟨?_,Q⟩;refine OA _ k _ h5 h6 (fun j v W=>?_);have:=h7 j v W;have F:=f i hi;obtain⟨ab,ao,sp⟩:=a;simp only at F;subst F;rw[Addr.add_lit,Addr.add_lit]at this;exact this
   .simp[TV.cells,TV.td,TV.Sm,N];refine⟨?_,?_⟩
    .have:=E ((c.length+rest.length)*P.bytesOf el) (by simp[DataW.weights,I]);have h9:c.length+rest.length<=(c.length+rest.length)*P.bytesOf el:=Nat.le_mul_of_pos_right _ J;omega
    .rw[Of];intro y B;obtain⟨x,z,rfl⟩:=List.mem_map.1 B;obtain⟨i,hi⟩:=List.getElem?_of_mem z;exact(O i x hi).2.2.2 E
  .cases h
 all_goals simp_all
def PT(P:Program)(fuel:Nat)(fs:List (TypeId×Nat))(k m:Nat){Y:Type}(g:Y->D2):Prop:=
 ∀(H:Type)(enc:TypeId×Value->H)(w:World)(spare:Nat->Bool)(cs:List Value)(L:Prop),cs.length=m->(∀f∈fs,∃b,DataW.trod enc P w 0 spare true fuel f.1 ((cs.drop f.2).take (P.cellsOf f.1))=some b/\(L->RU P f.1 b.1)) ->
  ∃y:Y,TV.rk (g y)/\AH w PU (g y) (cs.drop k)/\(∀v∈cs.drop k,v.oneCell'=true)/\(g y).length=m-k/\(L->TV.td (g y))
variable{m:Nat}
theorem Ga:PT P fuel [] m m (fun _:Unit=>[]):=by
 intro H enc w a cs L b _;have:cs.drop m=[]:=List.drop_eq_nil_of_le (by omega);exact⟨(),trivial,by rw[this];rfl,by simp[this],by simp,fun _=>trivial⟩
variable{Y:Type}{g:Y->D2}
theorem BH{f:TypeId}{k n m:Nat}{o:List (TypeId×Nat)}(r:P.cellsOf f=n)(J:k+n<=m)(he:Cm P f n e fuel)(s:PT P fuel o (k+n) m g):
  PT P fuel ((f,k)::o) k m (fun p:X×Y=>(e p.1).cells++g p.2):=by
 intro H enc w c cs L d h;obtain⟨b,q,z⟩:=h (f,k) (by simp);simp[r]at q;obtain⟨x,i,B,C,D,j⟩:=he H enc w c _ b.1 b.2 q;obtain⟨y,E,F,G,I,l⟩:=s H enc w c cs L d (fun f hf=>h f (by simp[hf]));have a:cs.drop k=(cs.drop k).take n++cs.drop (k+n):=by
  rw [<-List.drop_drop,List.take_append_drop]
 refine ⟨(x,y),?_,?_,?_,?_,fun d=>VN.2 ⟨j (z d),l d⟩⟩
 .refine Gn.2 ⟨?_,E⟩;cases u:e x<;>rw[u]at i<;>first|exact i|exact⟨i,trivial⟩
 .rw[a];exact FK B F
 .rw[a];intro v hv;rcases List.mem_append.1 hv with hv|hv
  .exact C v hv
  .exact G v hv
 .simp[D,I];omega
theorem Ez{q:Array Field}{L:List (TypeId×Nat)}(conv:Y->X)(r:P.underlying t=some (.struct q))(u:q.toList.map (fun f=>(f.type,f.offset))=L)(v:P.cellsOf t=m)
  (x:PT P fuel L 0 m g)(k:∀y,e (conv y)=.agg (g y)):Cm P t m e (fuel+1):=by
 intro H enc w c cs d J h;unfold DataW.trod at h;rw[r]at h;split at h
 case h_9 fs' cs' hu=>
  simp at hu;subst hu;split at h
  .rename_i B;simp only[Option.map_eq_some_iff]at h;obtain⟨xs,l,hd⟩:=h;simp at hd;obtain⟨hd,_⟩:=hd;subst hd;obtain⟨_,l⟩:=LI l;obtain⟨y,C,D,E,F,G⟩:=x H enc w c _ (RU P t (.agg (xs.map (·.1)))) (by rw[B,v]) (fun f hf=>by
    rw [<-u]at hf;obtain⟨s,o,rfl⟩:=List.mem_map.1 hf;obtain⟨i,hi⟩:=List.getElem?_of_mem o;obtain⟨b,p,I⟩:=l i s hi;refine⟨b,I,fun a n z=>a n ?_⟩;simp[DataW.weights,r];exact DataW.weights_mem_each (j:=i) (t:=s.type) (d:=b.1) (by rw[List.getElem?_map,hi];rfl) (by rw[List.getElem?_map,p];rfl) n z)
   refine ⟨conv y,?_,?_,?_,?_,fun a=>by rw[k];exact G a⟩
   .rw[k];exact C
   .rw[k];simpa[TV.cells]using D
   .simpa using E
   .rw[k];simpa[TV.cells]using F
  .cases h
 all_goals simp_all
end
end Go.Sf
namespace Go.Sf
open Go.ChangeShapes Go.WideShapes Go.ChangeAt Go.RowKit
variable{H:Type}
theorem Mv{enc:TypeId×Value->H}{P:Program}(j:laidOutB P=true){W k:World}(l:Below W.heap.size W k){o:Nat->Bool}:
  ∀{ts:List TypeId}{vs:List Value}{ds:List (DataW H)}{f:List MemPlace},ts.all (fun t=>P.readableRec t&&decide (t<P.types.size))=true->DataW.TrodAll enc P W 0 (fun _=>true) true ts vs ds f ->
   (∀x∈f,x.block<W.heap.size)->(∀x∈f,o x.block=true)->DataW.TrodAll enc P k 0 o true ts vs ds f
 |[],_,_,_,_,h,_,_=>by
  obtain ⟨rfl,rfl,rfl⟩:=trodAll_nil h;exact trodAll_mk0
 |t::ts,_,_,_,i,h,b,c=>by
  obtain ⟨v,vs,d,ds,p,q,rfl,rfl,rfl,r,s⟩:=trodAll_cons h;simp only[List.all_cons,q8,sc]at i;refine⟨p,q,?_,Mv j l i.2 s (fun x a=>b x (List.mem_append_right _ a)) (fun x a=>c x (List.mem_append_right _ a)),rfl⟩;exact WideElems.Trod_stays j i.1.1 i.1.2 r (fun x a=>l.same (b x (List.mem_append_left _ a))) (fun x a=>c x (List.mem_append_left _ a))
def Oz(P:Program)(ts:List TypeId)(A:D2->Prop):Prop:=
 ∀(H:Type)(enc:TypeId×Value->H)(W:World)(vs:List Value)(ds:List (DataW H))(ps:List MemPlace),DataW.TrodAll enc P W 0 (fun _=>true) true ts vs ds ps->∃as,A as/\TV.rk as/\AH W PU as vs/\((∀n∈DataW.weightsEach P ts ds,n<=reachBytes)->TV.td as)
theorem SX{P:Program}:Oz P [] (fun a=>a=[]):=by
 intro H enc W vs ds b h;obtain⟨rfl,rfl,rfl⟩:=trodAll_nil h;exact⟨[],rfl,trivial,rfl,fun _=>trivial⟩
variable{ts:List TypeId}{A:D2->Prop}{n:Nat}{X:Type}{e:X->TV}
theorem SW{P:Program}{t:TypeId}(b:n≠1)(k:∀fuel,Cm P t n e fuel)(he:∀x,∃cs,e x=.agg cs)(h:Oz P ts A):
  Oz P (t::ts) (fun l=>∃x bs,l=e x::bs/\A bs):=by
 intro H enc W vs ds I r;obtain⟨v,vs,d,ds,p,q,rfl,rfl,rfl,⟨fuel,s⟩,u⟩:=trodAll_cons r;obtain⟨x,z,c,B,j,C⟩:=k fuel H enc W _ _ _ _ s;obtain⟨bs,D,E,F,G⟩:=h H enc W _ _ _ u;obtain⟨cs,f⟩:=he x;refine⟨e x::bs,⟨x,bs,rfl,D⟩,⟨z,E⟩,?_,fun i=>⟨Ox (C fun n b=>i n ?_),G fun n b=>i n ?_⟩⟩
 case refine_2=>rw[DataW.weightsEach,List.mem_append];exact .inl b
 case refine_3=>rw[DataW.weightsEach,List.mem_append];exact .inr b
 simp only[AH];refine⟨v,vs,rfl,?_,F⟩;have a:=Az c;rw[f]at c j a|-;simp[TV.cells]at c j a;rw[AV];cases v with
 |agg cells=>
  refine ⟨cells,rfl,by simpa[Value.cells]using c,List.all_eq_true.2 (fun y o=>B y (by simpa[Value.cells]using o))⟩
 |_=>simp[Value.cells]at a;omega
theorem P1{P:Program}{f:FuncId}{fn:Func}{s:ChangeSpec}{tb:TypeId}{c r d again:Bool}(hl:laidOutB P=true)(V:fn.params.toList.all (fun t=>P.readableRec t&&decide (t<P.types.size))=true)
  (O:fn.resultTypes=#[tb])(z:P.underlying tb=some .bool)(a:s.vars=[])(Z:∀(H:Type)(ds:List (DataW H)),ds.length=fn.params.toList.length->s.fn H (ds++[])={results:=[.lit (.bool true)],args:=ds,vars:=[]})
  (hS:∀h,A h->TV.rk h->TV.td h->AI P f h (.sh (.bool true)))
  (H:Type)(enc:TypeId×Value->H)(W:World)(args:Array Value)(ds Q:List (DataW H))(j:List MemPlace)(R:DataW.Whole enc P fn.params.toList s.vars c W args.toList ds Q j)(hwt:(DataW.weightsEach P (fn.params.toList++s.plain.varTypes P) (ds++Q)).all (·<=reachBytes)=true)
  (hA:∀ps,DataW.TrodAll enc P W 0 (fun _=>true) true fn.params.toList args.toList ds ps->∃h,A h/\TV.rk h/\AH W PU h args.toList/\((∀n∈DataW.weightsEach P fn.params.toList ds,n<=reachBytes)->TV.td h)):
  Calls P f args W fun e B=>∃v,e=.returned v/\s.post enc P fn c r d again W args v B:=by
 have u:=R;obtain⟨p,q,S,T,rfl,L,M⟩:=R;rw[a]at T;obtain⟨rfl,rfl⟩:=trodVars_none T;obtain⟨h,ha,G,I,N⟩:=hA _ S;have C:=N (fun n hn=>by
  have hv:s.plain.varTypes P=[]:=by unfold DataSpec.varTypes ChangeSpec.plain;rw[a];rfl
  grind)
 obtain ⟨_,y⟩:=(hS h ha G C).uU rfl G;obtain⟨_,hC⟩:=y PU W args I;refine hC.mono fun e B=>?_;rintro⟨v,rfl,U,hv⟩;simp[Dx,AV]at hv;subst hv;have D:ds.length=fn.params.toList.length:=(trodAll_length S).2;have E:=Z H ds D;have K:∀x∈p,x.block<W.heap.size:=fun x l=>u.lt x (List.mem_append_left _ l);have o:∀(b:Nat)(k:Nat->Bool)(hd:Bool),DataW.TrodAll enc P B b k hd fn.resultTypes.toList ((Value.bool true).resultList fn.resultTypes.size) (s.fn H (ds++[])).results []:=by
  intro b k hd;rw[E,O];exact trodAll_cons_mk (shut_bool z _) trodAll_mk0
 have i:∀k:Nat->Bool,(∀x∈p,k x.block=true)->DataW.TrodAll enc P B 0 k true fn.params.toList args.toList (s.fn H (ds++[])).args p:=by
  grind [Mv]
 have F:∀k:Nat->Bool,DataW.TrodVars enc P B k s.vars (s.fn H (ds++[])).vars []:=by
  intro k;rw[E,a];rfl
 refine ⟨_,rfl,ds,[],p++[],[],p,[],u,o _ _ _,i _ (fun x l=>decide_eq_true (K x l)),F _,U.frame _,fun _=>?_⟩;refine⟨ok_one O rfl (okWide_bool_mk z _),(s.fn H (ds++[])).results++(s.fn H (ds++[])).args,(s.fn H (ds++[])).vars,p++[],⟨p,[],?_,F _,rfl,?_,M⟩,fun x l _=>l⟩
 .have:=trodAll_append (i (fun _=>true) (fun _ _=>rfl)) (o 0 (fun _=>true) true);simpa using this
 .intro b J l;rw[U.frozen (u.lt _ l)];exact L b J l
def IP(P:Program)(ts:List TypeId)(A:D2->Prop):Prop:=
 ∀(H:Type)(enc:TypeId×Value->H)(W:World)(base:Nat)(vs:List Value)(ds:List (DataW H))(ps:List MemPlace),(∀(j:Nat)t v,ts[j]?=some t->vs[j]?=some v->Value.okWide P W .any base t v)->DataW.TrodAll enc P W 0 (fun _=>true) true ts vs ds ps->∃as,A as/\TV.rk as/\AH W PU as vs/\((∀n∈DataW.weightsEach P ts ds,n<=reachBytes)->TV.td as)
theorem Lt{P:Program}{t:TypeId}{B A:D2->Prop}(c:IP P [t] B)(f:IP P ts A):IP P (t::ts) (fun i=>∃cs bs,i=cs++bs/\B cs/\A bs):=by
 intro H enc W base vs ds K k h;obtain⟨v,vs,d,ds,p,q,rfl,rfl,rfl,y,z⟩:=trodAll_cons h;obtain⟨i,a1,C,s,D⟩:=c H enc W base [v] [d] (p++[]) (fun j o l c f=>by
  match j with
  |0=>exact k 0 o l c f|j+1=>simp at c) (trodAll_cons_mk y trodAll_mk0)
 obtain ⟨bs,E,F,G,I⟩:=f H enc W base vs ds q (fun j o l c f=>k (j+1) o l c f) z;cases i with
 |nil=>simp[AH]at s|cons a i=>
  simp only[AH]at s;obtain⟨l,r,hv,J,x⟩:=s;cases hv;cases i with
  |cons _ _=>simp only[AH]at x;obtain⟨_,_,h,_⟩:=x;cases h
  |nil=>
   refine ⟨a::bs,⟨_,_,rfl,a1,E⟩,⟨C.1,F⟩,?_,fun u=>⟨(D fun n b=>u n ?_).1,I fun n b=>u n ?_⟩⟩
   .simp only[AH];exact⟨v,vs,rfl,J,G⟩
   .simp only[DataW.weightsEach,List.mem_append]at b|-;rcases b with b|b;exact .inl b;cases b
   .simp[DataW.weightsEach,List.mem_append];exact .inr b
theorem Mt{P:Program}{t:TypeId}(b:n≠1)(c:∀fuel,Cm P t n e fuel)(he:∀x,∃cs,e x=.agg cs):IP P [t] (fun a=>∃x,a=[e x]):=by
 intro H enc W base vs ds f d h;obtain⟨a,⟨x,bs,rfl,rfl⟩,k⟩:=SW b c he SX H enc W _ _ _ h;exact⟨_,⟨x,rfl⟩,k⟩
theorem RR{P:Program}{t:TypeId}(b:P.underlying t=some .string)(c:∀fuel,Cm P t 1 TV.str fuel):IP P [t] (fun f=>∃s:ByteArray,f=[.str s]):=by
 intro H enc W base vs ds y a j;obtain⟨v,vs,d,ds,p,q,rfl,rfl,rfl,⟨fuel,k⟩,l⟩:=trodAll_cons j;obtain⟨rfl,rfl,rfl⟩:=trodAll_nil l;obtain⟨x,o,r,z,B,u⟩:=c fuel H enc W _ _ _ _ k;obtain⟨s,rfl⟩:=okWide_string b (a 0 t v rfl rfl);exact⟨_,⟨x,rfl⟩,⟨o,trivial⟩,by simpa[TV.cells,Value.cells]using r,fun h=>by simpa[TV.cells]using u fun n i=>h n (by rw[DataW.weightsEach,List.mem_append];exact .inl i)⟩
end Go.Sf
