/- What an operation leans on: the slots that it reads, whether or not they own their lists. -/
import Derived.Test.YtagcclhejecceaaGreatSfCode
set_option linter.all false
namespace Go.Sf
theorem k7{cs ds:List AN}(h:ds.map AN.key=cs.map AN.key):ds.map (·.t)=cs.map (·.t):=by
 have:=congrArg (List.map Prod.fst) h;simpa[List.map_map,Function.comp_def,AN.key]using this
def bY(p:TV×Bool):TV:=match p with
 |(.xl n es,true)=>.list n es|p=>p.1
theorem ZU{cs ds:List AN}(h:ds.map AN.key=cs.map AN.key):ds.map AN.yu=cs.map AN.yu:=by
 have a:∀c:AN,c.yu=bY c.key:=by
  rintro ⟨_|_,t⟩<;>cases t<;>rfl
 have:=congrArg (List.map bY) h;simpa[List.map_map,Function.comp_def,<-a]using this
def sZ(p:TV×Bool):Option (Nat×Fq):=match p with
 |(.xl n es,true)=>some (n,es)|_=>none
theorem oo{cs ds:List AN}(h:ds.map AN.key=cs.map AN.key)(k:Nat):(match ds[k]? with
  |some ⟨true,.xl n es⟩=>some (n,es)|_=>none)=(match cs[k]? with
  |some ⟨true,.xl n es⟩=>some (n,es)|_=>none):=by
 have a:∀o:Option AN,(match o with
  |some ⟨true,.xl n es⟩=>some (n,es)|_=>none)=(o.map AN.key).bind sZ:=by
  rintro (_|⟨_|_,t⟩)
  .rfl
  .cases t<;>rfl
  .cases t<;>rfl
 rw [a,a];have:=congrArg (fun l=>l[k]?) h;simp only[List.getElem?_map]at this;rw[this]
def sa(p:TV×Bool):Option Fq:=match p with
 |(.xn es,true)=>some es|_=>none
theorem ot{cs ds:List AN}(h:ds.map AN.key=cs.map AN.key)(k:Nat):(match ds[k]? with
  |some ⟨true,.xn es⟩=>some es|_=>none)=(match cs[k]? with
  |some ⟨true,.xn es⟩=>some es|_=>none):=by
 have a:∀o:Option AN,(match o with
  |some ⟨true,.xn es⟩=>some es|_=>none)=(o.map AN.key).bind sa:=by
  rintro (_|⟨_|_,t⟩)
  .rfl
  .cases t<;>rfl
  .cases t<;>rfl
 rw [a,a];have:=congrArg (fun l=>l[k]?) h;simp only[List.getElem?_map]at this;rw[this]
def EV.like(e e2:EV):Prop:=
 e2=e\/(∃n es,(e=.tv (.list n es)/\e2=.ow (.list n es))\/(e=.ow (.list n es)/\e2=.tv (.list n es)))\/∃cs ds,e=.bx cs/\e2=.bx ds/\ds.map AN.key=cs.map AN.key
theorem EV.like.rfl'(e:EV):e.like e:=.inl rfl
variable{e e2:EV}
theorem EV.like.symm(h:e.like e2):e2.like e:=by
 rcases h with rfl|⟨n,es,⟨rfl,rfl⟩|⟨rfl,rfl⟩⟩|⟨cs,ds,rfl,rfl,h⟩
 .exact .inl rfl
 .exact .inr (.inl ⟨n,es,.inr ⟨rfl,rfl⟩⟩)
 .exact .inr (.inl ⟨n,es,.inl ⟨rfl,rfl⟩⟩)
 .exact .inr (.inr ⟨ds,cs,rfl,rfl,h.symm⟩)
theorem EV.like.we(h:e.like e2):e2.we=e.we:=by
 rcases h with rfl|⟨n,es,⟨rfl,rfl⟩|⟨rfl,rfl⟩⟩|⟨cs,ds,rfl,rfl,h⟩<;>rfl
variable{q:Nat}
theorem EV.like.yi(h:e.like e2)(a:e.we=some q):e2=e:=by
 rcases h with rfl|⟨n,es,⟨rfl,rfl⟩|⟨rfl,rfl⟩⟩|⟨cs,ds,rfl,rfl,h⟩
 .rfl
 .cases a
 .cases a
 .cases a
theorem EV.like.xo(h:e.like e2){n:Nat}{es:Fq}(he:e=.xo n es):e2=.xo n es:=by
 subst he;rcases h with rfl|⟨n,es,⟨h,_⟩|⟨h,_⟩⟩|⟨cs,ds,h,_⟩
 .rfl
 .cases h
 .cases h
 .cases h
theorem EV.like.val(h:e.like e2):e2.val=e.val:=by
 rcases h with rfl|⟨n,es,⟨rfl,rfl⟩|⟨rfl,rfl⟩⟩|⟨cs,ds,rfl,rfl,h⟩<;>rfl
theorem EV.like.pt(h:e.like e2){row:Fq}(he:e=.tv (.pt row)):e2=.tv (.pt row):=by
 subst he;rcases h with rfl|⟨n,es,⟨h,rfl⟩|⟨h,rfl⟩⟩|⟨cs,ds,h,rfl,a⟩
 .rfl
 .simp at h
 .cases h
 .cases h
theorem EV.like.bp(h:e.like e2){q a:Nat}(he:e=.bp q a):e2=.bp q a:=by
 subst he;rcases h with rfl|⟨n,es,⟨h,rfl⟩|⟨h,rfl⟩⟩|⟨cs,ds,h,rfl,b⟩
 .rfl
 .cases h
 .cases h
 .cases h
theorem EV.like.tp(h:e.like e2){a:Fq}(he:e=.tp a):e2=.tp a:=by
 subst he;rcases h with rfl|⟨n,es,⟨h,rfl⟩|⟨h,rfl⟩⟩|⟨cs,ds,h,rfl,b⟩
 .rfl
 .cases h
 .cases h
 .cases h
theorem EV.like.bx(h:e.like e2){cs:List AN}(he:e=.bx cs):∃ds,e2=.bx ds/\ds.map AN.key=cs.map AN.key:=by
 subst he;rcases h with rfl|⟨n,es,⟨h,rfl⟩|⟨h,rfl⟩⟩|⟨cs',ds,h,rfl,a⟩
 .exact⟨cs,rfl,rfl⟩
 .cases h
 .cases h
 .simp only[EV.bx.injEq]at h;subst h;exact⟨ds,rfl,a⟩
def AF.sl:AF->Ne
 |.s n=>[n]|.c _=>[]
def WH:Option AF->Ne
 |some x=>x.sl|none=>[]
def Dp:List AF->Ne
 |[]=>[]|x::xs=>x.sl++Dp xs
def PM:List (Nat×Nat×AF)->Ne
 |[]=>[]|x::xs=>x.2.2.sl++PM xs
def AE.slots:AE->Ne
 |.mv x=>x.sl|.tk s=>[s]|.yw _=>[]|.w3 x _=>x.sl|.bad s _=>[s]|.yb x i _=>x.sl++i.sl|.y4 x i _ _=>x.sl++i.sl|.ld x=>x.sl|.yt x _=>x.sl|.zO s _=>[s]|.zL x=>x.sl|.bin _ _ x y=>x.sl++y.sl|.not x=>x.sl|.neg x=>x.sl|.pick c a b=>c.sl++(a.sl++b.sl)|.len x=>x.sl|.yX x=>x.sl|.xu _ x lo hi=>x.sl++(WH lo++WH hi)|.xi x lo hi=>x.sl++(WH lo++WH hi)|.yq _ ps=>PM ps|.yI _ ps=>Dp ps|.app _ x y=>x.sl++y.sl|.call _ xs=>Dp xs|.ye x xs=>x.sl++Dp xs|.w8 _ xs=>Dp xs|.ext x _=>x.sl|.yA _ x=>x.sl|.xc x i=>x.sl++i.sl|.yr x=>x.sl|.yK x=>x.sl|.mm _ x y=>x.sl++y.sl|.yY _=>[]|.st _ x v=>x.sl++v.sl|.yy _ s v=>s::v.sl|.ze s=>[s]|.yG x _ _ _=>x.sl|.zg s=>[s]|.yD x=>x.sl|.zy x i _=>x.sl++i.sl|.xfa x _=>x.sl|.zD x=>x.sl|.yx x v _=>x.sl++v.sl|.rel s=>[s]|.yd _=>[]|.ym _=>[]|.yW s=>[s]|.x4 _ s y=>s::y.sl|.xz _ xs=>Dp xs|.yg _ _ x=>x.sl|.yR _ _ x=>x.sl|.xk _ x ys=>x.sl++Dp ys|.xP _ x=>x.sl|.wP gs=>gs.flatMap GC.sl|.stx _ s q=>[s,q]|.xY _ xs=>Dp xs|.xj _ xs=>Dp xs|.y9 x=>x.sl|.zJ x _=>x.sl|.zN x _=>x.sl|.zT x=>x.sl|.zb x=>x.sl|.zp x q=>x.sl++[q]|.cut _ s hi=>s::hi.sl|.xD _ xs=>Dp xs|.yn _ x=>x.sl|.yj _ s _ x=>s::x.sl|.xZ _ xs=>Dp xs|.w6 _ xs _=>Dp xs|.yv q=>[q]|.xC s q=>[s,q]|.zu x=>x.sl|.yO x i=>x.sl++i.sl|.zj x=>x.sl|.yP x v=>x.sl++v.sl|.yH q=>[q]|.xF _ xs _=>Dp xs|.ldg s _=>[s]|.zh _ _ x v=>x.sl++v.sl|.yQ=>[]|.zI s=>[s]|.xw _ xs=>Dp xs|.zK s m x=>s::(m.sl++x.sl)|.zi s m x v=>s::(m.sl++(x.sl++v.sl))|.wi s m=>s::m.sl|.zm s=>[s]|.zr s=>[s]|.zv x i _=>x.sl++i.sl|.y8 x=>x.sl
def AE.yf:AE->Ne
 |.tk s=>[s]|.app _ x _=>x.sl|_=>[]
def AE.mov:AE->Bool
 |.st ..=>false|.yy ..=>false|.ze _=>false|.yx ..=>false|.rel _=>false|.yd _=>false|.ym _=>false|.yW _=>false|.x4 ..=>false|.xk ..=>false|.xP ..=>false|.wP _=>false|.stx ..=>false|.y9 _=>false|.zb _=>false|.zp ..=>false|.cut ..=>false|.yj ..=>false|.w6 ..=>false|.yv _=>false|.xC ..=>false|.yP ..=>false|.yH _=>false|.xF ..=>false|.ldg ..=>false|.zh ..=>false|.yQ=>false|.zI _=>false|.xw ..=>false|.zK ..=>false|.zi ..=>false|.wi ..=>false|.zm _=>false|.zr _=>false|_=>true
def AE.wc:AE->Bool
 |.yY _=>true|.yK _=>true|.yn ..=>true|.xz ..=>true|.yg ..=>true|.yR ..=>true|_=>false
def AE.xV:AE->Ne
 |.bad s _=>[s]|.zg s=>[s]|_=>[]
inductive A0 where
 |none
 |slot (s:Nat) (t:TV)
 |cell (s off:Nat) (t:TV)
def A0.app:A0->AB->AB
 |.none,U=>U|.slot s t,U=>(s,.tv t)::U|.cell s off t,U=>match U.get s with
  |.bx cs=>(s,.bx (cs.set off ⟨false,t⟩))::U|_=>U
def A0.ok:A0->AB->Prop
 |.none,_=>True|.slot s t,U=>U.get s=.ow t|.cell s off t,U=>∃cs,U.get s=.bx cs/\cs[off]?=some ⟨true,t⟩
structure D7(op:AE)(f:A0)(dst:Option Nat)(U env2:AB):Prop where
 sl:∀s∈op.slots,(U.get s).like (env2.get s)
 bp:∀s∈op.slots,∀q,(U.get s).we=some q->(U.get q).like (env2.get q)
 yf:∀s∈op.yf,(∀cs,U.get s≠.bx cs)->env2.get s=U.get s
 eff:f.ok env2
 new:op.wc=true->∀d,dst=some d->U.f0 d=true->env2.f0 d=true
section
variable{op:AE}{f:A0}{dst:Option Nat}{U env2:AB}
variable{x:AF}
theorem D7.val(h:D7 op f dst U env2)(a:∀s∈x.sl,s∈op.slots):x.val env2=x.val U:=by
 cases x with
 |c t=>rfl|s n=>exact(h.sl n (a n (by simp[AF.sl]))).val
theorem D7.ev(h:D7 op f dst U env2)(a:∀s∈x.sl,s∈op.slots):(x.ev U).like (x.ev env2):=by
 cases x with
 |c t=>exact .inl rfl|s n=>exact h.sl n (a n (by simp[AF.sl]))
theorem D7.vals(h:D7 op f dst U env2):∀{xs:List AF},(∀s∈Dp xs,s∈op.slots)->Go.Sf.vals env2 xs=Go.Sf.vals U xs
 |[],_=>rfl|x::xs,b=>by
  simp only[Dp,List.mem_append]at b;simp only[Go.Sf.vals,h.val (x:=x) (fun s a=>b s (.inl a)),h.vals (xs:=xs) (fun s a=>b s (.inr a))]
theorem D7.parts(h:D7 op f dst U env2):∀{xs:List (Nat×Nat×AF)},(∀s∈PM xs,s∈op.slots)->EL env2 xs=EL U xs
 |[],_=>rfl|(i,n,x)::xs,b=>by
  simp only[PM,List.mem_append]at b;simp only[EL,h.val (x:=x) (fun s a=>b s (.inl a)),h.parts (xs:=xs) (fun s a=>b s (.inr a))]
theorem D7.zE(h:D7 op f dst U env2){x:Option AF}{k:Int}(a:∀s∈WH x,s∈op.slots):Gi env2 k x=Gi U k x:=by
 cases x with
 |none=>rfl|some x=>exact h.val a
theorem D7.addr(h:D7 op f dst U env2)(j:∀s∈x.sl,s∈op.slots):A1 env2 (x.ev env2)=A1 U (x.ev U):=by
 cases x with
 |c t=>cases t<;>rfl
 |s n=>
  have g:=j n (by simp[AF.sl]);have a:=h.sl n g;have i:=h.bp n g;simp only[AF.ev];generalize U.get n=e at a i;generalize env2.get n=e2 at a;rcases a with rfl|⟨n,es,⟨rfl,rfl⟩|⟨rfl,rfl⟩⟩|⟨cs,ds,rfl,rfl,d⟩
  .cases e2 with
   |bp q k=>
    have b:=i q rfl;simp only[A1];generalize U.get q=e1 at b;generalize env2.get q=e2 at b;rcases b with rfl|⟨n,es,⟨rfl,rfl⟩|⟨rfl,rfl⟩⟩|⟨cs,ds,rfl,rfl,d⟩
    .rfl
    .rfl
    .rfl
    .simp only[List.map_drop,k7 d]
   |tv t=>cases t<;>rfl
   |_=>rfl
  .rfl
  .rfl
  .simp only[A1,k7 d]
theorem D7.place(h:D7 op f dst U env2)(d:∀s∈x.sl,s∈op.slots):x.place env2=x.place U:=by
 cases x with
 |c t=>rfl|s n=>
  have g:=h.sl n (d n (by simp[AF.sl]));simp only[AF.place];rcases g with a|⟨n,es,⟨a,b⟩|⟨a,b⟩⟩|⟨cs,ds,a,b,_⟩
  .rw[a]
  .rw[a,b]
  .rw[a,b]
  .rw[a,b]
variable{q:Nat}
theorem EV.like.tl{U env2:AB}(h:(U.get q).like (env2.get q))(i:Option Nat):env2.tl q i=U.tl q i:=by
 rcases h with a|⟨n,es,⟨a,b⟩|⟨a,b⟩⟩|⟨cs,ds,a,b,c⟩
 .exact AB.wR a
 .cases i<;>simp only[AB.tl,a,b]
 .cases i<;>simp only[AB.tl,a,b]
 .cases i with
  |none=>simp only[AB.tl,a,b]|some k=>simp only[AB.tl,a,b];exact oo c k
theorem EV.like.nat{U env2:AB}(h:(U.get q).like (env2.get q))(i:Nat):env2.nat q i=U.nat q i:=by
 rcases h with a|⟨n,es,⟨a,b⟩|⟨a,b⟩⟩|⟨cs,ds,a,b,c⟩
 .exact AB.w7 a
 .simp only[AB.nat,a,b]
 .simp only[AB.nat,a,b]
 .simp only[AB.nat,a,b];exact ot c i
variable{e e2:EV}
theorem EV.like.nh(h:e.like e2){q i:Nat}{k:NK}(he:e=.nh q i k):e2=.nh q i k:=by
 subst he;exact h.yi rfl
theorem D7.wn(h:D7 op f dst U env2)(g:∀s∈x.sl,s∈op.slots):x.wn env2=x.wn U:=by
 cases x with
 |c t=>rfl|s n=>
  have d:=g n (by simp[AF.sl]);have j:=h.sl n d;have k:=h.bp n d;simp only[AF.wn];rcases j with a|⟨m,es,⟨a,b⟩|⟨a,b⟩⟩|⟨cs,ds,a,b,_⟩
  .rw[a];cases he:U.get n with
   |la q i=>simp only[(k q (by rw[he];rfl)).tl i]|_=>rfl
  .rw[a,b]
  .rw[a,b]
  .rw[a,b]
theorem D7.yL(h:D7 op f dst U env2)(i:∀s∈x.sl,s∈op.slots):x.yL env2=x.yL U:=by
 unfold AF.yL;rw[h.wn i];cases x.wn U with
 |some p=>rfl|none=>
  cases x with
  |c t=>cases t<;>rfl
  |s n=>
   have j:=i n (by simp[AF.sl]);have k:=h.sl n j;have o:=h.bp n j;simp only[AF.ev];rcases k with a|⟨m,es,⟨a,d⟩|⟨a,d⟩⟩|⟨cs,ds,a,d,u⟩
   .rw[a];cases he:U.get n with
    |bp q w=>
     have r:=o q (by rw[he];rfl);simp only;rcases r with b|⟨m,es,⟨b,g⟩|⟨b,g⟩⟩|⟨cs,ds,b,g,v⟩
     .rw[b]
     .rw[b,g]
     .rw[b,g]
     .rw[b,g];have:=ZU v;simp only[List.map_drop,this]
    |_=>rfl
   .rw[a,d];rfl
   .rw[a,d];rfl
   .rw[a,d];simp only[ZU u]
theorem D7.wN(h:D7 op f dst U env2):∀{xs:List AF},(∀s∈Dp xs,s∈op.slots)->Go.Sf.wN env2 xs=Go.Sf.wN U xs
 |[],_=>rfl|x::xs,b=>by
  simp only[Dp,List.mem_append]at b;simp only[Go.Sf.wN,h.yL (x:=x) (fun s a=>b s (.inl a)),h.wN (xs:=xs) (fun s a=>b s (.inr a))]
end
structure eT(S:FuncId->Fq->Am->Prop)(op:AE)(dst:Option Nat)(U:AB)(e:EV)(env':AB)(f:A0):Prop where
 env':env'=f.app U
 ok:f.ok U
 slot:∀s t,f=.slot s t->s∈op.yf
 cell:∀s off t,f=.cell s off t->(s∈op.slots\/∃x∈op.slots,(U.get x).we=some s)
 we:∀s,e.we=some s->(s∈op.xV\/∃x∈op.slots,(U.get x).we=some s)
 new:op.wc=true->e.we=none/\∀d,dst=some d->U.f0 d=true
 xl:∀s off t,f=.cell s off t->t.xh=false
 again:∀env2,D7 op f dst U env2->∀K2:EV->AB->Prop,K2 e (f.app env2)->op.wp S env2 dst K2
section
variable{S:FuncId->Fq->Am->Prop}{op:AE}{dst:Option Nat}{U:AB}{K:EV->AB->Prop}
variable{e:EV}
theorem Av(b:K e U)(c:op.wc=false)(d:e.we=none)(h:∀env2,D7 op .none dst U env2->∀a:EV->AB->Prop,a e env2->op.wp S env2 dst a):K e U/\∃f,eT S op dst U e U f:=
 ⟨b,.none,rfl,trivial,by simp,by simp,(fun s he=>by rw[d]at he;cases he),by simp[c],by simp,h⟩
variable{α:Type}{l m:List α}
theorem DL{x:α}(h:x∈m):x∈l++m:=List.mem_append_right _ h
theorem Ci{x:α}(h:x∈l):x∈l++m:=List.mem_append_left _ h
theorem frame(J:op.mov=true)(h:op.wp S U dst K):op.wp S U dst fun e env'=>K e env'/\∃f,eT S op dst U e env' f:=by
 cases op with
 |mv x=>
  simp only[AE.wp]at h|-;have key:∀t,(x.ev U).val=some t->∀env2,D7 (.mv x) .none dst U env2->∀E:EV->AB->Prop,E (.tv t) env2->(AE.mv x).wp S env2 dst E:=by
   intro t ht env2 w E u;have hv:=w.val (x:=x) (fun s h=>h);simp only[AF.val]at hv;rw[ht]at hv;simp only[AE.wp];cases he:x.ev env2<;>rw[he]at hv<;>simp[EV.val]at hv<;>subst hv<;>exact u
  split at h
  .rename_i t A
   try simp only[A]
   exact Av h rfl rfl (key t (by rw[A];rfl))
  .rename_i t A
   try simp only[A]
   exact Av h rfl rfl (key t (by rw[A];rfl))
  .rename_i P A
   try simp only[A]
   refine Av h rfl rfl fun env2 w E u=>?_;cases x with
   |c t=>simp[AF.ev]at A|s n=>
    simp only[AF.ev]at A;have B:env2.get n=.tp P:=(w.sl n (by simp[AE.slots,AF.sl])).tp A;simp only[AE.wp,AF.ev,B];exact u
  .exact h.elim
 |tk s=>
  simp only[AE.wp]at h|-;split at h
  .rename_i t O
   try simp only[O]
   refine ⟨h,.slot s t,rfl,O,?_,by simp,(fun s he=>by cases he),by simp[AE.wc],by simp,fun env2 w E u=>?_⟩
   .intro s' t' he;simp only[A0.slot.injEq]at he;simp[AE.yf,he.1]
   .have:=w.eff;simp only[A0.ok]at this;simp only[AE.wp,this];exact u
  .rename_i t O
   try simp only[O]
   refine Av h rfl rfl fun env2 w E u=>?_;have:=w.yf s (by simp[AE.yf]) (by simp[O]);simp only[AE.wp,this,O];exact u
  .exact h.elim
 |yw n=>exact Av h rfl rfl fun env2 w E u=>u|w3 x k=>
  simp only[AE.wp]at h|-;split at h
  .rename_i row A
   try simp only[A]
   refine Av h rfl rfl fun env2 w E u=>?_;have:=(w.ev (x:=x) (fun s h=>h)).pt A;simp only[AE.wp,this];exact u
  .rename_i s F A;split at h
   .rename_i cs O
    try simp only[A,O]
    have G:∃n∈x.sl,U.get n=.bp s F:=by
     cases x with
     |c t=>simp[AF.ev]at A|s n=>exact⟨n,by simp[AF.sl],A⟩
    obtain ⟨n,M,L⟩:=G;refine⟨h,.none,rfl,trivial,by simp,by simp,?_,by simp[AE.wc],by simp,fun env2 w E u=>?_⟩
    .intro s' he;simp only[EV.we,tg]at he;subst he;exact .inr ⟨n,M,by rw[L];rfl⟩
    .have C:=(w.ev (x:=x) (fun s h=>h)).bp A;have B:=w.bp n M s (by rw[L];rfl);rw[O]at B;obtain⟨ds,I,_⟩:=B.bx rfl;simp only[AE.wp,C,I];exact u
   .exact h.elim
  .exact h.elim
 |bad s k=>
  simp only[AE.wp]at h|-;split at h
  .rename_i cs O
   try simp only[O]
   refine ⟨h,.none,rfl,trivial,by simp,by simp,?_,by simp[AE.wc],by simp,fun env2 w E u=>?_⟩
   .intro s' he;simp only[EV.we,tg]at he;exact .inl (by simp[AE.xV,he])
   .have B:=w.sl s (by simp[AE.slots]);rw[O]at B;obtain⟨ds,I,_⟩:=B.bx rfl;simp only[AE.wp,I];exact u
  .rename_i row O
   try simp only[O]
   refine Av h rfl rfl fun env2 w E u=>?_;have:=(w.sl s (by simp[AE.slots])).pt O;simp only[AE.wp,this];exact u
  .exact h.elim
 |yb x i n=>
  simp only[AE.wp]at h|-;split at h
  .rename_i m es k j A hi
   try simp only[A,hi]
   obtain ⟨C,B,e,I,R⟩:=h;refine⟨C,B,e,I,Av R rfl rfl fun env2 w E u=>?_⟩;simp only[AE.wp,w.val (x:=x) (fun s h=>Ci h),w.val (x:=i) (fun s h=>DL h),A,hi];exact⟨C,B,e,I,u⟩
  .exact h.elim
 |y4 x i n k=>
  simp only[AE.wp]at h|-;split at h
  .rename_i row kk j A hi
   try simp only[A,hi]
   obtain ⟨C,B,I,R⟩:=h;refine⟨C,B,I,Av R rfl rfl fun env2 w E u=>?_⟩;have:=(w.ev (x:=x) (fun s h=>Ci h)).pt A;simp only[AE.wp,this,w.val (x:=i) (fun s h=>DL h),hi];exact⟨C,B,I,u⟩
  .exact h.elim
 |ld x=>
  simp only[AE.wp]at h|-;cases D:A1 U (x.ev U)with
  |none=>rw[D]at h;exact h.elim|some cs=>
   rw [D]at h;simp only[AX]at h|-;cases hf:Em cs with
   |none=>rw[hf]at h;exact h.elim|some t=>
    rw [hf]at h;refine⟨h.1,Av h.2 rfl rfl fun env2 w E u=>?_⟩;simp only[AE.wp,w.addr (x:=x) (fun s h=>h),D,AX,hf];exact⟨h.1,u⟩
 |yt x n=>
  simp only[AE.wp]at h|-;cases D:A1 U (x.ev U)with
  |none=>rw[D]at h;exact h.elim|some cs=>
   rw [D]at h;simp only[AX]at h|-;refine⟨h.1,Av h.2 rfl rfl fun env2 w E u=>?_⟩;simp only[AE.wp,w.addr (x:=x) (fun s h=>h),D,AX];exact⟨h.1,u⟩
 |zO s n=>
  simp only[AE.wp]at h|-;split at h
  .rename_i cs D
   try simp only[D]
   refine ⟨h.1,Av h.2 rfl rfl fun env2 w E u=>?_⟩;have C:=w.addr (x:=.s s) (fun s h=>h);obtain⟨ds,I,_⟩:=(w.sl s (by simp[AE.slots])).bx D;simp only[AF.ev,D,I,A1,tg]at C;simp only[AE.wp,I,C];exact⟨h.1,u⟩
  .exact h.elim
 |zL x=>
  simp only[AE.wp]at h|-;split at h
  .rename_i s F W;split at h
   .rename_i cs O;split at h
    .rename_i n es D
     try simp only[W,O,D]
     refine ⟨h,.cell s F (.list n es),by simp[A0.app,O],⟨cs,O,D⟩,by simp,?_,(fun s he=>by cases he),by simp[AE.wc],(fun s F t he=>by cases he;rfl),fun env2 w E u=>?_⟩
     .intro s' off' t' he;simp only[A0.cell.injEq]at he;obtain⟨rfl,rfl,rfl⟩:=he;cases x with
      |c t=>simp[AF.place]at W|s n=>
       simp only[AF.place]at W;split at W
       .rename_i q o H;simp only[tg,Prod.mk.injEq]at W;exact .inr ⟨n,by simp[AE.slots,AF.sl],by rw[H,W.1];rfl⟩
       .simp only[tg,Prod.mk.injEq]at W;exact .inl (by simp[AE.slots,AF.sl,W.1])
       .cases W
     .obtain⟨ds,C,B⟩:=w.eff;simp only[A0.app,C]at u;simp only[AE.wp,w.place (x:=x) (fun s h=>h),W,C,B];exact u
    .exact h.elim
   .exact h.elim
  .exact h.elim
 |bin k op x y=>
  simp only[AE.wp]at h|-;split at h
  .rename_i a b A X
   try simp only[A,X]
   cases L:Kn k op a b with
   |none=>rw[L]at h;exact h.elim|some t=>
    rw [L]at h;refine Av h rfl rfl fun env2 w E u=>?_;simp only[AE.wp,w.val (x:=x) (fun s h=>Ci h),w.val (x:=y) (fun s h=>DL h),A,X,L,AX];exact u
  .exact h.elim
 |not x=>
  simp only[AE.wp]at h|-;split at h
  .rename_i b A
   try simp only[A]
   refine Av h rfl rfl fun env2 w E u=>?_;simp only[AE.wp,w.val (x:=x) (fun s h=>h),A];exact u
  .exact h.elim
 |neg x=>
  simp only[AE.wp]at h|-;split at h
  .rename_i k n A
   try simp only[A]
   refine Av h rfl rfl fun env2 w E u=>?_;simp only[AE.wp,w.val (x:=x) (fun s h=>h),A];exact u
  .exact h.elim
 |pick c a b=>
  simp only[AE.wp]at h|-;split at h
  .rename_i q D
   try simp only[D]
   have key:∀t,((if q=true then a else b).ev U).val=some t->∀env2,D7 (.pick c a b) .none dst U env2->∀E:EV->AB->Prop,E (.tv t) env2->(AE.pick c a b).wp S env2 dst E:=by
    intro t ht env2 w E u;have hv:=w.val (x:=if q=true then a else b) (fun s h=>by
     cases q
     .exact DL (DL h)
     .exact DL (Ci h))
    simp only[AF.val]at hv;rw[ht]at hv;simp only[AE.wp,w.val (x:=c) (fun s h=>Ci h),D];cases he:(if q=true then a else b).ev env2<;>rw[he]at hv<;>simp[EV.val]at hv<;>subst hv<;>exact u
   split at h
   .rename_i t A
    try simp only[A]
    exact Av h rfl rfl (key t (by rw[A];rfl))
   .rename_i t A
    try simp only[A]
    exact Av h rfl rfl (key t (by rw[A];rfl))
   .exact h.elim
  .exact h.elim
 |len x=>
  simp only[AE.wp]at h|-;split at h
  .rename_i n es A
   try simp only[A]
   refine Av h rfl rfl fun env2 w E u=>?_;simp only[AE.wp,w.val (x:=x) (fun s h=>h),A];exact u
  .exact h.elim
 |zJ x k=>
  simp only[AE.wp]at h|-;split at h
  .rename_i row A
   try simp only[A]
   refine Av h rfl rfl fun env2 w E u=>?_;simp only[AE.wp,w.val (x:=x) (fun s h=>h),A];exact u
  .exact h.elim
 |zN x n=>
  simp only[AE.wp]at h|-;split at h
  .rename_i row A
   try simp only[A]
   refine ⟨h.1,Av h.2 rfl rfl fun env2 w E u=>?_⟩;simp only[AE.wp,w.val (x:=x) (fun s h=>h),A];exact⟨h.1,u⟩
  .exact h.elim
 |yX x=>
  simp only[AE.wp]at h|-;split at h
  .rename_i s A
   try simp only[A]
   refine Av h rfl rfl fun env2 w E u=>?_;simp only[AE.wp,w.val (x:=x) (fun s h=>h),A];exact u
  .exact h.elim
 |xu n x lo hi=>
  simp only[AE.wp]at h|-;split at h
  .rename_i m es A
   try simp only[A]
   split at h
   .rename_i k1 l k2 hh C B
    try simp only[C,B]
    refine ⟨h.1,h.2.1,Av h.2.2 rfl rfl fun env2 w E u=>?_⟩;simp only[AE.wp,w.val (x:=x) (fun s h=>Ci h),A,w.zE (x:=lo) (fun s h=>DL (Ci h)),w.zE (x:=hi) (fun s h=>DL (DL h)),C,B];exact⟨h.1,h.2.1,u⟩
   .exact h.elim
  .exact h.elim
 |xi x lo hi=>
  simp only[AE.wp]at h|-;split at h
  .rename_i str A
   try simp only[A]
   split at h
   .rename_i k1 l k2 hh C B
    try simp only[C,B]
    refine ⟨h.1,h.2.1,h.2.2.1,Av h.2.2.2 rfl rfl fun env2 w E u=>?_⟩;simp only[AE.wp,w.val (x:=x) (fun s h=>Ci h),A,w.zE (x:=lo) (fun s h=>DL (Ci h)),w.zE (x:=hi) (fun s h=>DL (DL h)),C,B];exact⟨h.1,h.2.1,h.2.2.1,u⟩
   .exact h.elim
  .exact h.elim
 |yq zero Z=>
  simp only[AE.wp]at h|-;cases D:EL U Z with
  |none=>rw[D]at h;exact h.elim|some P=>
   rw [D]at h;simp only[AX]at h|-;cases hf:EP zero P with
   |none=>rw[hf]at h;exact h.elim|some cs=>
    rw [hf]at h;refine Av h rfl rfl fun env2 w E u=>?_;simp only[AE.wp,w.parts (xs:=Z) (fun s h=>h),D,AX,hf];exact u
 |yI n Z=>
  simp only[AE.wp]at h|-;cases D:Go.Sf.vals U Z with
  |none=>rw[D]at h;exact h.elim|some P=>
   rw [D]at h;simp only[AX]at h|-;refine⟨h.1,Av h.2 rfl rfl fun env2 w E u=>?_⟩;simp only[AE.wp,w.vals (xs:=Z) (fun s h=>h),D,AX];exact⟨h.1,u⟩
 |app n x y=>
  simp only[AE.wp]at h|-;split at h
  .rename_i m es m' fs A X
   try simp only[A,X]
   obtain ⟨C,B,I,R⟩:=h;cases x with
   |c t=>simp[AF.ev]at A|s s=>
    simp only[AF.ev]at A;subst C;refine⟨rfl,B,I,R,.slot s (.list m es),rfl,A,?_,by simp,(fun s he=>by cases he),by simp[AE.wc],by simp,fun env2 w E u=>?_⟩
    .intro s' t' he;simp only[A0.slot.injEq]at he;simp[AE.yf,AF.sl,he.1]
    .have:=w.eff;simp only[A0.ok]at this;simp only[AE.wp,AF.ev,this,w.val (x:=y) (fun s h=>DL h),X];exact⟨trivial,B,I,u⟩
  .exact h.elim
 |call g xs=>
  simp only[AE.wp]at h|-;cases D:Go.Sf.vals U xs with
  |none=>rw[D]at h;exact h.elim|some P=>
   rw [D]at h;simp only[AX]at h|-;obtain⟨r,C,B⟩:=h;refine⟨r,C,fun T=>Av (B T) rfl (by cases r<;>rfl) fun env2 w E u=>?_⟩;simp only[AE.wp,w.vals (xs:=xs) (fun s h=>h),D,AX];exact⟨r,C,fun _=>u⟩
 |ye x xs=>
  simp only[AE.wp]at h|-;split at h
  .rename_i g caps P A D
   try simp only[A,D]
   obtain ⟨r,C,B⟩:=h;refine⟨r,C,fun T=>Av (B T) rfl (by cases r<;>rfl) fun env2 w E u=>?_⟩;simp only[AE.wp,w.val (x:=x) (fun s h=>Ci h),w.vals (xs:=xs) (fun s h=>DL h),A,D];exact⟨r,C,fun _=>u⟩
  .exact h.elim
 |w8 g xs=>
  simp only[AE.wp]at h|-;cases D:Go.Sf.vals U xs with
  |none=>rw[D]at h;exact h.elim|some P=>
   rw [D]at h;simp only[AX]at h|-;refine Av h rfl rfl fun env2 w E u=>?_;simp only[AE.wp,w.vals (xs:=xs) (fun s h=>h),D,AX];exact u
 |ext x i=>
  simp only[AE.wp]at h|-;split at h
  .rename_i P A
   try simp only[A]
   cases hf:P[i]? with
   |none=>rw[hf]at h;exact h.elim|some t=>
    rw [hf]at h;refine Av h rfl rfl fun env2 w E u=>?_;have:=(w.ev (x:=x) (fun s h=>h)).tp A;simp only[AE.wp,this,hf,AX];exact u
  .exact h.elim
 |yA k x=>
  simp only[AE.wp]at h|-;split at h
  .rename_i k n A
   try simp only[A]
   refine Av h rfl rfl fun env2 w E u=>?_;simp only[AE.wp,w.val (x:=x) (fun s h=>h),A];exact u
  .exact h.elim
 |xc x i=>
  simp only[AE.wp]at h|-;split at h
  .rename_i str k j A hi
   try simp only[A,hi]
   obtain ⟨C,b,B,I⟩:=h;refine⟨C,b,B,Av I rfl rfl fun env2 w E u=>?_⟩;simp only[AE.wp,w.val (x:=x) (fun s h=>Ci h),w.val (x:=i) (fun s h=>DL h),A,hi];exact⟨C,b,B,u⟩
  .exact h.elim
 |yr x=>
  simp only[AE.wp]at h|-;split at h
  .rename_i t A
   try simp only[A]
   refine Av h rfl rfl fun env2 w E u=>?_;simp only[AE.wp,w.val (x:=x) (fun s h=>h),A];exact u
  .exact h.elim
 |yK x=>
  simp only[AE.wp]at h|-;split at h
  .rename_i t d A
   try simp only[A]
   refine ⟨h.1,h.2,.none,rfl,trivial,by simp,by simp,(fun s he=>by cases he),fun _=>⟨rfl,fun d' hd=>?_⟩,by simp,fun env2 w E u=>?_⟩
   .simp only[tg]at hd;subst hd;exact h.1
   .simp only[AE.wp,w.val (x:=x) (fun s h=>h),A];exact⟨w.new rfl _ rfl h.1,u⟩
  .exact h.elim
 |mm mx x y=>
  simp only[AE.wp]at h|-;split at h
  .rename_i k a k' b A X
   try simp only[A,X]
   refine ⟨h.1,Av h.2 rfl rfl fun env2 w E u=>?_⟩;simp only[AE.wp,w.val (x:=x) (fun s h=>Ci h),w.val (x:=y) (fun s h=>DL h),A,X];exact⟨h.1,u⟩
  .exact h.elim
 |yY cs=>
  simp only[AE.wp]at h|-;split at h
  .rename_i d;refine⟨h.1,h.2,.none,rfl,trivial,by simp,by simp,(fun s he=>by cases he),fun _=>⟨rfl,fun d' hd=>?_⟩,by simp,fun env2 w E u=>?_⟩
   .simp only[tg]at hd;subst hd;exact h.1
   .simp only[AE.wp];exact⟨w.new rfl _ rfl h.1,u⟩
  .exact h.elim
 |st n x v=>cases J
 |yy n s v=>cases J
 |ze s=>cases J
 |zg s=>
  simp only[AE.wp]at h|-;split at h
  .rename_i n es O
   try simp only[O]
   refine ⟨h,.none,rfl,trivial,by simp,by simp,?_,by simp[AE.wc],by simp,fun env2 w E u=>?_⟩
   .intro s' he;simp only[EV.we,tg]at he;exact .inl (by simp[AE.xV,he])
   .have B:=(w.sl s (by simp[AE.slots])).xo O;simp only[AE.wp,B];exact u
  .exact h.elim
 |yD x=>
  simp only[AE.wp]at h|-;cases A:x.wn U with
  |none=>rw[A]at h;exact h.elim|some p=>
   rw [A]at h;simp only[AX]at h|-;refine Av h rfl rfl fun env2 w E u=>?_;simp only[AE.wp,w.wn (x:=x) (fun s h=>h),A,AX];exact u
 |zu x=>
  simp only[AE.wp]at h|-;split at h
  .rename_i s F A;cases H:U.nat s F with
   |none=>rw[H]at h;exact h.elim|some es=>
    rw [H]at h;simp only[AX]at h
    try simp only[A,H]
    have G:∃n∈x.sl,U.get n=.bp s F:=by
     cases x with
     |c t=>simp[AF.ev]at A|s n=>exact⟨n,by simp[AF.sl],A⟩
    obtain ⟨n,M,L⟩:=G;refine⟨h,.none,rfl,trivial,by simp,by simp,?_,by simp[AE.wc],by simp,fun env2 w E u=>?_⟩
    .intro s' he;simp only[EV.we,tg]at he;subst he;exact .inr ⟨n,M,by rw[L];rfl⟩
    .have C:=(w.ev (x:=x) (fun s h=>h)).bp A;have B:=(w.bp n M s (by rw[L];rfl)).nat F;rw[H]at B;simp only[AE.wp,C,B,AX];exact u
  .exact h.elim
 |zj x=>
  simp only[AE.wp]at h|-;split at h
  .rename_i s F r A;cases H:U.nat s F with
   |none=>rw[H]at h;exact h.elim|some es=>
    rw [H]at h;simp only[AX]at h;obtain⟨Y,h⟩:=h
    try simp only[A,H]
    have G:∃n∈x.sl,U.get n=.nh s F (.el r):=by
     cases x with
     |c t=>simp[AF.ev]at A|s n=>exact⟨n,by simp[AF.sl],A⟩
    obtain ⟨n,M,L⟩:=G;refine⟨Y,h,.none,rfl,trivial,by simp,by simp,?_,by simp[AE.wc],by simp,fun env2 w E u=>?_⟩
    .intro s' he;simp only[EV.we,tg]at he;subst he;exact .inr ⟨n,M,by rw[L];rfl⟩
    .have C:=(w.ev (x:=x) (fun s h=>h)).nh A;have B:=(w.bp n M s (by rw[L];rfl)).nat F;rw[H]at B;simp only[AE.wp,C,B,AX];exact⟨Y,u⟩
  .exact h.elim
 |yO x i=>
  simp only[AE.wp]at h|-;split at h
  .rename_i s F k j A V;cases H:U.nat s F with
   |none=>rw[H]at h;exact h.elim|some es=>
    rw [H]at h;simp only[AX]at h;obtain⟨Y,I,h⟩:=h
    try simp only[A,V,H]
    have G:∃n∈x.sl,U.get n=.nh s F .hd:=by
     cases x with
     |c t=>simp[AF.ev]at A|s n=>exact⟨n,by simp[AF.sl],A⟩
    obtain ⟨n,M,L⟩:=G;refine⟨Y,I,h,.none,rfl,trivial,by simp,by simp,?_,by simp[AE.wc],by simp,fun env2 w E u=>?_⟩
    .intro s' he;simp only[EV.we,tg]at he;subst he;exact .inr ⟨n,Ci M,by rw[L];rfl⟩
    .have C:=(w.ev (x:=x) (fun s h=>Ci h)).nh A;have e2:=w.val (x:=i) (fun s h=>DL h);have B:=(w.bp n (Ci M) s (by rw[L];rfl)).nat F;rw[H]at B;simp only[AE.wp,C,e2,V,B,AX];exact⟨Y,I,u⟩
  .rename_i s F r k j A V;cases H:U.nat s F with
   |none=>rw[H]at h;exact h.elim|some es=>
    rw [H]at h;simp only[AX]at h;obtain⟨Y,fs,I,R,h⟩:=h
    try simp only[A,V,H]
    have G:∃n∈x.sl,U.get n=.nh s F (.rw r):=by
     cases x with
     |c t=>simp[AF.ev]at A|s n=>exact⟨n,by simp[AF.sl],A⟩
    obtain ⟨n,M,L⟩:=G;refine⟨Y,fs,I,R,h,.none,rfl,trivial,by simp,by simp,?_,by simp[AE.wc],by simp,fun env2 w E u=>?_⟩
    .intro s' he;simp only[EV.we,tg]at he;subst he;exact .inr ⟨n,Ci M,by rw[L];rfl⟩
    .have C:=(w.ev (x:=x) (fun s h=>Ci h)).nh A;have e2:=w.val (x:=i) (fun s h=>DL h);have B:=(w.bp n (Ci M) s (by rw[L];rfl)).nat F;rw[H]at B;simp only[AE.wp,C,e2,V,B,AX];exact⟨Y,fs,I,R,u⟩
  .exact h.elim
 |zT x=>
  simp only[AE.wp]at h|-;split at h
  .rename_i s F A;split at h
   .rename_i p H
    try simp only[A,H]
    have G:∃n∈x.sl,U.get n=.bp s F:=by
     cases x with
     |c t=>simp[AF.ev]at A|s n=>exact⟨n,by simp[AF.sl],A⟩
    obtain ⟨n,M,L⟩:=G;refine⟨h,.none,rfl,trivial,by simp,by simp,?_,by simp[AE.wc],by simp,fun env2 w E u=>?_⟩
    .intro s' he;simp only[EV.we,tg]at he;subst he;exact .inr ⟨n,M,by rw[L];rfl⟩
    .have C:=(w.ev (x:=x) (fun s h=>h)).bp A;have B:=(w.bp n M s (by rw[L];rfl)).tl (some F);rw[H]at B;simp only[AE.wp,C,B];exact u
   .exact h.elim
  .exact h.elim
 |zb _=>cases J
 |zp _ _=>cases J
 |cut _ _ _=>cases J
 |yj _ _ _ _=>cases J
 |xZ g xs=>
  simp only[AE.wp]at h|-;cases D:Go.Sf.vals U xs with
  |none=>rw[D]at h;exact h.elim|some P=>
   rw [D]at h;simp only[AX]at h|-;obtain⟨r,C,B⟩:=h;refine⟨r,C,Av B rfl rfl fun env2 w E u=>?_⟩;simp only[AE.wp,w.vals (xs:=xs) (fun s h=>h),D,AX];exact⟨r,C,u⟩
 |w6 _ _ _=>cases J
 |xD g xs=>
  simp only[AE.wp]at h|-;cases D:Go.Sf.wN U xs with
  |none=>rw[D]at h;exact h.elim|some P=>
   rw [D]at h;simp only[AX]at h|-;obtain⟨r,C,B⟩:=h;refine⟨r,C,fun T=>Av (B T) rfl (by cases r<;>rfl) fun env2 w E u=>?_⟩;simp only[AE.wp,w.wN (xs:=xs) (fun s h=>h),D,AX];exact⟨r,C,fun _=>u⟩
 |yn Z x=>
  simp only[AE.wp]at h|-;split at h
  .rename_i t d A
   try simp only[A]
   cases D:EA Z t.cells with
   |none=>rw[D]at h;exact h.elim|some cs=>
    rw [D]at h;simp only[AX]at h|-;refine⟨h.1,h.2,.none,rfl,trivial,by simp,by simp,(fun s he=>by cases he),fun _=>⟨rfl,fun d' hd=>?_⟩,by simp,fun env2 w E u=>?_⟩
    .simp only[tg]at hd;subst hd;exact h.1
    .simp only[AE.wp,w.val (x:=x) (fun s h=>h),A,D,AX];exact⟨w.new rfl _ rfl h.1,u⟩
  .exact h.elim
 |zy x i n=>
  simp only[AE.wp]at h|-;cases A:x.wn U with
  |none=>rw[A]at h;exact h.elim|some p=>
   rw [A]at h;simp only[AX]at h|-;split at h
   .rename_i ik j V
    try simp only[V]
    obtain ⟨⟨C,B⟩,I,R,h5⟩:=h;have G:∃n∈x.sl,(U.get n).we=some p.1.1:=by
     cases x with
     |c t=>simp[AF.ev,EV.we]at C|s n=>exact⟨n,by simp[AF.sl],C⟩
    obtain ⟨m,hm',hr⟩:=G;refine⟨⟨C,B⟩,I,R,h5,.none,rfl,trivial,by simp,by simp,?_,by simp[AE.wc],by simp,fun env2 w E u=>?_⟩
    .intro s' he;simp only[EV.we,tg]at he;subst he;exact .inr ⟨m,Ci hm',hr⟩
    .have e1:=w.wn (x:=x) (fun s h=>Ci h);have e2:=w.val (x:=i) (fun s h=>DL h);have Q:=(w.ev (x:=x) (fun s h=>Ci h)).we;simp only[AE.wp,e1,A,e2,V,AX,Q,C];exact⟨⟨trivial,B⟩,I,R,u⟩
   .exact h.elim
 |xfa x k=>
  simp only[AE.wp]at h|-;split at h
  .rename_i q i c A;split at h
   .rename_i p H
    try simp only[A,H]
    have G:∃n∈x.sl,U.get n=.lp q i c:=by
     cases x with
     |c t=>simp[AF.ev]at A|s n=>exact⟨n,by simp[AF.sl],A⟩
    obtain ⟨n,M,L⟩:=G;refine⟨h,.none,rfl,trivial,by simp,by simp,?_,by simp[AE.wc],by simp,fun env2 w E u=>?_⟩
    .intro s' he;simp only[EV.we,tg]at he;subst he;exact .inr ⟨n,M,by rw[L];rfl⟩
    .have C:=(w.ev (x:=x) (fun s h=>h)).yi (q:=q) (by rw[A];rfl);have B:=(w.bp n M q (by rw[L];rfl)).tl i;rw[H]at B;simp only[AE.wp,C,A,B];exact u
   .exact h.elim
  .exact h.elim
 |zv x i n=>
  simp only[AE.wp]at h|-;split at h
  .rename_i q ik j A V;split at h
   .rename_i m es H
    try simp only[A,V,H]
    have G:∃n∈x.sl,U.get n=.la q none:=by
     cases x with
     |c t=>simp[AF.ev]at A|s n=>exact⟨n,by simp[AF.sl],A⟩
    obtain ⟨k,hk,L⟩:=G;obtain⟨C,B,I,R⟩:=h;refine⟨C,B,I,R,.none,rfl,trivial,by simp,by simp,?_,by simp[AE.wc],by simp,fun env2 w E u=>?_⟩
    .intro s' he;simp only[EV.we,tg]at he;subst he;exact .inr ⟨k,Ci hk,by rw[L];rfl⟩
    .have e1:=(w.ev (x:=x) (fun s h=>Ci h)).yi (q:=q) (by rw[A];rfl);have e2:=w.val (x:=i) (fun s h=>DL h);have Q:=(w.bp k (Ci hk) q (by rw[L];rfl)).tl none;simp only[AB.tl,H]at Q;have e4:env2.get q=.xo m es:=by
      cases he:env2.get q<;>rw[he]at Q<;>simp at Q;rw[Q.1,Q.2]
     simp only[AE.wp,e1,A,e2,V,e4];exact⟨C,B,I,u⟩
   .exact h.elim
  .exact h.elim
 |y8 x=>
  simp only[AE.wp]at h|-;split at h
  .rename_i q c A;split at h
   .rename_i m es H
    try simp only[A,H]
    cases D:(es.flatMap TV.cells)[c]? with
    |none=>rw[D]at h;exact h.elim|some t=>
     rw [D]at h;simp only[AX]at h|-;have G:∃n∈x.sl,U.get n=.lp q none c:=by
      cases x with
      |c t=>simp[AF.ev]at A|s n=>exact⟨n,by simp[AF.sl],A⟩
     obtain ⟨n,M,L⟩:=G;refine Av h rfl rfl fun env2 w E u=>?_;have C:=(w.ev (x:=x) (fun s h=>h)).yi (q:=q) (by rw[A];rfl);have Q:=(w.bp n M q (by rw[L];rfl)).tl none;simp only[AB.tl,H]at Q;have e4:env2.get q=.xo m es:=by
      cases he:env2.get q<;>rw[he]at Q<;>simp at Q;rw[Q.1,Q.2]
     simp only[AE.wp,C,A,e4,D,AX];exact u
   .exact h.elim
  .exact h.elim
 |zD x=>
  simp only[AE.wp]at h|-;split at h
  .rename_i q i c A;split at h
   .rename_i p H
    try simp only[A,H]
    cases D:(p.2.flatMap TV.cells)[c]? with
    |none=>rw[D]at h;exact h.elim|some t=>
     rw [D]at h;simp only[AX]at h|-;have G:∃n∈x.sl,U.get n=.lp q i c:=by
      cases x with
      |c t=>simp[AF.ev]at A|s n=>exact⟨n,by simp[AF.sl],A⟩
     obtain ⟨n,M,L⟩:=G;refine Av h rfl rfl fun env2 w E u=>?_;have C:=(w.ev (x:=x) (fun s h=>h)).yi (q:=q) (by rw[A];rfl);have B:=(w.bp n M q (by rw[L];rfl)).tl i;rw[H]at B;simp only[AE.wp,C,A,B,D,AX];exact u
   .exact h.elim
  .exact h.elim
 |yx _ _ _=>cases J
 |rel _=>cases J
 |yd _=>cases J
 |yW _=>cases J
 |x4 _ _ _=>cases J
 |xz g xs=>
  simp only[AE.wp]at h|-;split at h
  .rename_i d;obtain⟨N,h⟩:=h;refine⟨N,?_⟩;cases D:Go.Sf.vals U xs with
   |none=>rw[D]at h;exact h.elim|some P=>
    rw [D]at h;simp only[AX]at h|-;obtain⟨n,es,C,B⟩:=h;refine⟨n,es,C,fun T=>⟨B T,.none,rfl,trivial,by simp,by simp,(fun s he=>by cases he),fun _=>⟨rfl,fun d' hd=>?_⟩,by simp,fun env2 w E u=>?_⟩⟩
    .simp only[tg]at hd;subst hd;exact N
    .simp only[AE.wp,w.vals (xs:=xs) (fun s h=>h),D,AX];exact⟨w.new rfl _ rfl N,n,es,C,fun _=>u⟩
  .exact h.elim
 |yR n z x=>
  simp only[AE.wp]at h|-;split at h
  .rename_i d k j A
   try simp only[A]
   obtain ⟨N,C,B,I⟩:=h;refine⟨N,C,B,I,.none,rfl,trivial,by simp,by simp,(fun s he=>by cases he),fun _=>⟨rfl,fun d' hd=>?_⟩,by simp,fun env2 w E u=>?_⟩
   .simp only[tg]at hd;subst hd;exact N
   .simp only[AE.wp,w.val (x:=x) (fun s h=>h),A];exact⟨w.new rfl _ rfl N,C,B,u⟩
  .exact h.elim
 |yg n z x=>
  simp only[AE.wp]at h|-;split at h
  .rename_i d k j A
   try simp only[A]
   obtain ⟨N,C,B,I⟩:=h;refine⟨N,C,B,I,.none,rfl,trivial,by simp,by simp,(fun s he=>by cases he),fun _=>⟨rfl,fun d' hd=>?_⟩,by simp,fun env2 w E u=>?_⟩
   .simp only[tg]at hd;subst hd;exact N
   .simp only[AE.wp,w.val (x:=x) (fun s h=>h),A];exact⟨w.new rfl _ rfl N,C,B,u⟩
  .exact h.elim
 |xk _ _ _=>cases J
 |xP _ _=>cases J
 |wP _=>cases J
 |yv _=>cases J
 |xC _ _=>cases J
 |yP _ _=>cases J
 |yH _=>cases J
 |xF _ _ _=>cases J
 |ldg _ _=>cases J
 |zh _ _ _ _=>cases J
 |yQ=>cases J
 |zI _=>cases J
 |xw _ _=>cases J
 |zK _ _ _=>cases J
 |zi _ _ _ _=>cases J
 |wi _ _=>cases J
 |zm _=>cases J
 |zr _=>cases J
 |ym _=>cases J
 |stx _ _ _=>cases J
 |y9 _=>cases J
 |xY g xs=>
  simp only[AE.wp]at h|-;cases D:Go.Sf.wN U xs with
  |none=>rw[D]at h;exact h.elim|some P=>
   rw [D]at h;simp only[AX]at h|-;obtain⟨r,C,B⟩:=h;refine⟨r,C,fun T=>Av (B T) rfl rfl fun env2 w E u=>?_⟩;simp only[AE.wp,w.wN (xs:=xs) (fun s h=>h),w.vals (xs:=xs) (fun s h=>h),D,AX];exact⟨r,C,fun _=>u⟩
 |xj g xs=>
  simp only[AE.wp]at h|-;cases D:Go.Sf.vals U xs with
  |none=>rw[D]at h;exact h.elim|some P=>
   rw [D]at h;simp only[AX]at h|-;obtain⟨r,C,I,B⟩:=h;refine⟨r,C,I,fun T=>Av (B T) rfl rfl fun env2 w E u=>?_⟩;simp only[AE.wp,w.vals (xs:=xs) (fun s h=>h),D,AX];exact⟨r,C,I,fun _=>u⟩
 |yG x k n agg=>
  simp only[AE.wp]at h|-;split at h
  .rename_i cs A
   try simp only[A]
   obtain ⟨C,B⟩:=h;refine⟨C,?_⟩;cases agg with
   |true=>
    simp only[if_true]at B|-;refine Av B rfl rfl fun env2 w E u=>?_;simp only[AE.wp,w.val (x:=x) (fun s h=>h),A,if_true];exact⟨C,u⟩
   |false=>
    simp only[Bool.false_eq_true,if_false]at B|-;cases D:Em (cs.drop k)with
    |none=>rw[D]at B;exact B.elim|some t=>
     rw [D]at B;simp only[AX]at B|-;refine Av B rfl rfl fun env2 w E u=>?_;simp only[AE.wp,w.val (x:=x) (fun s h=>h),A,Bool.false_eq_true,if_false,D,AX];exact⟨C,u⟩
  .exact h.elim
end
end Go.Sf
