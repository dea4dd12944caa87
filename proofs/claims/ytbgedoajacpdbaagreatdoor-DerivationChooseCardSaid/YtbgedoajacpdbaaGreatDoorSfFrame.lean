/- What an operation leans on: the slots that it reads, whether or not they own their lists. -/
import Derived.Test.YtbgedoajacpdbaaGreatDoorSfCode
set_option linter.all false
namespace Go.Sf
theorem iv{cs ds:List AQ}(h:ds.map AQ.key=cs.map AQ.key):ds.map (·.t)=cs.map (·.t):=by
 have:=congrArg (List.map Prod.fst) h;simpa[List.map_map,Function.comp_def,AQ.key]using this
def ZT(p:TV×Bool):TV:=match p with
 |(.xl n es,true)=>.list n es|p=>p.1
theorem Xg{cs ds:List AQ}(h:ds.map AQ.key=cs.map AQ.key):ds.map AQ.Abx=cs.map AQ.Abx:=by
 have a:∀c:AQ,c.Abx=ZT c.key:=by
  rintro ⟨_|_,t⟩<;>cases t<;>rfl
 have:=congrArg (List.map ZT) h;simpa[List.map_map,Function.comp_def,<-a]using this
def rR(p:TV×Bool):Option (Nat×Fq):=match p with
 |(.xl n es,true)=>some (n,es)|_=>none
theorem nK{cs ds:List AQ}(h:ds.map AQ.key=cs.map AQ.key)(k:Nat):(match ds[k]? with
  |some ⟨true,.xl n es⟩=>some (n,es)|_=>none)=(match cs[k]? with
  |some ⟨true,.xl n es⟩=>some (n,es)|_=>none):=by
 have a:∀o:Option AQ,(match o with
  |some ⟨true,.xl n es⟩=>some (n,es)|_=>none)=(o.map AQ.key).bind rR:=by
  rintro (_|⟨_|_,t⟩)
  .rfl
  .cases t<;>rfl
  .cases t<;>rfl
 rw [a,a];have:=congrArg (fun l=>l[k]?) h;simp only[List.getElem?_map]at this;rw[this]
def rS(p:TV×Bool):Option Fq:=match p with
 |(.xn es,true)=>some es|_=>none
theorem nL{cs ds:List AQ}(h:ds.map AQ.key=cs.map AQ.key)(k:Nat):(match ds[k]? with
  |some ⟨true,.xn es⟩=>some es|_=>none)=(match cs[k]? with
  |some ⟨true,.xn es⟩=>some es|_=>none):=by
 have a:∀o:Option AQ,(match o with
  |some ⟨true,.xn es⟩=>some es|_=>none)=(o.map AQ.key).bind rS:=by
  rintro (_|⟨_|_,t⟩)
  .rfl
  .cases t<;>rfl
  .cases t<;>rfl
 rw [a,a];have:=congrArg (fun l=>l[k]?) h;simp only[List.getElem?_map]at this;rw[this]
def EV.like(e e2:EV):Prop:=
 e2=e\/(∃n es,(e=.tv (.list n es)/\e2=.ow (.list n es))\/(e=.ow (.list n es)/\e2=.tv (.list n es)))\/∃cs ds,e=.bx cs/\e2=.bx ds/\ds.map AQ.key=cs.map AQ.key
theorem EV.like.rfl'(e:EV):e.like e:=.inl rfl
variable{e e2:EV}
theorem EV.like.symm(h:e.like e2):e2.like e:=by
 rcases h with rfl|⟨n,es,⟨rfl,rfl⟩|⟨rfl,rfl⟩⟩|⟨cs,ds,rfl,rfl,h⟩
 .exact .inl rfl
 .exact .inr (.inl ⟨n,es,.inr ⟨rfl,rfl⟩⟩)
 .exact .inr (.inl ⟨n,es,.inl ⟨rfl,rfl⟩⟩)
 .exact .inr (.inr ⟨ds,cs,rfl,rfl,h.symm⟩)
theorem EV.like.ref(h:e.like e2):e2.ref=e.ref:=by
 rcases h with rfl|⟨n,es,⟨rfl,rfl⟩|⟨rfl,rfl⟩⟩|⟨cs,ds,rfl,rfl,h⟩<;>rfl
variable{q:Nat}
theorem EV.like.AbQ(h:e.like e2)(a:e.ref=some q):e2=e:=by
 rcases h with rfl|⟨n,es,⟨rfl,rfl⟩|⟨rfl,rfl⟩⟩|⟨cs,ds,rfl,rfl,h⟩
 .rfl
 .cases a
 .cases a
 .cases a
theorem EV.like.xo(h:e.like e2){n:Nat}{es:Fq}(he:e=.xo n es):e2=.xo n es:=by
 subst he;rcases h with rfl|⟨n,es,⟨h,_⟩|⟨h,_⟩⟩|⟨cs,ds,h,_⟩
 .rfl
 .cases h
 .cases h
 .cases h
theorem EV.like.val(h:e.like e2):e2.val=e.val:=by
 rcases h with rfl|⟨n,es,⟨rfl,rfl⟩|⟨rfl,rfl⟩⟩|⟨cs,ds,rfl,rfl,h⟩<;>rfl
theorem EV.like.pt(h:e.like e2){row:Fq}(he:e=.tv (.pt row)):e2=.tv (.pt row):=by
 subst he;rcases h with rfl|⟨n,es,⟨h,rfl⟩|⟨h,rfl⟩⟩|⟨cs,ds,h,rfl,a⟩
 .rfl
 .simp at h
 .cases h
 .cases h
theorem EV.like.bp(h:e.like e2){q a:Nat}(he:e=.bp q a):e2=.bp q a:=by
 subst he;rcases h with rfl|⟨n,es,⟨h,rfl⟩|⟨h,rfl⟩⟩|⟨cs,ds,h,rfl,b⟩
 .rfl
 .cases h
 .cases h
 .cases h
theorem EV.like.tp(h:e.like e2){a:Fq}(he:e=.tp a):e2=.tp a:=by
 subst he;rcases h with rfl|⟨n,es,⟨h,rfl⟩|⟨h,rfl⟩⟩|⟨cs,ds,h,rfl,b⟩
 .rfl
 .cases h
 .cases h
 .cases h
theorem EV.like.bx(h:e.like e2){cs:List AQ}(he:e=.bx cs):∃ds,e2=.bx ds/\ds.map AQ.key=cs.map AQ.key:=by
 subst he;rcases h with rfl|⟨n,es,⟨h,rfl⟩|⟨h,rfl⟩⟩|⟨cs',ds,h,rfl,a⟩
 .exact⟨cs,rfl,rfl⟩
 .cases h
 .cases h
 .simp only[EV.bx.injEq]at h;subst h;exact⟨ds,rfl,a⟩
def AF.sl:AF->Ne
 |.s n=>[n]|.c _=>[]
def Ug:Option AF->Ne
 |some x=>x.sl|none=>[]
def Fo:List AF->Ne
 |[]=>[]|x::xs=>x.sl++Fo xs
def St:List (Nat×Nat×AF)->Ne
 |[]=>[]|x::xs=>x.2.2.sl++St xs
def AE.slots:AE->Ne
 |.mv x=>x.sl|.tk s=>[s]|.Aby _=>[]|.fad x _=>x.sl|.bad s _=>[s]|.iad x i _=>x.sl++i.sl|.aad x i _ _=>x.sl++i.sl|.ld x=>x.sl|.lda x _=>x.sl|.ldb s _=>[s]|.ldt x=>x.sl|.bin _ _ x y=>x.sl++y.sl|.not x=>x.sl|.neg x=>x.sl|.pick c a b=>c.sl++(a.sl++b.sl)|.len x=>x.sl|.AbK x=>x.sl|.slc _ x lo hi=>x.sl++(Ug lo++Ug hi)|.AaH x lo hi=>x.sl++(Ug lo++Ug hi)|.bld _ ps=>St ps|.lst _ ps=>Fo ps|.app _ x y=>x.sl++y.sl|.call _ xs=>Fo xs|.AaK x xs=>x.sl++Fo xs|.clo _ xs=>Fo xs|.ext x _=>x.sl|.cvt _ x=>x.sl|.AaC x i=>x.sl++i.sl|.Abs x=>x.sl|.Abu x=>x.sl|.mm _ x y=>x.sl++y.sl|.alc _=>[]|.st _ x v=>x.sl++v.sl|.stb _ s v=>s::v.sl|.frz s=>[s]|.AbE x _ _ _=>x.sl|.xal s=>[s]|.AbD x=>x.sl|.xia x i _=>x.sl++i.sl|.xfa x _=>x.sl|.xld x=>x.sl|.xst x v _=>x.sl++v.sl|.rel s=>[s]|.Abk _=>[]|.Abl _=>[]|.tkx s=>[s]|.Abh _ s y=>s::y.sl|.AaL _ xs=>Fo xs|.mkx _ _ x=>x.sl|.AaS _ x=>x.sl|.AaW _ x=>x.sl|.Aaz gs=>gs.flatMap GC.sl|.stx _ s q=>[s,q]|.Aa1 _ xs=>Fo xs|.AaN _ xs=>Fo xs|.isn x=>x.sl|.fdv x _=>x.sl|.ldv x _=>x.sl|.lac x=>x.sl|.ctk x=>x.sl|.cpt x q=>x.sl++[q]|.cut _ s hi=>s::hi.sl|.AaI _ xs=>Fo xs|.Abt _ x=>x.sl|.Abj _ s _ x=>s::x.sl|.Aa3 _ xs=>Fo xs|.AaE _ xs _=>Fo xs|.Abv q=>[q]|.Aa0 s q=>[s,q]|.lan x=>x.sl|.nia x i=>x.sl++i.sl|.nld x=>x.sl|.nst x v=>x.sl++v.sl|.AbF q=>[q]|.AaT _ xs _=>Fo xs|.ldg s _=>[s]|.stq _ _ x v=>x.sl++v.sl|.mkm=>[]|.mvm s=>[s]|.AaU _ xs=>Fo xs|.mlk s m x=>s::(m.sl++x.sl)|.mup s m x v=>s::(m.sl++(x.sl++v.sl))|.mrg s m=>s::m.sl|.mnx s=>[s]|.men s=>[s]
def AE.dem:AE->Ne
 |.tk s=>[s]|.app _ x _=>x.sl|_=>[]
def AE.mov:AE->Bool
 |.st ..=>false|.stb ..=>false|.frz _=>false|.xst ..=>false|.rel _=>false|.Abk _=>false|.Abl _=>false|.tkx _=>false|.Abh ..=>false|.AaS ..=>false|.AaW ..=>false|.Aaz _=>false|.stx ..=>false|.isn _=>false|.ctk _=>false|.cpt ..=>false|.cut ..=>false|.Abj ..=>false|.AaE ..=>false|.Abv _=>false|.Aa0 ..=>false|.nst ..=>false|.AbF _=>false|.AaT ..=>false|.ldg ..=>false|.stq ..=>false|.mkm=>false|.mvm _=>false|.AaU ..=>false|.mlk ..=>false|.mup ..=>false|.mrg ..=>false|.mnx _=>false|.men _=>false|_=>true
def AE.zt:AE->Bool
 |.alc _=>true|.Abu _=>true|.Abt ..=>true|.AaL ..=>true|.mkx ..=>true|_=>false
def AE.Abe:AE->Ne
 |.bad s _=>[s]|.xal s=>[s]|_=>[]
inductive A3 where
 |none
 |slot (s:Nat) (t:TV)
 |cell (s off:Nat) (t:TV)
def A3.app:A3->AB->AB
 |.none,O=>O|.slot s t,O=>(s,.tv t)::O|.cell s off t,O=>match O.get s with
  |.bx cs=>(s,.bx (cs.set off ⟨false,t⟩))::O|_=>O
def A3.ok:A3->AB->Prop
 |.none,_=>True|.slot s t,O=>O.get s=.ow t|.cell s off t,O=>∃cs,O.get s=.bx cs/\cs[off]?=some ⟨true,t⟩
structure Dw(op:AE)(f:A3)(dst:Option Nat)(O env2:AB):Prop where
 sl:∀s∈op.slots,(O.get s).like (env2.get s)
 bp:∀s∈op.slots,∀q,(O.get s).ref=some q->(O.get q).like (env2.get q)
 dem:∀s∈op.dem,(∀cs,O.get s≠.bx cs)->env2.get s=O.get s
 eff:f.ok env2
 new:op.zt=true->∀d,dst=some d->O.jj d=true->env2.jj d=true
section
variable{op:AE}{f:A3}{dst:Option Nat}{O env2:AB}
variable{x:AF}
theorem Dw.val(h:Dw op f dst O env2)(a:∀s∈x.sl,s∈op.slots):x.val env2=x.val O:=by
 cases x with
 |c t=>rfl|s n=>exact(h.sl n (a n (by simp[AF.sl]))).val
theorem Dw.ev(h:Dw op f dst O env2)(a:∀s∈x.sl,s∈op.slots):(x.ev O).like (x.ev env2):=by
 cases x with
 |c t=>exact .inl rfl|s n=>exact h.sl n (a n (by simp[AF.sl]))
theorem Dw.vals(h:Dw op f dst O env2):∀{xs:List AF},(∀s∈Fo xs,s∈op.slots)->Go.Sf.vals env2 xs=Go.Sf.vals O xs
 |[],_=>rfl|x::xs,b=>by
  simp only[Fo,List.mem_append]at b;simp only[Go.Sf.vals,h.val (x:=x) (fun s a=>b s (.inl a)),h.vals (xs:=xs) (fun s a=>b s (.inr a))]
theorem Dw.parts(h:Dw op f dst O env2):∀{xs:List (Nat×Nat×AF)},(∀s∈St xs,s∈op.slots)->F5 env2 xs=F5 O xs
 |[],_=>rfl|(i,n,x)::xs,b=>by
  simp only[St,List.mem_append]at b;simp only[F5,h.val (x:=x) (fun s a=>b s (.inl a)),h.parts (xs:=xs) (fun s a=>b s (.inr a))]
theorem Dw.bnd(h:Dw op f dst O env2){x:Option AF}{k:Int}(a:∀s∈Ug x,s∈op.slots):Ez env2 k x=Ez O k x:=by
 cases x with
 |none=>rfl|some x=>exact h.val a
theorem Dw.addr(h:Dw op f dst O env2)(j:∀s∈x.sl,s∈op.slots):A0 env2 (x.ev env2)=A0 O (x.ev O):=by
 cases x with
 |c t=>cases t<;>rfl
 |s n=>
  have g:=j n (by simp[AF.sl]);have a:=h.sl n g;have i:=h.bp n g;simp only[AF.ev];generalize O.get n=e at a i;generalize env2.get n=e2 at a;rcases a with rfl|⟨n,es,⟨rfl,rfl⟩|⟨rfl,rfl⟩⟩|⟨cs,ds,rfl,rfl,d⟩
  .cases e2 with
   |bp q k=>
    have b:=i q rfl;simp only[A0];generalize O.get q=e1 at b;generalize env2.get q=e2 at b;rcases b with rfl|⟨n,es,⟨rfl,rfl⟩|⟨rfl,rfl⟩⟩|⟨cs,ds,rfl,rfl,d⟩
    .rfl
    .rfl
    .rfl
    .simp only[List.map_drop,iv d]
   |tv t=>cases t<;>rfl
   |_=>rfl
  .rfl
  .rfl
  .simp only[A0,iv d]
theorem Dw.place(h:Dw op f dst O env2)(d:∀s∈x.sl,s∈op.slots):x.place env2=x.place O:=by
 cases x with
 |c t=>rfl|s n=>
  have g:=h.sl n (d n (by simp[AF.sl]));simp only[AF.place];rcases g with a|⟨n,es,⟨a,b⟩|⟨a,b⟩⟩|⟨cs,ds,a,b,_⟩
  .rw[a]
  .rw[a,b]
  .rw[a,b]
  .rw[a,b]
variable{q:Nat}
theorem EV.like.x7{O env2:AB}(h:(O.get q).like (env2.get q))(i:Option Nat):env2.x7 q i=O.x7 q i:=by
 rcases h with a|⟨n,es,⟨a,b⟩|⟨a,b⟩⟩|⟨cs,ds,a,b,c⟩
 .exact AB.Aat a
 .cases i<;>simp only[AB.x7,a,b]
 .cases i<;>simp only[AB.x7,a,b]
 .cases i with
  |none=>simp only[AB.x7,a,b]|some k=>simp only[AB.x7,a,b];exact nK c k
theorem EV.like.nat{O env2:AB}(h:(O.get q).like (env2.get q))(i:Nat):env2.nat q i=O.nat q i:=by
 rcases h with a|⟨n,es,⟨a,b⟩|⟨a,b⟩⟩|⟨cs,ds,a,b,c⟩
 .exact AB.AaF a
 .simp only[AB.nat,a,b]
 .simp only[AB.nat,a,b]
 .simp only[AB.nat,a,b];exact nL c i
variable{e e2:EV}
theorem EV.like.nh(h:e.like e2){q i:Nat}{k:NK}(he:e=.nh q i k):e2=.nh q i k:=by
 subst he;exact h.AbQ rfl
theorem Dw.Aaa(h:Dw op f dst O env2)(g:∀s∈x.sl,s∈op.slots):x.Aaa env2=x.Aaa O:=by
 cases x with
 |c t=>rfl|s n=>
  have d:=g n (by simp[AF.sl]);have j:=h.sl n d;have k:=h.bp n d;simp only[AF.Aaa];rcases j with a|⟨m,es,⟨a,b⟩|⟨a,b⟩⟩|⟨cs,ds,a,b,_⟩
  .rw[a];cases he:O.get n with
   |la q i=>simp only[(k q (by rw[he];rfl)).x7 i]|_=>rfl
  .rw[a,b]
  .rw[a,b]
  .rw[a,b]
theorem Dw.AbH(h:Dw op f dst O env2)(i:∀s∈x.sl,s∈op.slots):x.AbH env2=x.AbH O:=by
 unfold AF.AbH;rw[h.Aaa i];cases x.Aaa O with
 |some p=>rfl|none=>
  cases x with
  |c t=>cases t<;>rfl
  |s n=>
   have j:=i n (by simp[AF.sl]);have k:=h.sl n j;have o:=h.bp n j;simp only[AF.ev];rcases k with a|⟨m,es,⟨a,d⟩|⟨a,d⟩⟩|⟨cs,ds,a,d,u⟩
   .rw[a];cases he:O.get n with
    |bp q w=>
     have r:=o q (by rw[he];rfl);simp only;rcases r with b|⟨m,es,⟨b,g⟩|⟨b,g⟩⟩|⟨cs,ds,b,g,v⟩
     .rw[b]
     .rw[b,g]
     .rw[b,g]
     .rw[b,g];have:=Xg v;simp only[List.map_drop,this]
    |_=>rfl
   .rw[a,d];rfl
   .rw[a,d];rfl
   .rw[a,d];simp only[Xg u]
theorem Dw.Aas(h:Dw op f dst O env2):∀{xs:List AF},(∀s∈Fo xs,s∈op.slots)->Go.Sf.Aas env2 xs=Go.Sf.Aas O xs
 |[],_=>rfl|x::xs,b=>by
  simp only[Fo,List.mem_append]at b;simp only[Go.Sf.Aas,h.AbH (x:=x) (fun s a=>b s (.inl a)),h.Aas (xs:=xs) (fun s a=>b s (.inr a))]
end
structure bl(S:FuncId->Fq->Aq->Prop)(op:AE)(dst:Option Nat)(O:AB)(e:EV)(env':AB)(f:A3):Prop where
 env':env'=f.app O
 ok:f.ok O
 slot:∀s t,f=.slot s t->s∈op.dem
 cell:∀s off t,f=.cell s off t->(s∈op.slots\/∃x∈op.slots,(O.get x).ref=some s)
 ref:∀s,e.ref=some s->(s∈op.Abe\/∃x∈op.slots,(O.get x).ref=some s)
 new:op.zt=true->e.ref=none/\∀d,dst=some d->O.jj d=true
 xl:∀s off t,f=.cell s off t->t.AaR=false
 again:∀env2,Dw op f dst O env2->∀K2:EV->AB->Prop,K2 e (f.app env2)->op.wp S env2 dst K2
section
variable{S:FuncId->Fq->Aq->Prop}{op:AE}{dst:Option Nat}{O:AB}{K:EV->AB->Prop}
variable{e:EV}
theorem At(b:K e O)(c:op.zt=false)(d:e.ref=none)(h:∀env2,Dw op .none dst O env2->∀a:EV->AB->Prop,a e env2->op.wp S env2 dst a):K e O/\∃f,bl S op dst O e O f:=
 ⟨b,.none,rfl,trivial,by simp,by simp,(fun s he=>by rw[d]at he;cases he),by simp[c],by simp,h⟩
variable{α:Type}{l m:List α}
theorem Dp{x:α}(h:x∈m):x∈l++m:=List.mem_append_right _ h
theorem DC{x:α}(h:x∈l):x∈l++m:=List.mem_append_left _ h
theorem frame(H:op.mov=true)(h:op.wp S O dst K):op.wp S O dst fun e env'=>K e env'/\∃f,bl S op dst O e env' f:=by
 cases op with
 |mv x=>
  simp only[AE.wp]at h|-;have key:∀t,(x.ev O).val=some t->∀env2,Dw (.mv x) .none dst O env2->∀E:EV->AB->Prop,E (.tv t) env2->(AE.mv x).wp S env2 dst E:=by
   intro t ht env2 w E u;have hv:=w.val (x:=x) (fun s h=>h);simp only[AF.val]at hv;rw[ht]at hv;simp only[AE.wp];cases he:x.ev env2<;>rw[he]at hv<;>simp[EV.val]at hv<;>subst hv<;>exact u
  split at h
  .rename_i t A
   try simp only[A]
   exact At h rfl rfl (key t (by rw[A];rfl))
  .rename_i t A
   try simp only[A]
   exact At h rfl rfl (key t (by rw[A];rfl))
  .rename_i Q A
   try simp only[A]
   refine At h rfl rfl fun env2 w E u=>?_;cases x with
   |c t=>simp[AF.ev]at A|s n=>
    simp only[AF.ev]at A;have B:env2.get n=.tp Q:=(w.sl n (by simp[AE.slots,AF.sl])).tp A;simp only[AE.wp,AF.ev,B];exact u
  .exact h.elim
 |tk s=>
  simp only[AE.wp]at h|-;split at h
  .rename_i t M
   try simp only[M]
   refine ⟨h,.slot s t,rfl,M,?_,by simp,(fun s he=>by cases he),by simp[AE.zt],by simp,fun env2 w E u=>?_⟩
   .intro s' t' he;simp only[A3.slot.injEq]at he;simp[AE.dem,he.1]
   .have:=w.eff;simp only[A3.ok]at this;simp only[AE.wp,this];exact u
  .rename_i t M
   try simp only[M]
   refine At h rfl rfl fun env2 w E u=>?_;have:=w.dem s (by simp[AE.dem]) (by simp[M]);simp only[AE.wp,this,M];exact u
  .exact h.elim
 |Aby n=>exact At h rfl rfl fun env2 w E u=>u|fad x k=>
  simp only[AE.wp]at h|-;split at h
  .rename_i row A
   try simp only[A]
   refine At h rfl rfl fun env2 w E u=>?_;have:=(w.ev (x:=x) (fun s h=>h)).pt A;simp only[AE.wp,this];exact u
  .rename_i s F A;split at h
   .rename_i cs M
    try simp only[A,M]
    have G:∃n∈x.sl,O.get n=.bp s F:=by
     cases x with
     |c t=>simp[AF.ev]at A|s n=>exact⟨n,by simp[AF.sl],A⟩
    obtain ⟨n,N,L⟩:=G;refine⟨h,.none,rfl,trivial,by simp,by simp,?_,by simp[AE.zt],by simp,fun env2 w E u=>?_⟩
    .intro s' he;simp only[EV.ref,x4]at he;subst he;exact .inr ⟨n,N,by rw[L];rfl⟩
    .have C:=(w.ev (x:=x) (fun s h=>h)).bp A;have B:=w.bp n N s (by rw[L];rfl);rw[M]at B;obtain⟨ds,I,_⟩:=B.bx rfl;simp only[AE.wp,C,I];exact u
   .exact h.elim
  .exact h.elim
 |bad s k=>
  simp only[AE.wp]at h|-;split at h
  .rename_i cs M
   try simp only[M]
   refine ⟨h,.none,rfl,trivial,by simp,by simp,?_,by simp[AE.zt],by simp,fun env2 w E u=>?_⟩
   .intro s' he;simp only[EV.ref,x4]at he;exact .inl (by simp[AE.Abe,he])
   .have B:=w.sl s (by simp[AE.slots]);rw[M]at B;obtain⟨ds,I,_⟩:=B.bx rfl;simp only[AE.wp,I];exact u
  .rename_i row M
   try simp only[M]
   refine At h rfl rfl fun env2 w E u=>?_;have:=(w.sl s (by simp[AE.slots])).pt M;simp only[AE.wp,this];exact u
  .exact h.elim
 |iad x i n=>
  simp only[AE.wp]at h|-;split at h
  .rename_i m es k j A hi
   try simp only[A,hi]
   obtain ⟨C,B,e,I,T⟩:=h;refine⟨C,B,e,I,At T rfl rfl fun env2 w E u=>?_⟩;simp only[AE.wp,w.val (x:=x) (fun s h=>DC h),w.val (x:=i) (fun s h=>Dp h),A,hi];exact⟨C,B,e,I,u⟩
  .exact h.elim
 |aad x i n k=>
  simp only[AE.wp]at h|-;split at h
  .rename_i row kk j A hi
   try simp only[A,hi]
   obtain ⟨C,B,I,T⟩:=h;refine⟨C,B,I,At T rfl rfl fun env2 w E u=>?_⟩;have:=(w.ev (x:=x) (fun s h=>DC h)).pt A;simp only[AE.wp,this,w.val (x:=i) (fun s h=>Dp h),hi];exact⟨C,B,I,u⟩
  .exact h.elim
 |ld x=>
  simp only[AE.wp]at h|-;cases D:A0 O (x.ev O)with
  |none=>rw[D]at h;exact h.elim|some cs=>
   rw [D]at h;simp only[AV]at h|-;cases hf:Fk cs with
   |none=>rw[hf]at h;exact h.elim|some t=>
    rw [hf]at h;refine⟨h.1,At h.2 rfl rfl fun env2 w E u=>?_⟩;simp only[AE.wp,w.addr (x:=x) (fun s h=>h),D,AV,hf];exact⟨h.1,u⟩
 |lda x n=>
  simp only[AE.wp]at h|-;cases D:A0 O (x.ev O)with
  |none=>rw[D]at h;exact h.elim|some cs=>
   rw [D]at h;simp only[AV]at h|-;refine⟨h.1,At h.2 rfl rfl fun env2 w E u=>?_⟩;simp only[AE.wp,w.addr (x:=x) (fun s h=>h),D,AV];exact⟨h.1,u⟩
 |ldb s n=>
  simp only[AE.wp]at h|-;split at h
  .rename_i cs D
   try simp only[D]
   refine ⟨h.1,At h.2 rfl rfl fun env2 w E u=>?_⟩;have C:=w.addr (x:=.s s) (fun s h=>h);obtain⟨ds,I,_⟩:=(w.sl s (by simp[AE.slots])).bx D;simp only[AF.ev,D,I,A0,x4]at C;simp only[AE.wp,I,C];exact⟨h.1,u⟩
  .exact h.elim
 |ldt x=>
  simp only[AE.wp]at h|-;split at h
  .rename_i s F U;split at h
   .rename_i cs M;split at h
    .rename_i n es D
     try simp only[U,M,D]
     refine ⟨h,.cell s F (.list n es),by simp[A3.app,M],⟨cs,M,D⟩,by simp,?_,(fun s he=>by cases he),by simp[AE.zt],(fun s F t he=>by cases he;rfl),fun env2 w E u=>?_⟩
     .intro s' off' t' he;simp only[A3.cell.injEq]at he;obtain⟨rfl,rfl,rfl⟩:=he;cases x with
      |c t=>simp[AF.place]at U|s n=>
       simp only[AF.place]at U;split at U
       .rename_i q o J;simp only[x4,Prod.mk.injEq]at U;exact .inr ⟨n,by simp[AE.slots,AF.sl],by rw[J,U.1];rfl⟩
       .simp only[x4,Prod.mk.injEq]at U;exact .inl (by simp[AE.slots,AF.sl,U.1])
       .cases U
     .obtain⟨ds,C,B⟩:=w.eff;simp only[A3.app,C]at u;simp only[AE.wp,w.place (x:=x) (fun s h=>h),U,C,B];exact u
    .exact h.elim
   .exact h.elim
  .exact h.elim
 |bin k op x y=>
  simp only[AE.wp]at h|-;split at h
  .rename_i a b A V
   try simp only[A,V]
   cases L:D1 k op a b with
   |none=>rw[L]at h;exact h.elim|some t=>
    rw [L]at h;refine At h rfl rfl fun env2 w E u=>?_;simp only[AE.wp,w.val (x:=x) (fun s h=>DC h),w.val (x:=y) (fun s h=>Dp h),A,V,L,AV];exact u
  .exact h.elim
 |not x=>
  simp only[AE.wp]at h|-;split at h
  .rename_i b A
   try simp only[A]
   refine At h rfl rfl fun env2 w E u=>?_;simp only[AE.wp,w.val (x:=x) (fun s h=>h),A];exact u
  .exact h.elim
 |neg x=>
  simp only[AE.wp]at h|-;split at h
  .rename_i k n A
   try simp only[A]
   refine At h rfl rfl fun env2 w E u=>?_;simp only[AE.wp,w.val (x:=x) (fun s h=>h),A];exact u
  .exact h.elim
 |pick c a b=>
  simp only[AE.wp]at h|-;split at h
  .rename_i q D
   try simp only[D]
   have key:∀t,((if q=true then a else b).ev O).val=some t->∀env2,Dw (.pick c a b) .none dst O env2->∀E:EV->AB->Prop,E (.tv t) env2->(AE.pick c a b).wp S env2 dst E:=by
    intro t ht env2 w E u;have hv:=w.val (x:=if q=true then a else b) (fun s h=>by
     cases q
     .exact Dp (Dp h)
     .exact Dp (DC h))
    simp only[AF.val]at hv;rw[ht]at hv;simp only[AE.wp,w.val (x:=c) (fun s h=>DC h),D];cases he:(if q=true then a else b).ev env2<;>rw[he]at hv<;>simp[EV.val]at hv<;>subst hv<;>exact u
   split at h
   .rename_i t A
    try simp only[A]
    exact At h rfl rfl (key t (by rw[A];rfl))
   .rename_i t A
    try simp only[A]
    exact At h rfl rfl (key t (by rw[A];rfl))
   .exact h.elim
  .exact h.elim
 |len x=>
  simp only[AE.wp]at h|-;split at h
  .rename_i n es A
   try simp only[A]
   refine At h rfl rfl fun env2 w E u=>?_;simp only[AE.wp,w.val (x:=x) (fun s h=>h),A];exact u
  .exact h.elim
 |fdv x k=>
  simp only[AE.wp]at h|-;split at h
  .rename_i row A
   try simp only[A]
   refine At h rfl rfl fun env2 w E u=>?_;simp only[AE.wp,w.val (x:=x) (fun s h=>h),A];exact u
  .exact h.elim
 |ldv x n=>
  simp only[AE.wp]at h|-;split at h
  .rename_i row A
   try simp only[A]
   refine ⟨h.1,At h.2 rfl rfl fun env2 w E u=>?_⟩;simp only[AE.wp,w.val (x:=x) (fun s h=>h),A];exact⟨h.1,u⟩
  .exact h.elim
 |AbK x=>
  simp only[AE.wp]at h|-;split at h
  .rename_i s A
   try simp only[A]
   refine At h rfl rfl fun env2 w E u=>?_;simp only[AE.wp,w.val (x:=x) (fun s h=>h),A];exact u
  .exact h.elim
 |slc n x lo hi=>
  simp only[AE.wp]at h|-;split at h
  .rename_i m es A
   try simp only[A]
   split at h
   .rename_i k1 l k2 hh C B
    try simp only[C,B]
    refine ⟨h.1,h.2.1,At h.2.2 rfl rfl fun env2 w E u=>?_⟩;simp only[AE.wp,w.val (x:=x) (fun s h=>DC h),A,w.bnd (x:=lo) (fun s h=>Dp (DC h)),w.bnd (x:=hi) (fun s h=>Dp (Dp h)),C,B];exact⟨h.1,h.2.1,u⟩
   .exact h.elim
  .exact h.elim
 |AaH x lo hi=>
  simp only[AE.wp]at h|-;split at h
  .rename_i str A
   try simp only[A]
   split at h
   .rename_i k1 l k2 hh C B
    try simp only[C,B]
    refine ⟨h.1,h.2.1,h.2.2.1,At h.2.2.2 rfl rfl fun env2 w E u=>?_⟩;simp only[AE.wp,w.val (x:=x) (fun s h=>DC h),A,w.bnd (x:=lo) (fun s h=>Dp (DC h)),w.bnd (x:=hi) (fun s h=>Dp (Dp h)),C,B];exact⟨h.1,h.2.1,h.2.2.1,u⟩
   .exact h.elim
  .exact h.elim
 |bld zero Y=>
  simp only[AE.wp]at h|-;cases D:F5 O Y with
  |none=>rw[D]at h;exact h.elim|some Q=>
   rw [D]at h;simp only[AV]at h|-;cases hf:Ec zero Q with
   |none=>rw[hf]at h;exact h.elim|some cs=>
    rw [hf]at h;refine At h rfl rfl fun env2 w E u=>?_;simp only[AE.wp,w.parts (xs:=Y) (fun s h=>h),D,AV,hf];exact u
 |lst n Y=>
  simp only[AE.wp]at h|-;cases D:Go.Sf.vals O Y with
  |none=>rw[D]at h;exact h.elim|some Q=>
   rw [D]at h;simp only[AV]at h|-;refine⟨h.1,At h.2 rfl rfl fun env2 w E u=>?_⟩;simp only[AE.wp,w.vals (xs:=Y) (fun s h=>h),D,AV];exact⟨h.1,u⟩
 |app n x y=>
  simp only[AE.wp]at h|-;split at h
  .rename_i m es m' fs A V
   try simp only[A,V]
   obtain ⟨C,B,I,T⟩:=h;cases x with
   |c t=>simp[AF.ev]at A|s s=>
    simp only[AF.ev]at A;subst C;refine⟨rfl,B,I,T,.slot s (.list m es),rfl,A,?_,by simp,(fun s he=>by cases he),by simp[AE.zt],by simp,fun env2 w E u=>?_⟩
    .intro s' t' he;simp only[A3.slot.injEq]at he;simp[AE.dem,AF.sl,he.1]
    .have:=w.eff;simp only[A3.ok]at this;simp only[AE.wp,AF.ev,this,w.val (x:=y) (fun s h=>Dp h),V];exact⟨trivial,B,I,u⟩
  .exact h.elim
 |call g xs=>
  simp only[AE.wp]at h|-;cases D:Go.Sf.vals O xs with
  |none=>rw[D]at h;exact h.elim|some Q=>
   rw [D]at h;simp only[AV]at h|-;obtain⟨r,C,B⟩:=h;refine⟨r,C,fun R=>At (B R) rfl (by cases r<;>rfl) fun env2 w E u=>?_⟩;simp only[AE.wp,w.vals (xs:=xs) (fun s h=>h),D,AV];exact⟨r,C,fun _=>u⟩
 |AaK x xs=>
  simp only[AE.wp]at h|-;split at h
  .rename_i g caps Q A D
   try simp only[A,D]
   obtain ⟨r,C,B⟩:=h;refine⟨r,C,fun R=>At (B R) rfl (by cases r<;>rfl) fun env2 w E u=>?_⟩;simp only[AE.wp,w.val (x:=x) (fun s h=>DC h),w.vals (xs:=xs) (fun s h=>Dp h),A,D];exact⟨r,C,fun _=>u⟩
  .exact h.elim
 |clo g xs=>
  simp only[AE.wp]at h|-;cases D:Go.Sf.vals O xs with
  |none=>rw[D]at h;exact h.elim|some Q=>
   rw [D]at h;simp only[AV]at h|-;refine At h rfl rfl fun env2 w E u=>?_;simp only[AE.wp,w.vals (xs:=xs) (fun s h=>h),D,AV];exact u
 |ext x i=>
  simp only[AE.wp]at h|-;split at h
  .rename_i Q A
   try simp only[A]
   cases hf:Q[i]? with
   |none=>rw[hf]at h;exact h.elim|some t=>
    rw [hf]at h;refine At h rfl rfl fun env2 w E u=>?_;have:=(w.ev (x:=x) (fun s h=>h)).tp A;simp only[AE.wp,this,hf,AV];exact u
  .exact h.elim
 |cvt k x=>
  simp only[AE.wp]at h|-;split at h
  .rename_i k n A
   try simp only[A]
   refine At h rfl rfl fun env2 w E u=>?_;simp only[AE.wp,w.val (x:=x) (fun s h=>h),A];exact u
  .exact h.elim
 |AaC x i=>
  simp only[AE.wp]at h|-;split at h
  .rename_i str k j A hi
   try simp only[A,hi]
   obtain ⟨C,b,B,I⟩:=h;refine⟨C,b,B,At I rfl rfl fun env2 w E u=>?_⟩;simp only[AE.wp,w.val (x:=x) (fun s h=>DC h),w.val (x:=i) (fun s h=>Dp h),A,hi];exact⟨C,b,B,u⟩
  .exact h.elim
 |Abs x=>
  simp only[AE.wp]at h|-;split at h
  .rename_i t A
   try simp only[A]
   refine At h rfl rfl fun env2 w E u=>?_;simp only[AE.wp,w.val (x:=x) (fun s h=>h),A];exact u
  .exact h.elim
 |Abu x=>
  simp only[AE.wp]at h|-;split at h
  .rename_i t d A
   try simp only[A]
   refine ⟨h.1,h.2,.none,rfl,trivial,by simp,by simp,(fun s he=>by cases he),fun _=>⟨rfl,fun Z hd=>?_⟩,by simp,fun env2 w E u=>?_⟩
   .simp only[x4]at hd;subst hd;exact h.1
   .simp only[AE.wp,w.val (x:=x) (fun s h=>h),A];exact⟨w.new rfl _ rfl h.1,u⟩
  .exact h.elim
 |mm mx x y=>
  simp only[AE.wp]at h|-;split at h
  .rename_i k a k' b A V
   try simp only[A,V]
   refine ⟨h.1,At h.2 rfl rfl fun env2 w E u=>?_⟩;simp only[AE.wp,w.val (x:=x) (fun s h=>DC h),w.val (x:=y) (fun s h=>Dp h),A,V];exact⟨h.1,u⟩
  .exact h.elim
 |alc cs=>
  simp only[AE.wp]at h|-;split at h
  .rename_i d;refine⟨h.1,h.2,.none,rfl,trivial,by simp,by simp,(fun s he=>by cases he),fun _=>⟨rfl,fun Z hd=>?_⟩,by simp,fun env2 w E u=>?_⟩
   .simp only[x4]at hd;subst hd;exact h.1
   .simp only[AE.wp];exact⟨w.new rfl _ rfl h.1,u⟩
  .exact h.elim
 |st n x v=>cases H
 |stb n s v=>cases H
 |frz s=>cases H
 |xal s=>
  simp only[AE.wp]at h|-;split at h
  .rename_i n es M
   try simp only[M]
   refine ⟨h,.none,rfl,trivial,by simp,by simp,?_,by simp[AE.zt],by simp,fun env2 w E u=>?_⟩
   .intro s' he;simp only[EV.ref,x4]at he;exact .inl (by simp[AE.Abe,he])
   .have B:=(w.sl s (by simp[AE.slots])).xo M;simp only[AE.wp,B];exact u
  .exact h.elim
 |AbD x=>
  simp only[AE.wp]at h|-;cases A:x.Aaa O with
  |none=>rw[A]at h;exact h.elim|some p=>
   rw [A]at h;simp only[AV]at h|-;refine At h rfl rfl fun env2 w E u=>?_;simp only[AE.wp,w.Aaa (x:=x) (fun s h=>h),A,AV];exact u
 |lan x=>
  simp only[AE.wp]at h|-;split at h
  .rename_i s F A;cases J:O.nat s F with
   |none=>rw[J]at h;exact h.elim|some es=>
    rw [J]at h;simp only[AV]at h
    try simp only[A,J]
    have G:∃n∈x.sl,O.get n=.bp s F:=by
     cases x with
     |c t=>simp[AF.ev]at A|s n=>exact⟨n,by simp[AF.sl],A⟩
    obtain ⟨n,N,L⟩:=G;refine⟨h,.none,rfl,trivial,by simp,by simp,?_,by simp[AE.zt],by simp,fun env2 w E u=>?_⟩
    .intro s' he;simp only[EV.ref,x4]at he;subst he;exact .inr ⟨n,N,by rw[L];rfl⟩
    .have C:=(w.ev (x:=x) (fun s h=>h)).bp A;have B:=(w.bp n N s (by rw[L];rfl)).nat F;rw[J]at B;simp only[AE.wp,C,B,AV];exact u
  .exact h.elim
 |nld x=>
  simp only[AE.wp]at h|-;split at h
  .rename_i s F r A;cases J:O.nat s F with
   |none=>rw[J]at h;exact h.elim|some es=>
    rw [J]at h;simp only[AV]at h;obtain⟨X,h⟩:=h
    try simp only[A,J]
    have G:∃n∈x.sl,O.get n=.nh s F (.el r):=by
     cases x with
     |c t=>simp[AF.ev]at A|s n=>exact⟨n,by simp[AF.sl],A⟩
    obtain ⟨n,N,L⟩:=G;refine⟨X,h,.none,rfl,trivial,by simp,by simp,?_,by simp[AE.zt],by simp,fun env2 w E u=>?_⟩
    .intro s' he;simp only[EV.ref,x4]at he;subst he;exact .inr ⟨n,N,by rw[L];rfl⟩
    .have C:=(w.ev (x:=x) (fun s h=>h)).nh A;have B:=(w.bp n N s (by rw[L];rfl)).nat F;rw[J]at B;simp only[AE.wp,C,B,AV];exact⟨X,u⟩
  .exact h.elim
 |nia x i=>
  simp only[AE.wp]at h|-;split at h
  .rename_i s F k j A W;cases J:O.nat s F with
   |none=>rw[J]at h;exact h.elim|some es=>
    rw [J]at h;simp only[AV]at h;obtain⟨X,I,h⟩:=h
    try simp only[A,W,J]
    have G:∃n∈x.sl,O.get n=.nh s F .hd:=by
     cases x with
     |c t=>simp[AF.ev]at A|s n=>exact⟨n,by simp[AF.sl],A⟩
    obtain ⟨n,N,L⟩:=G;refine⟨X,I,h,.none,rfl,trivial,by simp,by simp,?_,by simp[AE.zt],by simp,fun env2 w E u=>?_⟩
    .intro s' he;simp only[EV.ref,x4]at he;subst he;exact .inr ⟨n,DC N,by rw[L];rfl⟩
    .have C:=(w.ev (x:=x) (fun s h=>DC h)).nh A;have e2:=w.val (x:=i) (fun s h=>Dp h);have B:=(w.bp n (DC N) s (by rw[L];rfl)).nat F;rw[J]at B;simp only[AE.wp,C,e2,W,B,AV];exact⟨X,I,u⟩
  .rename_i s F r k j A W;cases J:O.nat s F with
   |none=>rw[J]at h;exact h.elim|some es=>
    rw [J]at h;simp only[AV]at h;obtain⟨X,fs,I,T,h⟩:=h
    try simp only[A,W,J]
    have G:∃n∈x.sl,O.get n=.nh s F (.rw r):=by
     cases x with
     |c t=>simp[AF.ev]at A|s n=>exact⟨n,by simp[AF.sl],A⟩
    obtain ⟨n,N,L⟩:=G;refine⟨X,fs,I,T,h,.none,rfl,trivial,by simp,by simp,?_,by simp[AE.zt],by simp,fun env2 w E u=>?_⟩
    .intro s' he;simp only[EV.ref,x4]at he;subst he;exact .inr ⟨n,DC N,by rw[L];rfl⟩
    .have C:=(w.ev (x:=x) (fun s h=>DC h)).nh A;have e2:=w.val (x:=i) (fun s h=>Dp h);have B:=(w.bp n (DC N) s (by rw[L];rfl)).nat F;rw[J]at B;simp only[AE.wp,C,e2,W,B,AV];exact⟨X,fs,I,T,u⟩
  .exact h.elim
 |lac x=>
  simp only[AE.wp]at h|-;split at h
  .rename_i s F A;split at h
   .rename_i p J
    try simp only[A,J]
    have G:∃n∈x.sl,O.get n=.bp s F:=by
     cases x with
     |c t=>simp[AF.ev]at A|s n=>exact⟨n,by simp[AF.sl],A⟩
    obtain ⟨n,N,L⟩:=G;refine⟨h,.none,rfl,trivial,by simp,by simp,?_,by simp[AE.zt],by simp,fun env2 w E u=>?_⟩
    .intro s' he;simp only[EV.ref,x4]at he;subst he;exact .inr ⟨n,N,by rw[L];rfl⟩
    .have C:=(w.ev (x:=x) (fun s h=>h)).bp A;have B:=(w.bp n N s (by rw[L];rfl)).x7 (some F);rw[J]at B;simp only[AE.wp,C,B];exact u
   .exact h.elim
  .exact h.elim
 |ctk _=>cases H
 |cpt _ _=>cases H
 |cut _ _ _=>cases H
 |Abj _ _ _ _=>cases H
 |Aa3 g xs=>
  simp only[AE.wp]at h|-;cases D:Go.Sf.vals O xs with
  |none=>rw[D]at h;exact h.elim|some Q=>
   rw [D]at h;simp only[AV]at h|-;obtain⟨r,C,B⟩:=h;refine⟨r,C,At B rfl rfl fun env2 w E u=>?_⟩;simp only[AE.wp,w.vals (xs:=xs) (fun s h=>h),D,AV];exact⟨r,C,u⟩
 |AaE _ _ _=>cases H
 |AaI g xs=>
  simp only[AE.wp]at h|-;cases D:Go.Sf.Aas O xs with
  |none=>rw[D]at h;exact h.elim|some Q=>
   rw [D]at h;simp only[AV]at h|-;obtain⟨r,C,B⟩:=h;refine⟨r,C,fun R=>At (B R) rfl (by cases r<;>rfl) fun env2 w E u=>?_⟩;simp only[AE.wp,w.Aas (xs:=xs) (fun s h=>h),D,AV];exact⟨r,C,fun _=>u⟩
 |Abt Y x=>
  simp only[AE.wp]at h|-;split at h
  .rename_i t d A
   try simp only[A]
   cases D:DK Y t.cells with
   |none=>rw[D]at h;exact h.elim|some cs=>
    rw [D]at h;simp only[AV]at h|-;refine⟨h.1,h.2,.none,rfl,trivial,by simp,by simp,(fun s he=>by cases he),fun _=>⟨rfl,fun Z hd=>?_⟩,by simp,fun env2 w E u=>?_⟩
    .simp only[x4]at hd;subst hd;exact h.1
    .simp only[AE.wp,w.val (x:=x) (fun s h=>h),A,D,AV];exact⟨w.new rfl _ rfl h.1,u⟩
  .exact h.elim
 |xia x i n=>
  simp only[AE.wp]at h|-;cases A:x.Aaa O with
  |none=>rw[A]at h;exact h.elim|some p=>
   rw [A]at h;simp only[AV]at h|-;split at h
   .rename_i ik j W
    try simp only[W]
    obtain ⟨⟨C,B⟩,I,T,h5⟩:=h;have G:∃n∈x.sl,(O.get n).ref=some p.1.1:=by
     cases x with
     |c t=>simp[AF.ev,EV.ref]at C|s n=>exact⟨n,by simp[AF.sl],C⟩
    obtain ⟨m,hm',hr⟩:=G;refine⟨⟨C,B⟩,I,T,h5,.none,rfl,trivial,by simp,by simp,?_,by simp[AE.zt],by simp,fun env2 w E u=>?_⟩
    .intro s' he;simp only[EV.ref,x4]at he;subst he;exact .inr ⟨m,DC hm',hr⟩
    .have e1:=w.Aaa (x:=x) (fun s h=>DC h);have e2:=w.val (x:=i) (fun s h=>Dp h);have e3:=(w.ev (x:=x) (fun s h=>DC h)).ref;simp only[AE.wp,e1,A,e2,W,AV,e3,C];exact⟨⟨trivial,B⟩,I,T,u⟩
   .exact h.elim
 |xfa x k=>
  simp only[AE.wp]at h|-;split at h
  .rename_i q i c A;split at h
   .rename_i p J
    try simp only[A,J]
    have G:∃n∈x.sl,O.get n=.lp q i c:=by
     cases x with
     |c t=>simp[AF.ev]at A|s n=>exact⟨n,by simp[AF.sl],A⟩
    obtain ⟨n,N,L⟩:=G;refine⟨h,.none,rfl,trivial,by simp,by simp,?_,by simp[AE.zt],by simp,fun env2 w E u=>?_⟩
    .intro s' he;simp only[EV.ref,x4]at he;subst he;exact .inr ⟨n,N,by rw[L];rfl⟩
    .have C:=(w.ev (x:=x) (fun s h=>h)).AbQ (q:=q) (by rw[A];rfl);have B:=(w.bp n N q (by rw[L];rfl)).x7 i;rw[J]at B;simp only[AE.wp,C,A,B];exact u
   .exact h.elim
  .exact h.elim
 |xld x=>
  simp only[AE.wp]at h|-;split at h
  .rename_i q i c A;split at h
   .rename_i p J
    try simp only[A,J]
    cases D:(p.2.flatMap TV.cells)[c]? with
    |none=>rw[D]at h;exact h.elim|some t=>
     rw [D]at h;simp only[AV]at h|-;have G:∃n∈x.sl,O.get n=.lp q i c:=by
      cases x with
      |c t=>simp[AF.ev]at A|s n=>exact⟨n,by simp[AF.sl],A⟩
     obtain ⟨n,N,L⟩:=G;refine At h rfl rfl fun env2 w E u=>?_;have C:=(w.ev (x:=x) (fun s h=>h)).AbQ (q:=q) (by rw[A];rfl);have B:=(w.bp n N q (by rw[L];rfl)).x7 i;rw[J]at B;simp only[AE.wp,C,A,B,D,AV];exact u
   .exact h.elim
  .exact h.elim
 |xst _ _ _=>cases H
 |rel _=>cases H
 |Abk _=>cases H
 |tkx _=>cases H
 |Abh _ _ _=>cases H
 |AaL g xs=>
  simp only[AE.wp]at h|-;split at h
  .rename_i d;obtain⟨P,h⟩:=h;refine⟨P,?_⟩;cases D:Go.Sf.vals O xs with
   |none=>rw[D]at h;exact h.elim|some Q=>
    rw [D]at h;simp only[AV]at h|-;obtain⟨n,es,C,B⟩:=h;refine⟨n,es,C,fun R=>⟨B R,.none,rfl,trivial,by simp,by simp,(fun s he=>by cases he),fun _=>⟨rfl,fun Z hd=>?_⟩,by simp,fun env2 w E u=>?_⟩⟩
    .simp only[x4]at hd;subst hd;exact P
    .simp only[AE.wp,w.vals (xs:=xs) (fun s h=>h),D,AV];exact⟨w.new rfl _ rfl P,n,es,C,fun _=>u⟩
  .exact h.elim
 |mkx n z x=>
  simp only[AE.wp]at h|-;split at h
  .rename_i d k j A
   try simp only[A]
   obtain ⟨P,C,B,I⟩:=h;refine⟨P,C,B,I,.none,rfl,trivial,by simp,by simp,(fun s he=>by cases he),fun _=>⟨rfl,fun Z hd=>?_⟩,by simp,fun env2 w E u=>?_⟩
   .simp only[x4]at hd;subst hd;exact P
   .simp only[AE.wp,w.val (x:=x) (fun s h=>h),A];exact⟨w.new rfl _ rfl P,C,B,u⟩
  .exact h.elim
 |AaS _ _=>cases H
 |AaW _ _=>cases H
 |Aaz _=>cases H
 |Abv _=>cases H
 |Aa0 _ _=>cases H
 |nst _ _=>cases H
 |AbF _=>cases H
 |AaT _ _ _=>cases H
 |ldg _ _=>cases H
 |stq _ _ _ _=>cases H
 |mkm=>cases H
 |mvm _=>cases H
 |AaU _ _=>cases H
 |mlk _ _ _=>cases H
 |mup _ _ _ _=>cases H
 |mrg _ _=>cases H
 |mnx _=>cases H
 |men _=>cases H
 |Abl _=>cases H
 |stx _ _ _=>cases H
 |isn _=>cases H
 |Aa1 g xs=>
  simp only[AE.wp]at h|-;cases D:Go.Sf.vals O xs with
  |none=>rw[D]at h;exact h.elim|some Q=>
   rw [D]at h;simp only[AV]at h|-;obtain⟨r,C,B⟩:=h;refine⟨r,C,fun R=>At (B R) rfl rfl fun env2 w E u=>?_⟩;simp only[AE.wp,w.vals (xs:=xs) (fun s h=>h),D,AV];exact⟨r,C,fun _=>u⟩
 |AaN g xs=>
  simp only[AE.wp]at h|-;cases D:Go.Sf.vals O xs with
  |none=>rw[D]at h;exact h.elim|some Q=>
   rw [D]at h;simp only[AV]at h|-;obtain⟨r,C,I,B⟩:=h;refine⟨r,C,I,fun R=>At (B R) rfl rfl fun env2 w E u=>?_⟩;simp only[AE.wp,w.vals (xs:=xs) (fun s h=>h),D,AV];exact⟨r,C,I,fun _=>u⟩
 |AbE x k n agg=>
  simp only[AE.wp]at h|-;split at h
  .rename_i cs A
   try simp only[A]
   obtain ⟨C,B⟩:=h;refine⟨C,?_⟩;cases agg with
   |true=>
    simp only[if_true]at B|-;refine At B rfl rfl fun env2 w E u=>?_;simp only[AE.wp,w.val (x:=x) (fun s h=>h),A,if_true];exact⟨C,u⟩
   |false=>
    simp only[Bool.false_eq_true,if_false]at B|-;cases D:Fk (cs.drop k)with
    |none=>rw[D]at B;exact B.elim|some t=>
     rw [D]at B;simp only[AV]at B|-;refine At B rfl rfl fun env2 w E u=>?_;simp only[AE.wp,w.val (x:=x) (fun s h=>h),A,Bool.false_eq_true,if_false,D,AV];exact⟨C,u⟩
  .exact h.elim
end
end Go.Sf
