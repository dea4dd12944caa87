/- What an operation leans on: the slots that it reads, whether or not they own their lists. -/
import Derived.Test.YthgbaecihlidaaaGreatDoorSfCode
set_option linter.all false
namespace Go.Sf
theorem ky{cs ds:List AQ}(h:ds.map AQ.key=cs.map AQ.key):ds.map (·.t)=cs.map (·.t):=by
 have:=congrArg (List.map Prod.fst) h;simpa[List.map_map,Function.comp_def,AQ.key]using this
def aA(p:TV×Bool):TV:=match p with
 |(.xl n es,true)=>.list n es|p=>p.1
theorem YD{cs ds:List AQ}(h:ds.map AQ.key=cs.map AQ.key):ds.map AQ.Aby=cs.map AQ.Aby:=by
 have a:∀c:AQ,c.Aby=aA c.key:=by
  rintro ⟨_|_,t⟩<;>cases t<;>rfl
 have:=congrArg (List.map aA) h;simpa[List.map_map,Function.comp_def,<-a]using this
def sH(p:TV×Bool):Option (Nat×Fq):=match p with
 |(.xl n es,true)=>some (n,es)|_=>none
theorem o8{cs ds:List AQ}(h:ds.map AQ.key=cs.map AQ.key)(k:Nat):(match ds[k]? with
  |some ⟨true,.xl n es⟩=>some (n,es)|_=>none)=(match cs[k]? with
  |some ⟨true,.xl n es⟩=>some (n,es)|_=>none):=by
 have a:∀o:Option AQ,(match o with
  |some ⟨true,.xl n es⟩=>some (n,es)|_=>none)=(o.map AQ.key).bind sH:=by
  rintro (_|⟨_|_,t⟩)
  .rfl
  .cases t<;>rfl
  .cases t<;>rfl
 rw [a,a];have:=congrArg (fun l=>l[k]?) h;simp only[List.getElem?_map]at this;rw[this]
def sI(p:TV×Bool):Option Fq:=match p with
 |(.xn es,true)=>some es|_=>none
theorem o9{cs ds:List AQ}(h:ds.map AQ.key=cs.map AQ.key)(k:Nat):(match ds[k]? with
  |some ⟨true,.xn es⟩=>some es|_=>none)=(match cs[k]? with
  |some ⟨true,.xn es⟩=>some es|_=>none):=by
 have a:∀o:Option AQ,(match o with
  |some ⟨true,.xn es⟩=>some es|_=>none)=(o.map AQ.key).bind sI:=by
  rintro (_|⟨_|_,t⟩)
  .rfl
  .cases t<;>rfl
  .cases t<;>rfl
 rw [a,a];have:=congrArg (fun l=>l[k]?) h;simp only[List.getElem?_map]at this;rw[this]
def EV.like(e e2:EV):Prop:=
 e2=e\/(∃n es,(e=.tv (.list n es)/\e2=.ow (.list n es))\/(e=.ow (.list n es)/\e2=.tv (.list n es)))\/∃cs ds,e=.bx cs/\e2=.bx ds/\ds.map AQ.key=cs.map AQ.key
theorem EV.like.rfl'(e:EV):e.like e:=.inl rfl
variable{e e2:EV}
theorem EV.like.symm(h:e.like e2):e2.like e:=by
 rcases h with rfl|⟨n,es,⟨rfl,rfl⟩|⟨rfl,rfl⟩⟩|⟨cs,ds,rfl,rfl,h⟩
 .exact .inl rfl
 .exact .inr (.inl ⟨n,es,.inr ⟨rfl,rfl⟩⟩)
 .exact .inr (.inl ⟨n,es,.inl ⟨rfl,rfl⟩⟩)
 .exact .inr (.inr ⟨ds,cs,rfl,rfl,h.symm⟩)
theorem EV.like.ref(h:e.like e2):e2.ref=e.ref:=by
 rcases h with rfl|⟨n,es,⟨rfl,rfl⟩|⟨rfl,rfl⟩⟩|⟨cs,ds,rfl,rfl,h⟩<;>rfl
variable{q:Nat}
theorem EV.like.AbK(h:e.like e2)(a:e.ref=some q):e2=e:=by
 rcases h with rfl|⟨n,es,⟨rfl,rfl⟩|⟨rfl,rfl⟩⟩|⟨cs,ds,rfl,rfl,h⟩
 .rfl
 .cases a
 .cases a
 .cases a
theorem EV.like.xo(h:e.like e2){n:Nat}{es:Fq}(he:e=.xo n es):e2=.xo n es:=by
 subst he;rcases h with rfl|⟨n,es,⟨h,_⟩|⟨h,_⟩⟩|⟨cs,ds,h,_⟩
 .rfl
 .cases h
 .cases h
 .cases h
theorem EV.like.val(h:e.like e2):e2.val=e.val:=by
 rcases h with rfl|⟨n,es,⟨rfl,rfl⟩|⟨rfl,rfl⟩⟩|⟨cs,ds,rfl,rfl,h⟩<;>rfl
theorem EV.like.pt(h:e.like e2){row:Fq}(he:e=.tv (.pt row)):e2=.tv (.pt row):=by
 subst he;rcases h with rfl|⟨n,es,⟨h,rfl⟩|⟨h,rfl⟩⟩|⟨cs,ds,h,rfl,a⟩
 .rfl
 .simp at h
 .cases h
 .cases h
theorem EV.like.bp(h:e.like e2){q a:Nat}(he:e=.bp q a):e2=.bp q a:=by
 subst he;rcases h with rfl|⟨n,es,⟨h,rfl⟩|⟨h,rfl⟩⟩|⟨cs,ds,h,rfl,b⟩
 .rfl
 .cases h
 .cases h
 .cases h
theorem EV.like.tp(h:e.like e2){ts:Fq}(he:e=.tp ts):e2=.tp ts:=by
 subst he;rcases h with rfl|⟨n,es,⟨h,rfl⟩|⟨h,rfl⟩⟩|⟨cs,ds,h,rfl,a⟩
 .rfl
 .cases h
 .cases h
 .cases h
theorem EV.like.bx(h:e.like e2){cs:List AQ}(he:e=.bx cs):∃ds,e2=.bx ds/\ds.map AQ.key=cs.map AQ.key:=by
 subst he;rcases h with rfl|⟨n,es,⟨h,rfl⟩|⟨h,rfl⟩⟩|⟨cs',ds,h,rfl,a⟩
 .exact⟨cs,rfl,rfl⟩
 .cases h
 .cases h
 .simp only[EV.bx.injEq]at h;subst h;exact⟨ds,rfl,a⟩
def AE.sl:AE->QQ
 |.s n=>[n]|.c _=>[]
def U5:Option AE->QQ
 |some x=>x.sl|none=>[]
def FT:List AE->QQ
 |[]=>[]|x::xs=>x.sl++FT xs
def TI:List (Nat×Nat×AE)->QQ
 |[]=>[]|x::xs=>x.2.2.sl++TI xs
def AD.slots:AD->QQ
 |.mv x=>x.sl|.tk s=>[s]|.Abz _=>[]|.fad x _=>x.sl|.bad s _=>[s]|.iad x i _=>x.sl++i.sl|.aad x i _ _=>x.sl++i.sl|.ld x=>x.sl|.lda x _=>x.sl|.ldb s _=>[s]|.ldt x=>x.sl|.bin _ _ x y=>x.sl++y.sl|.not x=>x.sl|.neg x=>x.sl|.pick c a b=>c.sl++(a.sl++b.sl)|.len x=>x.sl|.AbM x=>x.sl|.slc _ x lo hi=>x.sl++(U5 lo++U5 hi)|.Aas x lo hi=>x.sl++(U5 lo++U5 hi)|.bld _ ps=>TI ps|.lst _ ps=>FT ps|.app _ x y=>x.sl++y.sl|.call _ xs=>FT xs|.Abm x xs=>x.sl++FT xs|.clo _ xs=>FT xs|.ext x _=>x.sl|.cvt _ x=>x.sl|.AaE x i=>x.sl++i.sl|.Abx x=>x.sl|.AbF x=>x.sl|.mm _ x y=>x.sl++y.sl|.alc _=>[]|.st _ x v=>x.sl++v.sl|.stb _ s v=>s::v.sl|.frz s=>[s]|.AbP x _ _ _=>x.sl|.xal s=>[s]|.AbE x=>x.sl|.xia x i _=>x.sl++i.sl|.xfa x _=>x.sl|.xld x=>x.sl|.xst x v _=>x.sl++v.sl|.rel s=>[s]|.Abt _=>[]|.Abr _=>[]|.tkx s=>[s]|.Abg _ s y=>s::y.sl|.AaQ _ xs=>FT xs|.mkx _ _ x=>x.sl|.AaD _ x ys=>x.sl++FT ys|.Aa2 _ x=>x.sl|.Aaz gs=>gs.flatMap GC.sl|.stx _ s q=>[s,q]|.Abe _ xs=>FT xs|.AaF _ xs=>FT xs|.isn x=>x.sl|.fdv x _=>x.sl|.ldv x _=>x.sl|.lac x=>x.sl|.ctk x=>x.sl|.cpt x q=>x.sl++[q]|.cut _ s hi=>s::hi.sl|.AaV _ xs=>FT xs|.AbD _ x=>x.sl|.Abo _ s _ x=>s::x.sl|.Abd _ xs=>FT xs|.AaJ _ xs _=>FT xs|.Abw q=>[q]|.AaT s q=>[s,q]|.lan x=>x.sl|.nia x i=>x.sl++i.sl|.nld x=>x.sl|.nst x v=>x.sl++v.sl|.AbG q=>[q]|.AaU _ xs _=>FT xs|.ldg s _=>[s]|.stq _ _ x v=>x.sl++v.sl|.mkm=>[]|.mvm s=>[s]|.AaO _ xs=>FT xs|.mlk s m x=>s::(m.sl++x.sl)|.mup s m x v=>s::(m.sl++(x.sl++v.sl))|.mrg s m=>s::m.sl|.mnx s=>[s]|.men s=>[s]
def AD.dem:AD->QQ
 |.tk s=>[s]|.app _ x _=>x.sl|_=>[]
def AD.mov:AD->Bool
 |.st ..=>false|.stb ..=>false|.frz _=>false|.xst ..=>false|.rel _=>false|.Abt _=>false|.Abr _=>false|.tkx _=>false|.Abg ..=>false|.AaD ..=>false|.Aa2 ..=>false|.Aaz _=>false|.stx ..=>false|.isn _=>false|.ctk _=>false|.cpt ..=>false|.cut ..=>false|.Abo ..=>false|.AaJ ..=>false|.Abw _=>false|.AaT ..=>false|.nst ..=>false|.AbG _=>false|.AaU ..=>false|.ldg ..=>false|.stq ..=>false|.mkm=>false|.mvm _=>false|.AaO ..=>false|.mlk ..=>false|.mup ..=>false|.mrg ..=>false|.mnx _=>false|.men _=>false|_=>true
def AD.x6:AD->Bool
 |.alc _=>true|.AbF _=>true|.AbD ..=>true|.AaQ ..=>true|.mkx ..=>true|_=>false
def AD.Abb:AD->QQ
 |.bad s _=>[s]|.xal s=>[s]|_=>[]
inductive BG where
 |none
 |slot (s:Nat) (t:TV)
 |cell (s off:Nat) (t:TV)
def BG.app:BG->AB->AB
 |.none,O=>O|.slot s t,O=>(s,.tv t)::O|.cell s off t,O=>match O.get s with
  |.bx cs=>(s,.bx (cs.set off ⟨false,t⟩))::O|_=>O
def BG.ok:BG->AB->Prop
 |.none,_=>True|.slot s t,O=>O.get s=.ow t|.cell s off t,O=>∃cs,O.get s=.bx cs/\cs[off]?=some ⟨true,t⟩
structure Dx(op:AD)(f:BG)(dst:Option Nat)(O env2:AB):Prop where
 sl:∀s∈op.slots,(O.get s).like (env2.get s)
 bp:∀s∈op.slots,∀q,(O.get s).ref=some q->(O.get q).like (env2.get q)
 dem:∀s∈op.dem,(∀cs,O.get s≠.bx cs)->env2.get s=O.get s
 eff:f.ok env2
 new:op.x6=true->∀d,dst=some d->O.jj d=true->env2.jj d=true
section
variable{op:AD}{f:BG}{dst:Option Nat}{O env2:AB}
variable{x:AE}
theorem Dx.val(h:Dx op f dst O env2)(a:∀s∈x.sl,s∈op.slots):x.val env2=x.val O:=by
 cases x with
 |c t=>rfl|s n=>exact(h.sl n (a n (by simp[AE.sl]))).val
theorem Dx.ev(h:Dx op f dst O env2)(a:∀s∈x.sl,s∈op.slots):(x.ev O).like (x.ev env2):=by
 cases x with
 |c t=>exact .inl rfl|s n=>exact h.sl n (a n (by simp[AE.sl]))
theorem Dx.vals(h:Dx op f dst O env2):∀{xs:List AE},(∀s∈FT xs,s∈op.slots)->Go.Sf.vals env2 xs=Go.Sf.vals O xs
 |[],_=>rfl|x::xs,b=>by
  simp only[FT,List.mem_append]at b;simp only[Go.Sf.vals,h.val (x:=x) (fun s a=>b s (.inl a)),h.vals (xs:=xs) (fun s a=>b s (.inr a))]
theorem Dx.parts(h:Dx op f dst O env2):∀{xs:List (Nat×Nat×AE)},(∀s∈TI xs,s∈op.slots)->GD env2 xs=GD O xs
 |[],_=>rfl|(i,n,x)::xs,b=>by
  simp only[TI,List.mem_append]at b;simp only[GD,h.val (x:=x) (fun s a=>b s (.inl a)),h.parts (xs:=xs) (fun s a=>b s (.inr a))]
theorem Dx.bnd(h:Dx op f dst O env2){x:Option AE}{k:Int}(a:∀s∈U5 x,s∈op.slots):GV env2 k x=GV O k x:=by
 cases x with
 |none=>rfl|some x=>exact h.val a
theorem Dx.addr(h:Dx op f dst O env2)(j:∀s∈x.sl,s∈op.slots):BA env2 (x.ev env2)=BA O (x.ev O):=by
 cases x with
 |c t=>cases t<;>rfl
 |s n=>
  have g:=j n (by simp[AE.sl]);have a:=h.sl n g;have i:=h.bp n g;simp only[AE.ev];generalize O.get n=e at a i;generalize env2.get n=e2 at a;rcases a with rfl|⟨n,es,⟨rfl,rfl⟩|⟨rfl,rfl⟩⟩|⟨cs,ds,rfl,rfl,d⟩
  .cases e2 with
   |bp q k=>
    have b:=i q rfl;simp only[BA];generalize O.get q=e1 at b;generalize env2.get q=e2 at b;rcases b with rfl|⟨n,es,⟨rfl,rfl⟩|⟨rfl,rfl⟩⟩|⟨cs,ds,rfl,rfl,d⟩
    .rfl
    .rfl
    .rfl
    .simp only[List.map_drop,ky d]
   |tv t=>cases t<;>rfl
   |_=>rfl
  .rfl
  .rfl
  .simp only[BA,ky d]
theorem Dx.place(h:Dx op f dst O env2)(d:∀s∈x.sl,s∈op.slots):x.place env2=x.place O:=by
 cases x with
 |c t=>rfl|s n=>
  have g:=h.sl n (d n (by simp[AE.sl]));simp only[AE.place];rcases g with a|⟨n,es,⟨a,b⟩|⟨a,b⟩⟩|⟨cs,ds,a,b,_⟩
  .rw[a]
  .rw[a,b]
  .rw[a,b]
  .rw[a,b]
variable{q:Nat}
theorem EV.like.x8{O env2:AB}(h:(O.get q).like (env2.get q))(i:Option Nat):env2.x8 q i=O.x8 q i:=by
 rcases h with a|⟨n,es,⟨a,b⟩|⟨a,b⟩⟩|⟨cs,ds,a,b,c⟩
 .exact AB.Aav a
 .cases i<;>simp only[AB.x8,a,b]
 .cases i<;>simp only[AB.x8,a,b]
 .cases i with
  |none=>simp only[AB.x8,a,b]|some k=>simp only[AB.x8,a,b];exact o8 c k
theorem EV.like.nat{O env2:AB}(h:(O.get q).like (env2.get q))(i:Nat):env2.nat q i=O.nat q i:=by
 rcases h with a|⟨n,es,⟨a,b⟩|⟨a,b⟩⟩|⟨cs,ds,a,b,c⟩
 .exact AB.AaC a
 .simp only[AB.nat,a,b]
 .simp only[AB.nat,a,b]
 .simp only[AB.nat,a,b];exact o9 c i
variable{e e2:EV}
theorem EV.like.nh(h:e.like e2){q i:Nat}{k:NK}(he:e=.nh q i k):e2=.nh q i k:=by
 subst he;exact h.AbK rfl
theorem Dx.Aae(h:Dx op f dst O env2)(g:∀s∈x.sl,s∈op.slots):x.Aae env2=x.Aae O:=by
 cases x with
 |c t=>rfl|s n=>
  have d:=g n (by simp[AE.sl]);have j:=h.sl n d;have k:=h.bp n d;simp only[AE.Aae];rcases j with a|⟨m,es,⟨a,b⟩|⟨a,b⟩⟩|⟨cs,ds,a,b,_⟩
  .rw[a];cases he:O.get n with
   |la q i=>simp only[(k q (by rw[he];rfl)).x8 i]|_=>rfl
  .rw[a,b]
  .rw[a,b]
  .rw[a,b]
theorem Dx.AbJ(h:Dx op f dst O env2)(i:∀s∈x.sl,s∈op.slots):x.AbJ env2=x.AbJ O:=by
 unfold AE.AbJ;rw[h.Aae i];cases x.Aae O with
 |some p=>rfl|none=>
  cases x with
  |c t=>cases t<;>rfl
  |s n=>
   have j:=i n (by simp[AE.sl]);have k:=h.sl n j;have o:=h.bp n j;simp only[AE.ev];rcases k with a|⟨m,es,⟨a,d⟩|⟨a,d⟩⟩|⟨cs,ds,a,d,u⟩
   .rw[a];cases he:O.get n with
    |bp q w=>
     have r:=o q (by rw[he];rfl);simp only;rcases r with b|⟨m,es,⟨b,g⟩|⟨b,g⟩⟩|⟨cs,ds,b,g,v⟩
     .rw[b]
     .rw[b,g]
     .rw[b,g]
     .rw[b,g];have:=YD v;simp only[List.map_drop,this]
    |_=>rfl
   .rw[a,d];rfl
   .rw[a,d];rfl
   .rw[a,d];simp only[YD u]
theorem Dx.AaB(h:Dx op f dst O env2):∀{xs:List AE},(∀s∈FT xs,s∈op.slots)->Go.Sf.AaB env2 xs=Go.Sf.AaB O xs
 |[],_=>rfl|x::xs,b=>by
  simp only[FT,List.mem_append]at b;simp only[Go.Sf.AaB,h.AbJ (x:=x) (fun s a=>b s (.inl a)),h.AaB (xs:=xs) (fun s a=>b s (.inr a))]
end
structure dJ(S:FuncId->Fq->Az->Prop)(op:AD)(dst:Option Nat)(O:AB)(e:EV)(env':AB)(f:BG):Prop where
 env':env'=f.app O
 ok:f.ok O
 slot:∀s t,f=.slot s t->s∈op.dem
 cell:∀s off t,f=.cell s off t->(s∈op.slots\/∃x∈op.slots,(O.get x).ref=some s)
 ref:∀s,e.ref=some s->(s∈op.Abb\/∃x∈op.slots,(O.get x).ref=some s)
 new:op.x6=true->e.ref=none/\∀d,dst=some d->O.jj d=true
 xl:∀s off t,f=.cell s off t->t.AaS=false
 again:∀env2,Dx op f dst O env2->∀K2:EV->AB->Prop,K2 e (f.app env2)->op.wp S env2 dst K2
section
variable{S:FuncId->Fq->Az->Prop}{op:AD}{dst:Option Nat}{O:AB}{K:EV->AB->Prop}
variable{e:EV}
theorem A3(b:K e O)(c:op.x6=false)(d:e.ref=none)(h:∀env2,Dx op .none dst O env2->∀a:EV->AB->Prop,a e env2->op.wp S env2 dst a):K e O/\∃f,dJ S op dst O e O f:=
 ⟨b,.none,rfl,trivial,by simp,by simp,(fun s he=>by rw[d]at he;cases he),by simp[c],by simp,h⟩
variable{α:Type}{l m:List α}
theorem Dq{x:α}(h:x∈m):x∈l++m:=List.mem_append_right _ h
theorem DE{x:α}(h:x∈l):x∈l++m:=List.mem_append_left _ h
theorem frame(H:op.mov=true)(h:op.wp S O dst K):op.wp S O dst fun e env'=>K e env'/\∃f,dJ S op dst O e env' f:=by
 cases op with
 |mv x=>
  simp only[AD.wp]at h|-;have key:∀t,(x.ev O).val=some t->∀env2,Dx (.mv x) .none dst O env2->∀E:EV->AB->Prop,E (.tv t) env2->(AD.mv x).wp S env2 dst E:=by
   intro t Z env2 w E u;have hv:=w.val (x:=x) (fun s h=>h);simp only[AE.val]at hv;rw[Z]at hv;simp only[AD.wp];cases he:x.ev env2<;>rw[he]at hv<;>simp[EV.val]at hv<;>subst hv<;>exact u
  split at h
  .rename_i t A
   try simp only[A]
   exact A3 h rfl rfl (key t (by rw[A];rfl))
  .rename_i t A
   try simp only[A]
   exact A3 h rfl rfl (key t (by rw[A];rfl))
  .rename_i ts A
   try simp only[A]
   refine A3 h rfl rfl fun env2 w E u=>?_;cases x with
   |c t=>simp[AE.ev]at A|s n=>
    simp only[AE.ev]at A;have B:env2.get n=.tp ts:=(w.sl n (by simp[AD.slots,AE.sl])).tp A;simp only[AD.wp,AE.ev,B];exact u
  .exact h.elim
 |tk s=>
  simp only[AD.wp]at h|-;split at h
  .rename_i t M
   try simp only[M]
   refine ⟨h,.slot s t,rfl,M,?_,by simp,(fun s he=>by cases he),by simp[AD.x6],by simp,fun env2 w E u=>?_⟩
   .intro s' t' he;simp only[BG.slot.injEq]at he;simp[AD.dem,he.1]
   .have:=w.eff;simp only[BG.ok]at this;simp only[AD.wp,this];exact u
  .rename_i t M
   try simp only[M]
   refine A3 h rfl rfl fun env2 w E u=>?_;have:=w.dem s (by simp[AD.dem]) (by simp[M]);simp only[AD.wp,this,M];exact u
  .exact h.elim
 |Abz n=>exact A3 h rfl rfl fun env2 w E u=>u|fad x k=>
  simp only[AD.wp]at h|-;split at h
  .rename_i row A
   try simp only[A]
   refine A3 h rfl rfl fun env2 w E u=>?_;have:=(w.ev (x:=x) (fun s h=>h)).pt A;simp only[AD.wp,this];exact u
  .rename_i s F A;split at h
   .rename_i cs M
    try simp only[A,M]
    have G:∃n∈x.sl,O.get n=.bp s F:=by
     cases x with
     |c t=>simp[AE.ev]at A|s n=>exact⟨n,by simp[AE.sl],A⟩
    obtain ⟨n,N,L⟩:=G;refine⟨h,.none,rfl,trivial,by simp,by simp,?_,by simp[AD.x6],by simp,fun env2 w E u=>?_⟩
    .intro s' he;simp only[EV.ref,wi]at he;subst he;exact .inr ⟨n,N,by rw[L];rfl⟩
    .have C:=(w.ev (x:=x) (fun s h=>h)).bp A;have B:=w.bp n N s (by rw[L];rfl);rw[M]at B;obtain⟨ds,I,_⟩:=B.bx rfl;simp only[AD.wp,C,I];exact u
   .exact h.elim
  .exact h.elim
 |bad s k=>
  simp only[AD.wp]at h|-;split at h
  .rename_i cs M
   try simp only[M]
   refine ⟨h,.none,rfl,trivial,by simp,by simp,?_,by simp[AD.x6],by simp,fun env2 w E u=>?_⟩
   .intro s' he;simp only[EV.ref,wi]at he;exact .inl (by simp[AD.Abb,he])
   .have B:=w.sl s (by simp[AD.slots]);rw[M]at B;obtain⟨ds,I,_⟩:=B.bx rfl;simp only[AD.wp,I];exact u
  .rename_i row M
   try simp only[M]
   refine A3 h rfl rfl fun env2 w E u=>?_;have:=(w.sl s (by simp[AD.slots])).pt M;simp only[AD.wp,this];exact u
  .exact h.elim
 |iad x i n=>
  simp only[AD.wp]at h|-;split at h
  .rename_i m es k j A hi
   try simp only[A,hi]
   obtain ⟨C,B,e,I,R⟩:=h;refine⟨C,B,e,I,A3 R rfl rfl fun env2 w E u=>?_⟩;simp only[AD.wp,w.val (x:=x) (fun s h=>DE h),w.val (x:=i) (fun s h=>Dq h),A,hi];exact⟨C,B,e,I,u⟩
  .exact h.elim
 |aad x i n k=>
  simp only[AD.wp]at h|-;split at h
  .rename_i row kk j A hi
   try simp only[A,hi]
   obtain ⟨C,B,I,R⟩:=h;refine⟨C,B,I,A3 R rfl rfl fun env2 w E u=>?_⟩;have:=(w.ev (x:=x) (fun s h=>DE h)).pt A;simp only[AD.wp,this,w.val (x:=i) (fun s h=>Dq h),hi];exact⟨C,B,I,u⟩
  .exact h.elim
 |ld x=>
  simp only[AD.wp]at h|-;cases D:BA O (x.ev O)with
  |none=>rw[D]at h;exact h.elim|some cs=>
   rw [D]at h;simp only[AW]at h|-;cases hf:GR cs with
   |none=>rw[hf]at h;exact h.elim|some t=>
    rw [hf]at h;refine⟨h.1,A3 h.2 rfl rfl fun env2 w E u=>?_⟩;simp only[AD.wp,w.addr (x:=x) (fun s h=>h),D,AW,hf];exact⟨h.1,u⟩
 |lda x n=>
  simp only[AD.wp]at h|-;cases D:BA O (x.ev O)with
  |none=>rw[D]at h;exact h.elim|some cs=>
   rw [D]at h;simp only[AW]at h|-;refine⟨h.1,A3 h.2 rfl rfl fun env2 w E u=>?_⟩;simp only[AD.wp,w.addr (x:=x) (fun s h=>h),D,AW];exact⟨h.1,u⟩
 |ldb s n=>
  simp only[AD.wp]at h|-;split at h
  .rename_i cs D
   try simp only[D]
   refine ⟨h.1,A3 h.2 rfl rfl fun env2 w E u=>?_⟩;have C:=w.addr (x:=.s s) (fun s h=>h);obtain⟨ds,I,_⟩:=(w.sl s (by simp[AD.slots])).bx D;simp only[AE.ev,D,I,BA,wi]at C;simp only[AD.wp,I,C];exact⟨h.1,u⟩
  .exact h.elim
 |ldt x=>
  simp only[AD.wp]at h|-;split at h
  .rename_i s F T;split at h
   .rename_i cs M;split at h
    .rename_i n es D
     try simp only[T,M,D]
     refine ⟨h,.cell s F (.list n es),by simp[BG.app,M],⟨cs,M,D⟩,by simp,?_,(fun s he=>by cases he),by simp[AD.x6],(fun s F t he=>by cases he;rfl),fun env2 w E u=>?_⟩
     .intro s' off' t' he;simp only[BG.cell.injEq]at he;obtain⟨rfl,rfl,rfl⟩:=he;cases x with
      |c t=>simp[AE.place]at T|s n=>
       simp only[AE.place]at T;split at T
       .rename_i q o J;simp only[wi,Prod.mk.injEq]at T;exact .inr ⟨n,by simp[AD.slots,AE.sl],by rw[J,T.1];rfl⟩
       .simp only[wi,Prod.mk.injEq]at T;exact .inl (by simp[AD.slots,AE.sl,T.1])
       .cases T
     .obtain⟨ds,C,B⟩:=w.eff;simp only[BG.app,C]at u;simp only[AD.wp,w.place (x:=x) (fun s h=>h),T,C,B];exact u
    .exact h.elim
   .exact h.elim
  .exact h.elim
 |bin k op x y=>
  simp only[AD.wp]at h|-;split at h
  .rename_i a b A U
   try simp only[A,U]
   cases L:KP k op a b with
   |none=>rw[L]at h;exact h.elim|some t=>
    rw [L]at h;refine A3 h rfl rfl fun env2 w E u=>?_;simp only[AD.wp,w.val (x:=x) (fun s h=>DE h),w.val (x:=y) (fun s h=>Dq h),A,U,L,AW];exact u
  .exact h.elim
 |not x=>
  simp only[AD.wp]at h|-;split at h
  .rename_i b A
   try simp only[A]
   refine A3 h rfl rfl fun env2 w E u=>?_;simp only[AD.wp,w.val (x:=x) (fun s h=>h),A];exact u
  .exact h.elim
 |neg x=>
  simp only[AD.wp]at h|-;split at h
  .rename_i k n A
   try simp only[A]
   refine A3 h rfl rfl fun env2 w E u=>?_;simp only[AD.wp,w.val (x:=x) (fun s h=>h),A];exact u
  .exact h.elim
 |pick c a b=>
  simp only[AD.wp]at h|-;split at h
  .rename_i q D
   try simp only[D]
   have key:∀t,((if q=true then a else b).ev O).val=some t->∀env2,Dx (.pick c a b) .none dst O env2->∀E:EV->AB->Prop,E (.tv t) env2->(AD.pick c a b).wp S env2 dst E:=by
    intro t Z env2 w E u;have hv:=w.val (x:=if q=true then a else b) (fun s h=>by
     cases q
     .exact Dq (Dq h)
     .exact Dq (DE h))
    simp only[AE.val]at hv;rw[Z]at hv;simp only[AD.wp,w.val (x:=c) (fun s h=>DE h),D];cases he:(if q=true then a else b).ev env2<;>rw[he]at hv<;>simp[EV.val]at hv<;>subst hv<;>exact u
   split at h
   .rename_i t A
    try simp only[A]
    exact A3 h rfl rfl (key t (by rw[A];rfl))
   .rename_i t A
    try simp only[A]
    exact A3 h rfl rfl (key t (by rw[A];rfl))
   .exact h.elim
  .exact h.elim
 |len x=>
  simp only[AD.wp]at h|-;split at h
  .rename_i n es A
   try simp only[A]
   refine A3 h rfl rfl fun env2 w E u=>?_;simp only[AD.wp,w.val (x:=x) (fun s h=>h),A];exact u
  .exact h.elim
 |fdv x k=>
  simp only[AD.wp]at h|-;split at h
  .rename_i row A
   try simp only[A]
   refine A3 h rfl rfl fun env2 w E u=>?_;simp only[AD.wp,w.val (x:=x) (fun s h=>h),A];exact u
  .exact h.elim
 |ldv x n=>
  simp only[AD.wp]at h|-;split at h
  .rename_i row A
   try simp only[A]
   refine ⟨h.1,A3 h.2 rfl rfl fun env2 w E u=>?_⟩;simp only[AD.wp,w.val (x:=x) (fun s h=>h),A];exact⟨h.1,u⟩
  .exact h.elim
 |AbM x=>
  simp only[AD.wp]at h|-;split at h
  .rename_i s A
   try simp only[A]
   refine A3 h rfl rfl fun env2 w E u=>?_;simp only[AD.wp,w.val (x:=x) (fun s h=>h),A];exact u
  .exact h.elim
 |slc n x lo hi=>
  simp only[AD.wp]at h|-;split at h
  .rename_i m es A
   try simp only[A]
   split at h
   .rename_i k1 l k2 hh C B
    try simp only[C,B]
    refine ⟨h.1,h.2.1,A3 h.2.2 rfl rfl fun env2 w E u=>?_⟩;simp only[AD.wp,w.val (x:=x) (fun s h=>DE h),A,w.bnd (x:=lo) (fun s h=>Dq (DE h)),w.bnd (x:=hi) (fun s h=>Dq (Dq h)),C,B];exact⟨h.1,h.2.1,u⟩
   .exact h.elim
  .exact h.elim
 |Aas x lo hi=>
  simp only[AD.wp]at h|-;split at h
  .rename_i str A
   try simp only[A]
   split at h
   .rename_i k1 l k2 hh C B
    try simp only[C,B]
    refine ⟨h.1,h.2.1,h.2.2.1,A3 h.2.2.2 rfl rfl fun env2 w E u=>?_⟩;simp only[AD.wp,w.val (x:=x) (fun s h=>DE h),A,w.bnd (x:=lo) (fun s h=>Dq (DE h)),w.bnd (x:=hi) (fun s h=>Dq (Dq h)),C,B];exact⟨h.1,h.2.1,h.2.2.1,u⟩
   .exact h.elim
  .exact h.elim
 |bld zero X=>
  simp only[AD.wp]at h|-;cases D:GD O X with
  |none=>rw[D]at h;exact h.elim|some ts=>
   rw [D]at h;simp only[AW]at h|-;cases hf:EY zero ts with
   |none=>rw[hf]at h;exact h.elim|some cs=>
    rw [hf]at h;refine A3 h rfl rfl fun env2 w E u=>?_;simp only[AD.wp,w.parts (xs:=X) (fun s h=>h),D,AW,hf];exact u
 |lst n X=>
  simp only[AD.wp]at h|-;cases D:Go.Sf.vals O X with
  |none=>rw[D]at h;exact h.elim|some ts=>
   rw [D]at h;simp only[AW]at h|-;refine⟨h.1,A3 h.2 rfl rfl fun env2 w E u=>?_⟩;simp only[AD.wp,w.vals (xs:=X) (fun s h=>h),D,AW];exact⟨h.1,u⟩
 |app n x y=>
  simp only[AD.wp]at h|-;split at h
  .rename_i m es m' fs A U
   try simp only[A,U]
   obtain ⟨C,B,I,R⟩:=h;cases x with
   |c t=>simp[AE.ev]at A|s s=>
    simp only[AE.ev]at A;subst C;refine⟨rfl,B,I,R,.slot s (.list m es),rfl,A,?_,by simp,(fun s he=>by cases he),by simp[AD.x6],by simp,fun env2 w E u=>?_⟩
    .intro s' t' he;simp only[BG.slot.injEq]at he;simp[AD.dem,AE.sl,he.1]
    .have:=w.eff;simp only[BG.ok]at this;simp only[AD.wp,AE.ev,this,w.val (x:=y) (fun s h=>Dq h),U];exact⟨trivial,B,I,u⟩
  .exact h.elim
 |call g xs=>
  simp only[AD.wp]at h|-;cases D:Go.Sf.vals O xs with
  |none=>rw[D]at h;exact h.elim|some ts=>
   rw [D]at h;simp only[AW]at h|-;obtain⟨r,C,B⟩:=h;refine⟨r,C,fun Q=>A3 (B Q) rfl (by cases r<;>rfl) fun env2 w E u=>?_⟩;simp only[AD.wp,w.vals (xs:=xs) (fun s h=>h),D,AW];exact⟨r,C,fun _=>u⟩
 |Abm x xs=>
  simp only[AD.wp]at h|-;split at h
  .rename_i g caps ts A D
   try simp only[A,D]
   obtain ⟨r,C,B⟩:=h;refine⟨r,C,fun Q=>A3 (B Q) rfl (by cases r<;>rfl) fun env2 w E u=>?_⟩;simp only[AD.wp,w.val (x:=x) (fun s h=>DE h),w.vals (xs:=xs) (fun s h=>Dq h),A,D];exact⟨r,C,fun _=>u⟩
  .exact h.elim
 |clo g xs=>
  simp only[AD.wp]at h|-;cases D:Go.Sf.vals O xs with
  |none=>rw[D]at h;exact h.elim|some ts=>
   rw [D]at h;simp only[AW]at h|-;refine A3 h rfl rfl fun env2 w E u=>?_;simp only[AD.wp,w.vals (xs:=xs) (fun s h=>h),D,AW];exact u
 |ext x i=>
  simp only[AD.wp]at h|-;split at h
  .rename_i ts A
   try simp only[A]
   cases hf:ts[i]? with
   |none=>rw[hf]at h;exact h.elim|some t=>
    rw [hf]at h;refine A3 h rfl rfl fun env2 w E u=>?_;have:=(w.ev (x:=x) (fun s h=>h)).tp A;simp only[AD.wp,this,hf,AW];exact u
  .exact h.elim
 |cvt k x=>
  simp only[AD.wp]at h|-;split at h
  .rename_i k n A
   try simp only[A]
   refine A3 h rfl rfl fun env2 w E u=>?_;simp only[AD.wp,w.val (x:=x) (fun s h=>h),A];exact u
  .exact h.elim
 |AaE x i=>
  simp only[AD.wp]at h|-;split at h
  .rename_i str k j A hi
   try simp only[A,hi]
   obtain ⟨C,b,B,I⟩:=h;refine⟨C,b,B,A3 I rfl rfl fun env2 w E u=>?_⟩;simp only[AD.wp,w.val (x:=x) (fun s h=>DE h),w.val (x:=i) (fun s h=>Dq h),A,hi];exact⟨C,b,B,u⟩
  .exact h.elim
 |Abx x=>
  simp only[AD.wp]at h|-;split at h
  .rename_i t A
   try simp only[A]
   refine A3 h rfl rfl fun env2 w E u=>?_;simp only[AD.wp,w.val (x:=x) (fun s h=>h),A];exact u
  .exact h.elim
 |AbF x=>
  simp only[AD.wp]at h|-;split at h
  .rename_i t d A
   try simp only[A]
   refine ⟨h.1,h.2,.none,rfl,trivial,by simp,by simp,(fun s he=>by cases he),fun _=>⟨rfl,fun Y hd=>?_⟩,by simp,fun env2 w E u=>?_⟩
   .simp only[wi]at hd;subst hd;exact h.1
   .simp only[AD.wp,w.val (x:=x) (fun s h=>h),A];exact⟨w.new rfl _ rfl h.1,u⟩
  .exact h.elim
 |mm mx x y=>
  simp only[AD.wp]at h|-;split at h
  .rename_i k a k' b A U
   try simp only[A,U]
   refine ⟨h.1,A3 h.2 rfl rfl fun env2 w E u=>?_⟩;simp only[AD.wp,w.val (x:=x) (fun s h=>DE h),w.val (x:=y) (fun s h=>Dq h),A,U];exact⟨h.1,u⟩
  .exact h.elim
 |alc cs=>
  simp only[AD.wp]at h|-;split at h
  .rename_i d;refine⟨h.1,h.2,.none,rfl,trivial,by simp,by simp,(fun s he=>by cases he),fun _=>⟨rfl,fun Y hd=>?_⟩,by simp,fun env2 w E u=>?_⟩
   .simp only[wi]at hd;subst hd;exact h.1
   .simp only[AD.wp];exact⟨w.new rfl _ rfl h.1,u⟩
  .exact h.elim
 |st n x v=>cases H
 |stb n s v=>cases H
 |frz s=>cases H
 |xal s=>
  simp only[AD.wp]at h|-;split at h
  .rename_i n es M
   try simp only[M]
   refine ⟨h,.none,rfl,trivial,by simp,by simp,?_,by simp[AD.x6],by simp,fun env2 w E u=>?_⟩
   .intro s' he;simp only[EV.ref,wi]at he;exact .inl (by simp[AD.Abb,he])
   .have B:=(w.sl s (by simp[AD.slots])).xo M;simp only[AD.wp,B];exact u
  .exact h.elim
 |AbE x=>
  simp only[AD.wp]at h|-;cases A:x.Aae O with
  |none=>rw[A]at h;exact h.elim|some p=>
   rw [A]at h;simp only[AW]at h|-;refine A3 h rfl rfl fun env2 w E u=>?_;simp only[AD.wp,w.Aae (x:=x) (fun s h=>h),A,AW];exact u
 |lan x=>
  simp only[AD.wp]at h|-;split at h
  .rename_i s F A;cases J:O.nat s F with
   |none=>rw[J]at h;exact h.elim|some es=>
    rw [J]at h;simp only[AW]at h
    try simp only[A,J]
    have G:∃n∈x.sl,O.get n=.bp s F:=by
     cases x with
     |c t=>simp[AE.ev]at A|s n=>exact⟨n,by simp[AE.sl],A⟩
    obtain ⟨n,N,L⟩:=G;refine⟨h,.none,rfl,trivial,by simp,by simp,?_,by simp[AD.x6],by simp,fun env2 w E u=>?_⟩
    .intro s' he;simp only[EV.ref,wi]at he;subst he;exact .inr ⟨n,N,by rw[L];rfl⟩
    .have C:=(w.ev (x:=x) (fun s h=>h)).bp A;have B:=(w.bp n N s (by rw[L];rfl)).nat F;rw[J]at B;simp only[AD.wp,C,B,AW];exact u
  .exact h.elim
 |nld x=>
  simp only[AD.wp]at h|-;split at h
  .rename_i s F r A;cases J:O.nat s F with
   |none=>rw[J]at h;exact h.elim|some es=>
    rw [J]at h;simp only[AW]at h;obtain⟨W,h⟩:=h
    try simp only[A,J]
    have G:∃n∈x.sl,O.get n=.nh s F (.el r):=by
     cases x with
     |c t=>simp[AE.ev]at A|s n=>exact⟨n,by simp[AE.sl],A⟩
    obtain ⟨n,N,L⟩:=G;refine⟨W,h,.none,rfl,trivial,by simp,by simp,?_,by simp[AD.x6],by simp,fun env2 w E u=>?_⟩
    .intro s' he;simp only[EV.ref,wi]at he;subst he;exact .inr ⟨n,N,by rw[L];rfl⟩
    .have C:=(w.ev (x:=x) (fun s h=>h)).nh A;have B:=(w.bp n N s (by rw[L];rfl)).nat F;rw[J]at B;simp only[AD.wp,C,B,AW];exact⟨W,u⟩
  .exact h.elim
 |nia x i=>
  simp only[AD.wp]at h|-;split at h
  .rename_i s F k j A V;cases J:O.nat s F with
   |none=>rw[J]at h;exact h.elim|some es=>
    rw [J]at h;simp only[AW]at h;obtain⟨W,I,h⟩:=h
    try simp only[A,V,J]
    have G:∃n∈x.sl,O.get n=.nh s F .hd:=by
     cases x with
     |c t=>simp[AE.ev]at A|s n=>exact⟨n,by simp[AE.sl],A⟩
    obtain ⟨n,N,L⟩:=G;refine⟨W,I,h,.none,rfl,trivial,by simp,by simp,?_,by simp[AD.x6],by simp,fun env2 w E u=>?_⟩
    .intro s' he;simp only[EV.ref,wi]at he;subst he;exact .inr ⟨n,DE N,by rw[L];rfl⟩
    .have C:=(w.ev (x:=x) (fun s h=>DE h)).nh A;have e2:=w.val (x:=i) (fun s h=>Dq h);have B:=(w.bp n (DE N) s (by rw[L];rfl)).nat F;rw[J]at B;simp only[AD.wp,C,e2,V,B,AW];exact⟨W,I,u⟩
  .rename_i s F r k j A V;cases J:O.nat s F with
   |none=>rw[J]at h;exact h.elim|some es=>
    rw [J]at h;simp only[AW]at h;obtain⟨W,fs,I,R,h⟩:=h
    try simp only[A,V,J]
    have G:∃n∈x.sl,O.get n=.nh s F (.rw r):=by
     cases x with
     |c t=>simp[AE.ev]at A|s n=>exact⟨n,by simp[AE.sl],A⟩
    obtain ⟨n,N,L⟩:=G;refine⟨W,fs,I,R,h,.none,rfl,trivial,by simp,by simp,?_,by simp[AD.x6],by simp,fun env2 w E u=>?_⟩
    .intro s' he;simp only[EV.ref,wi]at he;subst he;exact .inr ⟨n,DE N,by rw[L];rfl⟩
    .have C:=(w.ev (x:=x) (fun s h=>DE h)).nh A;have e2:=w.val (x:=i) (fun s h=>Dq h);have B:=(w.bp n (DE N) s (by rw[L];rfl)).nat F;rw[J]at B;simp only[AD.wp,C,e2,V,B,AW];exact⟨W,fs,I,R,u⟩
  .exact h.elim
 |lac x=>
  simp only[AD.wp]at h|-;split at h
  .rename_i s F A;split at h
   .rename_i p J
    try simp only[A,J]
    have G:∃n∈x.sl,O.get n=.bp s F:=by
     cases x with
     |c t=>simp[AE.ev]at A|s n=>exact⟨n,by simp[AE.sl],A⟩
    obtain ⟨n,N,L⟩:=G;refine⟨h,.none,rfl,trivial,by simp,by simp,?_,by simp[AD.x6],by simp,fun env2 w E u=>?_⟩
    .intro s' he;simp only[EV.ref,wi]at he;subst he;exact .inr ⟨n,N,by rw[L];rfl⟩
    .have C:=(w.ev (x:=x) (fun s h=>h)).bp A;have B:=(w.bp n N s (by rw[L];rfl)).x8 (some F);rw[J]at B;simp only[AD.wp,C,B];exact u
   .exact h.elim
  .exact h.elim
 |ctk _=>cases H
 |cpt _ _=>cases H
 |cut _ _ _=>cases H
 |Abo _ _ _ _=>cases H
 |Abd g xs=>
  simp only[AD.wp]at h|-;cases D:Go.Sf.vals O xs with
  |none=>rw[D]at h;exact h.elim|some ts=>
   rw [D]at h;simp only[AW]at h|-;obtain⟨r,C,B⟩:=h;refine⟨r,C,A3 B rfl rfl fun env2 w E u=>?_⟩;simp only[AD.wp,w.vals (xs:=xs) (fun s h=>h),D,AW];exact⟨r,C,u⟩
 |AaJ _ _ _=>cases H
 |AaV g xs=>
  simp only[AD.wp]at h|-;cases D:Go.Sf.AaB O xs with
  |none=>rw[D]at h;exact h.elim|some ts=>
   rw [D]at h;simp only[AW]at h|-;obtain⟨r,C,B⟩:=h;refine⟨r,C,fun Q=>A3 (B Q) rfl (by cases r<;>rfl) fun env2 w E u=>?_⟩;simp only[AD.wp,w.AaB (xs:=xs) (fun s h=>h),D,AW];exact⟨r,C,fun _=>u⟩
 |AbD X x=>
  simp only[AD.wp]at h|-;split at h
  .rename_i t d A
   try simp only[A]
   cases D:D0 X t.cells with
   |none=>rw[D]at h;exact h.elim|some cs=>
    rw [D]at h;simp only[AW]at h|-;refine⟨h.1,h.2,.none,rfl,trivial,by simp,by simp,(fun s he=>by cases he),fun _=>⟨rfl,fun Y hd=>?_⟩,by simp,fun env2 w E u=>?_⟩
    .simp only[wi]at hd;subst hd;exact h.1
    .simp only[AD.wp,w.val (x:=x) (fun s h=>h),A,D,AW];exact⟨w.new rfl _ rfl h.1,u⟩
  .exact h.elim
 |xia x i n=>
  simp only[AD.wp]at h|-;cases A:x.Aae O with
  |none=>rw[A]at h;exact h.elim|some p=>
   rw [A]at h;simp only[AW]at h|-;split at h
   .rename_i ik j V
    try simp only[V]
    obtain ⟨⟨C,B⟩,I,R,h5⟩:=h;have G:∃n∈x.sl,(O.get n).ref=some p.1.1:=by
     cases x with
     |c t=>simp[AE.ev,EV.ref]at C|s n=>exact⟨n,by simp[AE.sl],C⟩
    obtain ⟨m,hm',hr⟩:=G;refine⟨⟨C,B⟩,I,R,h5,.none,rfl,trivial,by simp,by simp,?_,by simp[AD.x6],by simp,fun env2 w E u=>?_⟩
    .intro s' he;simp only[EV.ref,wi]at he;subst he;exact .inr ⟨m,DE hm',hr⟩
    .have e1:=w.Aae (x:=x) (fun s h=>DE h);have e2:=w.val (x:=i) (fun s h=>Dq h);have e3:=(w.ev (x:=x) (fun s h=>DE h)).ref;simp only[AD.wp,e1,A,e2,V,AW,e3,C];exact⟨⟨trivial,B⟩,I,R,u⟩
   .exact h.elim
 |xfa x k=>
  simp only[AD.wp]at h|-;split at h
  .rename_i q i c A;split at h
   .rename_i p J
    try simp only[A,J]
    have G:∃n∈x.sl,O.get n=.lp q i c:=by
     cases x with
     |c t=>simp[AE.ev]at A|s n=>exact⟨n,by simp[AE.sl],A⟩
    obtain ⟨n,N,L⟩:=G;refine⟨h,.none,rfl,trivial,by simp,by simp,?_,by simp[AD.x6],by simp,fun env2 w E u=>?_⟩
    .intro s' he;simp only[EV.ref,wi]at he;subst he;exact .inr ⟨n,N,by rw[L];rfl⟩
    .have C:=(w.ev (x:=x) (fun s h=>h)).AbK (q:=q) (by rw[A];rfl);have B:=(w.bp n N q (by rw[L];rfl)).x8 i;rw[J]at B;simp only[AD.wp,C,A,B];exact u
   .exact h.elim
  .exact h.elim
 |xld x=>
  simp only[AD.wp]at h|-;split at h
  .rename_i q i c A;split at h
   .rename_i p J
    try simp only[A,J]
    cases D:(p.2.flatMap TV.cells)[c]? with
    |none=>rw[D]at h;exact h.elim|some t=>
     rw [D]at h;simp only[AW]at h|-;have G:∃n∈x.sl,O.get n=.lp q i c:=by
      cases x with
      |c t=>simp[AE.ev]at A|s n=>exact⟨n,by simp[AE.sl],A⟩
     obtain ⟨n,N,L⟩:=G;refine A3 h rfl rfl fun env2 w E u=>?_;have C:=(w.ev (x:=x) (fun s h=>h)).AbK (q:=q) (by rw[A];rfl);have B:=(w.bp n N q (by rw[L];rfl)).x8 i;rw[J]at B;simp only[AD.wp,C,A,B,D,AW];exact u
   .exact h.elim
  .exact h.elim
 |xst _ _ _=>cases H
 |rel _=>cases H
 |Abt _=>cases H
 |tkx _=>cases H
 |Abg _ _ _=>cases H
 |AaQ g xs=>
  simp only[AD.wp]at h|-;split at h
  .rename_i d;obtain⟨P,h⟩:=h;refine⟨P,?_⟩;cases D:Go.Sf.vals O xs with
   |none=>rw[D]at h;exact h.elim|some ts=>
    rw [D]at h;simp only[AW]at h|-;obtain⟨n,es,C,B⟩:=h;refine⟨n,es,C,fun Q=>⟨B Q,.none,rfl,trivial,by simp,by simp,(fun s he=>by cases he),fun _=>⟨rfl,fun Y hd=>?_⟩,by simp,fun env2 w E u=>?_⟩⟩
    .simp only[wi]at hd;subst hd;exact P
    .simp only[AD.wp,w.vals (xs:=xs) (fun s h=>h),D,AW];exact⟨w.new rfl _ rfl P,n,es,C,fun _=>u⟩
  .exact h.elim
 |mkx n z x=>
  simp only[AD.wp]at h|-;split at h
  .rename_i d k j A
   try simp only[A]
   obtain ⟨P,C,B,I⟩:=h;refine⟨P,C,B,I,.none,rfl,trivial,by simp,by simp,(fun s he=>by cases he),fun _=>⟨rfl,fun Y hd=>?_⟩,by simp,fun env2 w E u=>?_⟩
   .simp only[wi]at hd;subst hd;exact P
   .simp only[AD.wp,w.val (x:=x) (fun s h=>h),A];exact⟨w.new rfl _ rfl P,C,B,u⟩
  .exact h.elim
 |AaD _ _ _=>cases H
 |Aa2 _ _=>cases H
 |Aaz _=>cases H
 |Abw _=>cases H
 |AaT _ _=>cases H
 |nst _ _=>cases H
 |AbG _=>cases H
 |AaU _ _ _=>cases H
 |ldg _ _=>cases H
 |stq _ _ _ _=>cases H
 |mkm=>cases H
 |mvm _=>cases H
 |AaO _ _=>cases H
 |mlk _ _ _=>cases H
 |mup _ _ _ _=>cases H
 |mrg _ _=>cases H
 |mnx _=>cases H
 |men _=>cases H
 |Abr _=>cases H
 |stx _ _ _=>cases H
 |isn _=>cases H
 |Abe g xs=>
  simp only[AD.wp]at h|-;cases D:Go.Sf.vals O xs with
  |none=>rw[D]at h;exact h.elim|some ts=>
   rw [D]at h;simp only[AW]at h|-;obtain⟨r,C,B⟩:=h;refine⟨r,C,fun Q=>A3 (B Q) rfl rfl fun env2 w E u=>?_⟩;simp only[AD.wp,w.vals (xs:=xs) (fun s h=>h),D,AW];exact⟨r,C,fun _=>u⟩
 |AaF g xs=>
  simp only[AD.wp]at h|-;cases D:Go.Sf.vals O xs with
  |none=>rw[D]at h;exact h.elim|some ts=>
   rw [D]at h;simp only[AW]at h|-;obtain⟨r,C,I,B⟩:=h;refine⟨r,C,I,fun Q=>A3 (B Q) rfl rfl fun env2 w E u=>?_⟩;simp only[AD.wp,w.vals (xs:=xs) (fun s h=>h),D,AW];exact⟨r,C,I,fun _=>u⟩
 |AbP x k n agg=>
  simp only[AD.wp]at h|-;split at h
  .rename_i cs A
   try simp only[A]
   obtain ⟨C,B⟩:=h;refine⟨C,?_⟩;cases agg with
   |true=>
    simp only[if_true]at B|-;refine A3 B rfl rfl fun env2 w E u=>?_;simp only[AD.wp,w.val (x:=x) (fun s h=>h),A,if_true];exact⟨C,u⟩
   |false=>
    simp only[Bool.false_eq_true,if_false]at B|-;cases D:GR (cs.drop k)with
    |none=>rw[D]at B;exact B.elim|some t=>
     rw [D]at B;simp only[AW]at B|-;refine A3 B rfl rfl fun env2 w E u=>?_;simp only[AD.wp,w.val (x:=x) (fun s h=>h),A,Bool.false_eq_true,if_false,D,AW];exact⟨C,u⟩
  .exact h.elim
end
end Go.Sf
