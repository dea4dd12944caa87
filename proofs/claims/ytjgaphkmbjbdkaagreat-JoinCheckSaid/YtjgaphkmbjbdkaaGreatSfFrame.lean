/- What an operation leans on: the slots that it reads, whether or not they own their lists. -/
import Derived.Test.YtjgaphkmbjbdkaaGreatSfCode
set_option linter.all false
namespace Go.Sf
theorem nE{cs ds:List AS}(h:ds.map AS.key=cs.map AS.key):ds.map (·.t)=cs.map (·.t):=by
 have:=congrArg (List.map Prod.fst) h;simpa[List.map_map,Function.comp_def,AS.key]using this
def cz(p:TV×Bool):TV:=match p with
 |(.xl n es,true)=>.list n es|p=>p.1
theorem aA{cs ds:List AS}(h:ds.map AS.key=cs.map AS.key):ds.map AS.Abc=cs.map AS.Abc:=by
 have a:∀c:AS,c.Abc=cz c.key:=by
  rintro ⟨_|_,t⟩<;>cases t<;>rfl
 have:=congrArg (List.map cz) h;simpa[List.map_map,Function.comp_def,<-a]using this
def uh(p:TV×Bool):Option (Nat×Fq):=match p with
 |(.xl n es,true)=>some (n,es)|_=>none
theorem qp{cs ds:List AS}(h:ds.map AS.key=cs.map AS.key)(k:Nat):(match ds[k]? with
  |some ⟨true,.xl n es⟩=>some (n,es)|_=>none)=(match cs[k]? with
  |some ⟨true,.xl n es⟩=>some (n,es)|_=>none):=by
 have a:∀o:Option AS,(match o with
  |some ⟨true,.xl n es⟩=>some (n,es)|_=>none)=(o.map AS.key).bind uh:=by
  rintro (_|⟨_|_,t⟩)
  .rfl
  .cases t<;>rfl
  .cases t<;>rfl
 rw [a,a];have:=congrArg (fun l=>l[k]?) h;simp only[List.getElem?_map]at this;rw[this]
def ui(p:TV×Bool):Option Fq:=match p with
 |(.xn es,true)=>some es|_=>none
theorem qr{cs ds:List AS}(h:ds.map AS.key=cs.map AS.key)(k:Nat):(match ds[k]? with
  |some ⟨true,.xn es⟩=>some es|_=>none)=(match cs[k]? with
  |some ⟨true,.xn es⟩=>some es|_=>none):=by
 have a:∀o:Option AS,(match o with
  |some ⟨true,.xn es⟩=>some es|_=>none)=(o.map AS.key).bind ui:=by
  rintro (_|⟨_|_,t⟩)
  .rfl
  .cases t<;>rfl
  .cases t<;>rfl
 rw [a,a];have:=congrArg (fun l=>l[k]?) h;simp only[List.getElem?_map]at this;rw[this]
def EV.like(e e2:EV):Prop:=
 e2=e\/(∃n es,(e=.tv (.list n es)/\e2=.ow (.list n es))\/(e=.ow (.list n es)/\e2=.tv (.list n es)))\/∃cs ds,e=.bx cs/\e2=.bx ds/\ds.map AS.key=cs.map AS.key
theorem EV.like.rfl'(e:EV):e.like e:=.inl rfl
variable{e e2:EV}
theorem EV.like.symm(h:e.like e2):e2.like e:=by
 rcases h with rfl|⟨n,es,⟨rfl,rfl⟩|⟨rfl,rfl⟩⟩|⟨cs,ds,rfl,rfl,h⟩
 .exact .inl rfl
 .exact .inr (.inl ⟨n,es,.inr ⟨rfl,rfl⟩⟩)
 .exact .inr (.inl ⟨n,es,.inl ⟨rfl,rfl⟩⟩)
 .exact .inr (.inr ⟨ds,cs,rfl,rfl,h.symm⟩)
theorem EV.like.wi(h:e.like e2):e2.wi=e.wi:=by
 rcases h with rfl|⟨n,es,⟨rfl,rfl⟩|⟨rfl,rfl⟩⟩|⟨cs,ds,rfl,rfl,h⟩<;>rfl
variable{q:Nat}
theorem EV.like.Abt(h:e.like e2)(a:e.wi=some q):e2=e:=by
 rcases h with rfl|⟨n,es,⟨rfl,rfl⟩|⟨rfl,rfl⟩⟩|⟨cs,ds,rfl,rfl,h⟩
 .rfl
 .cases a
 .cases a
 .cases a
theorem EV.like.xo(h:e.like e2){n:Nat}{es:Fq}(he:e=.xo n es):e2=.xo n es:=by
 subst he;rcases h with rfl|⟨n,es,⟨h,_⟩|⟨h,_⟩⟩|⟨cs,ds,h,_⟩
 .rfl
 .cases h
 .cases h
 .cases h
theorem EV.like.val(h:e.like e2):e2.val=e.val:=by
 rcases h with rfl|⟨n,es,⟨rfl,rfl⟩|⟨rfl,rfl⟩⟩|⟨cs,ds,rfl,rfl,h⟩<;>rfl
theorem EV.like.pt(h:e.like e2){row:Fq}(he:e=.tv (.pt row)):e2=.tv (.pt row):=by
 subst he;rcases h with rfl|⟨n,es,⟨h,rfl⟩|⟨h,rfl⟩⟩|⟨cs,ds,h,rfl,a⟩
 .rfl
 .simp at h
 .cases h
 .cases h
theorem EV.like.bp(h:e.like e2){q a:Nat}(he:e=.bp q a):e2=.bp q a:=by
 subst he;rcases h with rfl|⟨n,es,⟨h,rfl⟩|⟨h,rfl⟩⟩|⟨cs,ds,h,rfl,b⟩
 .rfl
 .cases h
 .cases h
 .cases h
theorem EV.like.tp(h:e.like e2){a:Fq}(he:e=.tp a):e2=.tp a:=by
 subst he;rcases h with rfl|⟨n,es,⟨h,rfl⟩|⟨h,rfl⟩⟩|⟨cs,ds,h,rfl,b⟩
 .rfl
 .cases h
 .cases h
 .cases h
theorem EV.like.bx(h:e.like e2){cs:List AS}(he:e=.bx cs):∃ds,e2=.bx ds/\ds.map AS.key=cs.map AS.key:=by
 subst he;rcases h with rfl|⟨n,es,⟨h,rfl⟩|⟨h,rfl⟩⟩|⟨cs',ds,h,rfl,a⟩
 .exact⟨cs,rfl,rfl⟩
 .cases h
 .cases h
 .simp only[EV.bx.injEq]at h;subst h;exact⟨ds,rfl,a⟩
def AG.sl:AG->Ne
 |.s n=>[n]|.c _=>[]
def WE:Option AG->Ne
 |some x=>x.sl|none=>[]
def Fx:List AG->Ne
 |[]=>[]|x::xs=>x.sl++Fx xs
def UM:List (Nat×Nat×AG)->Ne
 |[]=>[]|x::xs=>x.2.2.sl++UM xs
def AE.slots:AE->Ne
 |.mv x=>x.sl|.tk s=>[s]|.Abd _=>[]|.fad x _=>x.sl|.bad s _=>[s]|.iad x i _=>x.sl++i.sl|.aad x i _ _=>x.sl++i.sl|.ld x=>x.sl|.lda x _=>x.sl|.ldb s _=>[s]|.ldt x=>x.sl|.bin _ _ x y=>x.sl++y.sl|.not x=>x.sl|.neg x=>x.sl|.pick c a b=>c.sl++(a.sl++b.sl)|.len x=>x.sl|.Abr x=>x.sl|.slc _ x lo hi=>x.sl++(WE lo++WE hi)|.Aan x lo hi=>x.sl++(WE lo++WE hi)|.bld _ ps=>UM ps|.lst _ ps=>Fx ps|.app _ x y=>x.sl++y.sl|.call _ xs=>Fx xs|.Abb x xs=>x.sl++Fx xs|.clo _ xs=>Fx xs|.ext x _=>x.sl|.cvt _ x=>x.sl|.Aal x i=>x.sl++i.sl|.Abe x=>x.sl|.Abo x=>x.sl|.mm _ x y=>x.sl++y.sl|.alc _=>[]|.st _ x v=>x.sl++v.sl|.stb _ s v=>s::v.sl|.frz s=>[s]|.Aa5 x _ _ _=>x.sl|.xal s=>[s]|.Abj x=>x.sl|.xia x i _=>x.sl++i.sl|.xfa x _=>x.sl|.xld x=>x.sl|.xst x v _=>x.sl++v.sl|.rel s=>[s]|.Aba _=>[]|.Aa6 _=>[]|.tkx s=>[s]|.AaW _ s y=>s::y.sl|.Aas _ xs=>Fx xs|.mkx _ _ x=>x.sl|.Aar _ x ys=>x.sl++Fx ys|.AaK _ x=>x.sl|.Aad gs=>gs.flatMap GC.sl|.stx _ s q=>[s,q]|.AaU _ xs=>Fx xs|.Aao _ xs=>Fx xs|.isn x=>x.sl|.fdv x _=>x.sl|.ldv x _=>x.sl|.lac x=>x.sl|.ctk x=>x.sl|.cpt x q=>x.sl++[q]|.cut _ s hi=>s::hi.sl|.AaC _ xs=>Fx xs|.Aa3 _ x=>x.sl|.Aa8 _ s _ x=>s::x.sl|.AaT _ xs=>Fx xs|.Aaj _ xs _=>Fx xs|.Abf q=>[q]|.Aax s q=>[s,q]|.lan x=>x.sl|.nia x i=>x.sl++i.sl|.nld x=>x.sl|.nst x v=>x.sl++v.sl|.Abn q=>[q]|.AaB _ xs _=>Fx xs|.ldg s _=>[s]|.stq _ _ x v=>x.sl++v.sl|.mkm=>[]|.mvm s=>[s]|.Aau _ xs=>Fx xs|.mlk s m x=>s::(m.sl++x.sl)|.mup s m x v=>s::(m.sl++(x.sl++v.sl))|.ta s m=>s::m.sl|.mnx s=>[s]|.men s=>[s]
def AE.dem:AE->Ne
 |.tk s=>[s]|.app _ x _=>x.sl|_=>[]
def AE.mov:AE->Bool
 |.st ..=>false|.stb ..=>false|.frz _=>false|.xst ..=>false|.rel _=>false|.Aba _=>false|.Aa6 _=>false|.tkx _=>false|.AaW ..=>false|.Aar ..=>false|.AaK ..=>false|.Aad _=>false|.stx ..=>false|.isn _=>false|.ctk _=>false|.cpt ..=>false|.cut ..=>false|.Aa8 ..=>false|.Aaj ..=>false|.Abf _=>false|.Aax ..=>false|.nst ..=>false|.Abn _=>false|.AaB ..=>false|.ldg ..=>false|.stq ..=>false|.mkm=>false|.mvm _=>false|.Aau ..=>false|.mlk ..=>false|.mup ..=>false|.ta ..=>false|.mnx _=>false|.men _=>false|_=>true
def AE.sA:AE->Bool
 |.alc _=>true|.Abo _=>true|.Aa3 ..=>true|.Aas ..=>true|.mkx ..=>true|_=>false
def AE.AaP:AE->Ne
 |.bad s _=>[s]|.xal s=>[s]|_=>[]
inductive BF where
 |none
 |slot (s:Nat) (t:TV)
 |cell (s off:Nat) (t:TV)
def BF.app:BF->AB->AB
 |.none,O=>O|.slot s t,O=>(s,.tv t)::O|.cell s off t,O=>match O.get s with
  |.bx cs=>(s,.bx (cs.set off ⟨false,t⟩))::O|_=>O
def BF.ok:BF->AB->Prop
 |.none,_=>True|.slot s t,O=>O.get s=.ow t|.cell s off t,O=>∃cs,O.get s=.bx cs/\cs[off]?=some ⟨true,t⟩
structure EN(op:AE)(f:BF)(dst:Option Nat)(O env2:AB):Prop where
 sl:∀s∈op.slots,(O.get s).like (env2.get s)
 bp:∀s∈op.slots,∀q,(O.get s).wi=some q->(O.get q).like (env2.get q)
 dem:∀s∈op.dem,(∀cs,O.get s≠.bx cs)->env2.get s=O.get s
 eff:f.ok env2
 new:op.sA=true->∀d,dst=some d->O.f0 d=true->env2.f0 d=true
section
variable{op:AE}{f:BF}{dst:Option Nat}{O env2:AB}
variable{x:AG}
theorem EN.val(h:EN op f dst O env2)(a:∀s∈x.sl,s∈op.slots):x.val env2=x.val O:=by
 cases x with
 |c t=>rfl|s n=>exact(h.sl n (a n (by simp[AG.sl]))).val
theorem EN.ev(h:EN op f dst O env2)(a:∀s∈x.sl,s∈op.slots):(x.ev O).like (x.ev env2):=by
 cases x with
 |c t=>exact .inl rfl|s n=>exact h.sl n (a n (by simp[AG.sl]))
theorem EN.vals(h:EN op f dst O env2):∀{xs:List AG},(∀s∈Fx xs,s∈op.slots)->Go.Sf.vals env2 xs=Go.Sf.vals O xs
 |[],_=>rfl|x::xs,b=>by
  simp only[Fx,List.mem_append]at b;simp only[Go.Sf.vals,h.val (x:=x) (fun s a=>b s (.inl a)),h.vals (xs:=xs) (fun s a=>b s (.inr a))]
theorem EN.parts(h:EN op f dst O env2):∀{xs:List (Nat×Nat×AG)},(∀s∈UM xs,s∈op.slots)->Gl env2 xs=Gl O xs
 |[],_=>rfl|(i,n,x)::xs,b=>by
  simp only[UM,List.mem_append]at b;simp only[Gl,h.val (x:=x) (fun s a=>b s (.inl a)),h.parts (xs:=xs) (fun s a=>b s (.inr a))]
theorem EN.bnd(h:EN op f dst O env2){x:Option AG}{k:Int}(a:∀s∈WE x,s∈op.slots):HI env2 k x=HI O k x:=by
 cases x with
 |none=>rfl|some x=>exact h.val a
theorem EN.addr(h:EN op f dst O env2)(j:∀s∈x.sl,s∈op.slots):BB env2 (x.ev env2)=BB O (x.ev O):=by
 cases x with
 |c t=>cases t<;>rfl
 |s n=>
  have g:=j n (by simp[AG.sl]);have a:=h.sl n g;have i:=h.bp n g;simp only[AG.ev];generalize O.get n=e at a i;generalize env2.get n=e2 at a;rcases a with rfl|⟨n,es,⟨rfl,rfl⟩|⟨rfl,rfl⟩⟩|⟨cs,ds,rfl,rfl,d⟩
  .cases e2 with
   |bp q k=>
    have b:=i q rfl;simp only[BB];generalize O.get q=e1 at b;generalize env2.get q=e2 at b;rcases b with rfl|⟨n,es,⟨rfl,rfl⟩|⟨rfl,rfl⟩⟩|⟨cs,ds,rfl,rfl,d⟩
    .rfl
    .rfl
    .rfl
    .simp only[List.map_drop,nE d]
   |tv t=>cases t<;>rfl
   |_=>rfl
  .rfl
  .rfl
  .simp only[BB,nE d]
theorem EN.place(h:EN op f dst O env2)(d:∀s∈x.sl,s∈op.slots):x.place env2=x.place O:=by
 cases x with
 |c t=>rfl|s n=>
  have g:=h.sl n (d n (by simp[AG.sl]));simp only[AG.place];rcases g with a|⟨n,es,⟨a,b⟩|⟨a,b⟩⟩|⟨cs,ds,a,b,_⟩
  .rw[a]
  .rw[a,b]
  .rw[a,b]
  .rw[a,b]
variable{q:Nat}
theorem EV.like.sR{O env2:AB}(h:(O.get q).like (env2.get q))(i:Option Nat):env2.sR q i=O.sR q i:=by
 rcases h with a|⟨n,es,⟨a,b⟩|⟨a,b⟩⟩|⟨cs,ds,a,b,c⟩
 .exact AB.x9 a
 .cases i<;>simp only[AB.sR,a,b]
 .cases i<;>simp only[AB.sR,a,b]
 .cases i with
  |none=>simp only[AB.sR,a,b]|some k=>simp only[AB.sR,a,b];exact qp c k
theorem EV.like.nat{O env2:AB}(h:(O.get q).like (env2.get q))(i:Nat):env2.nat q i=O.nat q i:=by
 rcases h with a|⟨n,es,⟨a,b⟩|⟨a,b⟩⟩|⟨cs,ds,a,b,c⟩
 .exact AB.Aah a
 .simp only[AB.nat,a,b]
 .simp only[AB.nat,a,b]
 .simp only[AB.nat,a,b];exact qr c i
variable{e e2:EV}
theorem EV.like.nh(h:e.like e2){q i:Nat}{k:NK}(he:e=.nh q i k):e2=.nh q i k:=by
 subst he;exact h.Abt rfl
theorem EN.up(h:EN op f dst O env2)(g:∀s∈x.sl,s∈op.slots):x.up env2=x.up O:=by
 cases x with
 |c t=>rfl|s n=>
  have d:=g n (by simp[AG.sl]);have j:=h.sl n d;have k:=h.bp n d;simp only[AG.up];rcases j with a|⟨m,es,⟨a,b⟩|⟨a,b⟩⟩|⟨cs,ds,a,b,_⟩
  .rw[a];cases he:O.get n with
   |la q i=>simp only[(k q (by rw[he];rfl)).sR i]|_=>rfl
  .rw[a,b]
  .rw[a,b]
  .rw[a,b]
theorem EN.Abp(h:EN op f dst O env2)(i:∀s∈x.sl,s∈op.slots):x.Abp env2=x.Abp O:=by
 unfold AG.Abp;rw[h.up i];cases x.up O with
 |some p=>rfl|none=>
  cases x with
  |c t=>cases t<;>rfl
  |s n=>
   have j:=i n (by simp[AG.sl]);have k:=h.sl n j;have o:=h.bp n j;simp only[AG.ev];rcases k with a|⟨m,es,⟨a,d⟩|⟨a,d⟩⟩|⟨cs,ds,a,d,u⟩
   .rw[a];cases he:O.get n with
    |bp q w=>
     have r:=o q (by rw[he];rfl);simp only;rcases r with b|⟨m,es,⟨b,g⟩|⟨b,g⟩⟩|⟨cs,ds,b,g,v⟩
     .rw[b]
     .rw[b,g]
     .rw[b,g]
     .rw[b,g];have:=aA v;simp only[List.map_drop,this]
    |_=>rfl
   .rw[a,d];rfl
   .rw[a,d];rfl
   .rw[a,d];simp only[aA u]
theorem EN.Aai(h:EN op f dst O env2):∀{xs:List AG},(∀s∈Fx xs,s∈op.slots)->Go.Sf.Aai env2 xs=Go.Sf.Aai O xs
 |[],_=>rfl|x::xs,b=>by
  simp only[Fx,List.mem_append]at b;simp only[Go.Sf.Aai,h.Abp (x:=x) (fun s a=>b s (.inl a)),h.Aai (xs:=xs) (fun s a=>b s (.inr a))]
end
structure gH(S:FuncId->Fq->Ax->Prop)(op:AE)(dst:Option Nat)(O:AB)(e:EV)(env':AB)(f:BF):Prop where
 env':env'=f.app O
 ok:f.ok O
 slot:∀s t,f=.slot s t->s∈op.dem
 cell:∀s off t,f=.cell s off t->(s∈op.slots\/∃x∈op.slots,(O.get x).wi=some s)
 wi:∀s,e.wi=some s->(s∈op.AaP\/∃x∈op.slots,(O.get x).wi=some s)
 new:op.sA=true->e.wi=none/\∀d,dst=some d->O.f0 d=true
 xl:∀s off t,f=.cell s off t->t.Aay=false
 again:∀env2,EN op f dst O env2->∀K2:EV->AB->Prop,K2 e (f.app env2)->op.wp S env2 dst K2
section
variable{S:FuncId->Fq->Ax->Prop}{op:AE}{dst:Option Nat}{O:AB}{K:EV->AB->Prop}
variable{e:EV}
theorem A3(b:K e O)(c:op.sA=false)(d:e.wi=none)(h:∀env2,EN op .none dst O env2->∀a:EV->AB->Prop,a e env2->op.wp S env2 dst a):K e O/\∃f,gH S op dst O e O f:=
 ⟨b,.none,rfl,trivial,by simp,by simp,(fun s he=>by rw[d]at he;cases he),by simp[c],by simp,h⟩
variable{α:Type}{l m:List α}
theorem EH{x:α}(h:x∈m):x∈l++m:=List.mem_append_right _ h
theorem Dh{x:α}(h:x∈l):x∈l++m:=List.mem_append_left _ h
theorem frame(H:op.mov=true)(h:op.wp S O dst K):op.wp S O dst fun e env'=>K e env'/\∃f,gH S op dst O e env' f:=by
 cases op with
 |mv x=>
  simp only[AE.wp]at h|-;have key:∀t,(x.ev O).val=some t->∀env2,EN (.mv x) .none dst O env2->∀E:EV->AB->Prop,E (.tv t) env2->(AE.mv x).wp S env2 dst E:=by
   intro t ht env2 w E u;have hv:=w.val (x:=x) (fun s h=>h);simp only[AG.val]at hv;rw[ht]at hv;simp only[AE.wp];cases he:x.ev env2<;>rw[he]at hv<;>simp[EV.val]at hv<;>subst hv<;>exact u
  split at h
  .rename_i t A
   try simp only[A]
   exact A3 h rfl rfl (key t (by rw[A];rfl))
  .rename_i t A
   try simp only[A]
   exact A3 h rfl rfl (key t (by rw[A];rfl))
  .rename_i Q A
   try simp only[A]
   refine A3 h rfl rfl fun env2 w E u=>?_;cases x with
   |c t=>simp[AG.ev]at A|s n=>
    simp only[AG.ev]at A;have B:env2.get n=.tp Q:=(w.sl n (by simp[AE.slots,AG.sl])).tp A;simp only[AE.wp,AG.ev,B];exact u
  .exact h.elim
 |tk s=>
  simp only[AE.wp]at h|-;split at h
  .rename_i t M
   try simp only[M]
   refine ⟨h,.slot s t,rfl,M,?_,by simp,(fun s he=>by cases he),by simp[AE.sA],by simp,fun env2 w E u=>?_⟩
   .intro s' t' he;simp only[BF.slot.injEq]at he;simp[AE.dem,he.1]
   .have:=w.eff;simp only[BF.ok]at this;simp only[AE.wp,this];exact u
  .rename_i t M
   try simp only[M]
   refine A3 h rfl rfl fun env2 w E u=>?_;have:=w.dem s (by simp[AE.dem]) (by simp[M]);simp only[AE.wp,this,M];exact u
  .exact h.elim
 |Abd n=>exact A3 h rfl rfl fun env2 w E u=>u|fad x k=>
  simp only[AE.wp]at h|-;split at h
  .rename_i row A
   try simp only[A]
   refine A3 h rfl rfl fun env2 w E u=>?_;have:=(w.ev (x:=x) (fun s h=>h)).pt A;simp only[AE.wp,this];exact u
  .rename_i s F A;split at h
   .rename_i cs M
    try simp only[A,M]
    have G:∃n∈x.sl,O.get n=.bp s F:=by
     cases x with
     |c t=>simp[AG.ev]at A|s n=>exact⟨n,by simp[AG.sl],A⟩
    obtain ⟨n,N,L⟩:=G;refine⟨h,.none,rfl,trivial,by simp,by simp,?_,by simp[AE.sA],by simp,fun env2 w E u=>?_⟩
    .intro s' he;simp only[EV.wi,sr]at he;subst he;exact .inr ⟨n,N,by rw[L];rfl⟩
    .have C:=(w.ev (x:=x) (fun s h=>h)).bp A;have B:=w.bp n N s (by rw[L];rfl);rw[M]at B;obtain⟨ds,I,_⟩:=B.bx rfl;simp only[AE.wp,C,I];exact u
   .exact h.elim
  .exact h.elim
 |bad s k=>
  simp only[AE.wp]at h|-;split at h
  .rename_i cs M
   try simp only[M]
   refine ⟨h,.none,rfl,trivial,by simp,by simp,?_,by simp[AE.sA],by simp,fun env2 w E u=>?_⟩
   .intro s' he;simp only[EV.wi,sr]at he;exact .inl (by simp[AE.AaP,he])
   .have B:=w.sl s (by simp[AE.slots]);rw[M]at B;obtain⟨ds,I,_⟩:=B.bx rfl;simp only[AE.wp,I];exact u
  .rename_i row M
   try simp only[M]
   refine A3 h rfl rfl fun env2 w E u=>?_;have:=(w.sl s (by simp[AE.slots])).pt M;simp only[AE.wp,this];exact u
  .exact h.elim
 |iad x i n=>
  simp only[AE.wp]at h|-;split at h
  .rename_i m es k j A hi
   try simp only[A,hi]
   obtain ⟨C,B,e,I,T⟩:=h;refine⟨C,B,e,I,A3 T rfl rfl fun env2 w E u=>?_⟩;simp only[AE.wp,w.val (x:=x) (fun s h=>Dh h),w.val (x:=i) (fun s h=>EH h),A,hi];exact⟨C,B,e,I,u⟩
  .exact h.elim
 |aad x i n k=>
  simp only[AE.wp]at h|-;split at h
  .rename_i row kk j A hi
   try simp only[A,hi]
   obtain ⟨C,B,I,T⟩:=h;refine⟨C,B,I,A3 T rfl rfl fun env2 w E u=>?_⟩;have:=(w.ev (x:=x) (fun s h=>Dh h)).pt A;simp only[AE.wp,this,w.val (x:=i) (fun s h=>EH h),hi];exact⟨C,B,I,u⟩
  .exact h.elim
 |ld x=>
  simp only[AE.wp]at h|-;cases D:BB O (x.ev O)with
  |none=>rw[D]at h;exact h.elim|some cs=>
   rw [D]at h;simp only[Al]at h|-;cases hf:G8 cs with
   |none=>rw[hf]at h;exact h.elim|some t=>
    rw [hf]at h;refine⟨h.1,A3 h.2 rfl rfl fun env2 w E u=>?_⟩;simp only[AE.wp,w.addr (x:=x) (fun s h=>h),D,Al,hf];exact⟨h.1,u⟩
 |lda x n=>
  simp only[AE.wp]at h|-;cases D:BB O (x.ev O)with
  |none=>rw[D]at h;exact h.elim|some cs=>
   rw [D]at h;simp only[Al]at h|-;refine⟨h.1,A3 h.2 rfl rfl fun env2 w E u=>?_⟩;simp only[AE.wp,w.addr (x:=x) (fun s h=>h),D,Al];exact⟨h.1,u⟩
 |ldb s n=>
  simp only[AE.wp]at h|-;split at h
  .rename_i cs D
   try simp only[D]
   refine ⟨h.1,A3 h.2 rfl rfl fun env2 w E u=>?_⟩;have C:=w.addr (x:=.s s) (fun s h=>h);obtain⟨ds,I,_⟩:=(w.sl s (by simp[AE.slots])).bx D;simp only[AG.ev,D,I,BB,sr]at C;simp only[AE.wp,I,C];exact⟨h.1,u⟩
  .exact h.elim
 |ldt x=>
  simp only[AE.wp]at h|-;split at h
  .rename_i s F U;split at h
   .rename_i cs M;split at h
    .rename_i n es D
     try simp only[U,M,D]
     refine ⟨h,.cell s F (.list n es),by simp[BF.app,M],⟨cs,M,D⟩,by simp,?_,(fun s he=>by cases he),by simp[AE.sA],(fun s F t he=>by cases he;rfl),fun env2 w E u=>?_⟩
     .intro s' off' t' he;simp only[BF.cell.injEq]at he;obtain⟨rfl,rfl,rfl⟩:=he;cases x with
      |c t=>simp[AG.place]at U|s n=>
       simp only[AG.place]at U;split at U
       .rename_i q o J;simp only[sr,Prod.mk.injEq]at U;exact .inr ⟨n,by simp[AE.slots,AG.sl],by rw[J,U.1];rfl⟩
       .simp only[sr,Prod.mk.injEq]at U;exact .inl (by simp[AE.slots,AG.sl,U.1])
       .cases U
     .obtain⟨ds,C,B⟩:=w.eff;simp only[BF.app,C]at u;simp only[AE.wp,w.place (x:=x) (fun s h=>h),U,C,B];exact u
    .exact h.elim
   .exact h.elim
  .exact h.elim
 |bin k op x y=>
  simp only[AE.wp]at h|-;split at h
  .rename_i a b A V
   try simp only[A,V]
   cases L:L0 k op a b with
   |none=>rw[L]at h;exact h.elim|some t=>
    rw [L]at h;refine A3 h rfl rfl fun env2 w E u=>?_;simp only[AE.wp,w.val (x:=x) (fun s h=>Dh h),w.val (x:=y) (fun s h=>EH h),A,V,L,Al];exact u
  .exact h.elim
 |not x=>
  simp only[AE.wp]at h|-;split at h
  .rename_i b A
   try simp only[A]
   refine A3 h rfl rfl fun env2 w E u=>?_;simp only[AE.wp,w.val (x:=x) (fun s h=>h),A];exact u
  .exact h.elim
 |neg x=>
  simp only[AE.wp]at h|-;split at h
  .rename_i k n A
   try simp only[A]
   refine A3 h rfl rfl fun env2 w E u=>?_;simp only[AE.wp,w.val (x:=x) (fun s h=>h),A];exact u
  .exact h.elim
 |pick c a b=>
  simp only[AE.wp]at h|-;split at h
  .rename_i q D
   try simp only[D]
   have key:∀t,((if q=true then a else b).ev O).val=some t->∀env2,EN (.pick c a b) .none dst O env2->∀E:EV->AB->Prop,E (.tv t) env2->(AE.pick c a b).wp S env2 dst E:=by
    intro t ht env2 w E u;have hv:=w.val (x:=if q=true then a else b) (fun s h=>by
     cases q
     .exact EH (EH h)
     .exact EH (Dh h))
    simp only[AG.val]at hv;rw[ht]at hv;simp only[AE.wp,w.val (x:=c) (fun s h=>Dh h),D];cases he:(if q=true then a else b).ev env2<;>rw[he]at hv<;>simp[EV.val]at hv<;>subst hv<;>exact u
   split at h
   .rename_i t A
    try simp only[A]
    exact A3 h rfl rfl (key t (by rw[A];rfl))
   .rename_i t A
    try simp only[A]
    exact A3 h rfl rfl (key t (by rw[A];rfl))
   .exact h.elim
  .exact h.elim
 |len x=>
  simp only[AE.wp]at h|-;split at h
  .rename_i n es A
   try simp only[A]
   refine A3 h rfl rfl fun env2 w E u=>?_;simp only[AE.wp,w.val (x:=x) (fun s h=>h),A];exact u
  .exact h.elim
 |fdv x k=>
  simp only[AE.wp]at h|-;split at h
  .rename_i row A
   try simp only[A]
   refine A3 h rfl rfl fun env2 w E u=>?_;simp only[AE.wp,w.val (x:=x) (fun s h=>h),A];exact u
  .exact h.elim
 |ldv x n=>
  simp only[AE.wp]at h|-;split at h
  .rename_i row A
   try simp only[A]
   refine ⟨h.1,A3 h.2 rfl rfl fun env2 w E u=>?_⟩;simp only[AE.wp,w.val (x:=x) (fun s h=>h),A];exact⟨h.1,u⟩
  .exact h.elim
 |Abr x=>
  simp only[AE.wp]at h|-;split at h
  .rename_i s A
   try simp only[A]
   refine A3 h rfl rfl fun env2 w E u=>?_;simp only[AE.wp,w.val (x:=x) (fun s h=>h),A];exact u
  .exact h.elim
 |slc n x lo hi=>
  simp only[AE.wp]at h|-;split at h
  .rename_i m es A
   try simp only[A]
   split at h
   .rename_i k1 l k2 hh C B
    try simp only[C,B]
    refine ⟨h.1,h.2.1,A3 h.2.2 rfl rfl fun env2 w E u=>?_⟩;simp only[AE.wp,w.val (x:=x) (fun s h=>Dh h),A,w.bnd (x:=lo) (fun s h=>EH (Dh h)),w.bnd (x:=hi) (fun s h=>EH (EH h)),C,B];exact⟨h.1,h.2.1,u⟩
   .exact h.elim
  .exact h.elim
 |Aan x lo hi=>
  simp only[AE.wp]at h|-;split at h
  .rename_i str A
   try simp only[A]
   split at h
   .rename_i k1 l k2 hh C B
    try simp only[C,B]
    refine ⟨h.1,h.2.1,h.2.2.1,A3 h.2.2.2 rfl rfl fun env2 w E u=>?_⟩;simp only[AE.wp,w.val (x:=x) (fun s h=>Dh h),A,w.bnd (x:=lo) (fun s h=>EH (Dh h)),w.bnd (x:=hi) (fun s h=>EH (EH h)),C,B];exact⟨h.1,h.2.1,h.2.2.1,u⟩
   .exact h.elim
  .exact h.elim
 |bld zero Y=>
  simp only[AE.wp]at h|-;cases D:Gl O Y with
  |none=>rw[D]at h;exact h.elim|some Q=>
   rw [D]at h;simp only[Al]at h|-;cases hf:E4 zero Q with
   |none=>rw[hf]at h;exact h.elim|some cs=>
    rw [hf]at h;refine A3 h rfl rfl fun env2 w E u=>?_;simp only[AE.wp,w.parts (xs:=Y) (fun s h=>h),D,Al,hf];exact u
 |lst n Y=>
  simp only[AE.wp]at h|-;cases D:Go.Sf.vals O Y with
  |none=>rw[D]at h;exact h.elim|some Q=>
   rw [D]at h;simp only[Al]at h|-;refine⟨h.1,A3 h.2 rfl rfl fun env2 w E u=>?_⟩;simp only[AE.wp,w.vals (xs:=Y) (fun s h=>h),D,Al];exact⟨h.1,u⟩
 |app n x y=>
  simp only[AE.wp]at h|-;split at h
  .rename_i m es m' fs A V
   try simp only[A,V]
   obtain ⟨C,B,I,T⟩:=h;cases x with
   |c t=>simp[AG.ev]at A|s s=>
    simp only[AG.ev]at A;subst C;refine⟨rfl,B,I,T,.slot s (.list m es),rfl,A,?_,by simp,(fun s he=>by cases he),by simp[AE.sA],by simp,fun env2 w E u=>?_⟩
    .intro s' t' he;simp only[BF.slot.injEq]at he;simp[AE.dem,AG.sl,he.1]
    .have:=w.eff;simp only[BF.ok]at this;simp only[AE.wp,AG.ev,this,w.val (x:=y) (fun s h=>EH h),V];exact⟨trivial,B,I,u⟩
  .exact h.elim
 |call g xs=>
  simp only[AE.wp]at h|-;cases D:Go.Sf.vals O xs with
  |none=>rw[D]at h;exact h.elim|some Q=>
   rw [D]at h;simp only[Al]at h|-;obtain⟨r,C,B⟩:=h;refine⟨r,C,fun R=>A3 (B R) rfl (by cases r<;>rfl) fun env2 w E u=>?_⟩;simp only[AE.wp,w.vals (xs:=xs) (fun s h=>h),D,Al];exact⟨r,C,fun _=>u⟩
 |Abb x xs=>
  simp only[AE.wp]at h|-;split at h
  .rename_i g caps Q A D
   try simp only[A,D]
   obtain ⟨r,C,B⟩:=h;refine⟨r,C,fun R=>A3 (B R) rfl (by cases r<;>rfl) fun env2 w E u=>?_⟩;simp only[AE.wp,w.val (x:=x) (fun s h=>Dh h),w.vals (xs:=xs) (fun s h=>EH h),A,D];exact⟨r,C,fun _=>u⟩
  .exact h.elim
 |clo g xs=>
  simp only[AE.wp]at h|-;cases D:Go.Sf.vals O xs with
  |none=>rw[D]at h;exact h.elim|some Q=>
   rw [D]at h;simp only[Al]at h|-;refine A3 h rfl rfl fun env2 w E u=>?_;simp only[AE.wp,w.vals (xs:=xs) (fun s h=>h),D,Al];exact u
 |ext x i=>
  simp only[AE.wp]at h|-;split at h
  .rename_i Q A
   try simp only[A]
   cases hf:Q[i]? with
   |none=>rw[hf]at h;exact h.elim|some t=>
    rw [hf]at h;refine A3 h rfl rfl fun env2 w E u=>?_;have:=(w.ev (x:=x) (fun s h=>h)).tp A;simp only[AE.wp,this,hf,Al];exact u
  .exact h.elim
 |cvt k x=>
  simp only[AE.wp]at h|-;split at h
  .rename_i k n A
   try simp only[A]
   refine A3 h rfl rfl fun env2 w E u=>?_;simp only[AE.wp,w.val (x:=x) (fun s h=>h),A];exact u
  .exact h.elim
 |Aal x i=>
  simp only[AE.wp]at h|-;split at h
  .rename_i str k j A hi
   try simp only[A,hi]
   obtain ⟨C,b,B,I⟩:=h;refine⟨C,b,B,A3 I rfl rfl fun env2 w E u=>?_⟩;simp only[AE.wp,w.val (x:=x) (fun s h=>Dh h),w.val (x:=i) (fun s h=>EH h),A,hi];exact⟨C,b,B,u⟩
  .exact h.elim
 |Abe x=>
  simp only[AE.wp]at h|-;split at h
  .rename_i t A
   try simp only[A]
   refine A3 h rfl rfl fun env2 w E u=>?_;simp only[AE.wp,w.val (x:=x) (fun s h=>h),A];exact u
  .exact h.elim
 |Abo x=>
  simp only[AE.wp]at h|-;split at h
  .rename_i t d A
   try simp only[A]
   refine ⟨h.1,h.2,.none,rfl,trivial,by simp,by simp,(fun s he=>by cases he),fun _=>⟨rfl,fun Z hd=>?_⟩,by simp,fun env2 w E u=>?_⟩
   .simp only[sr]at hd;subst hd;exact h.1
   .simp only[AE.wp,w.val (x:=x) (fun s h=>h),A];exact⟨w.new rfl _ rfl h.1,u⟩
  .exact h.elim
 |mm mx x y=>
  simp only[AE.wp]at h|-;split at h
  .rename_i k a k' b A V
   try simp only[A,V]
   refine ⟨h.1,A3 h.2 rfl rfl fun env2 w E u=>?_⟩;simp only[AE.wp,w.val (x:=x) (fun s h=>Dh h),w.val (x:=y) (fun s h=>EH h),A,V];exact⟨h.1,u⟩
  .exact h.elim
 |alc cs=>
  simp only[AE.wp]at h|-;split at h
  .rename_i d;refine⟨h.1,h.2,.none,rfl,trivial,by simp,by simp,(fun s he=>by cases he),fun _=>⟨rfl,fun Z hd=>?_⟩,by simp,fun env2 w E u=>?_⟩
   .simp only[sr]at hd;subst hd;exact h.1
   .simp only[AE.wp];exact⟨w.new rfl _ rfl h.1,u⟩
  .exact h.elim
 |st n x v=>cases H
 |stb n s v=>cases H
 |frz s=>cases H
 |xal s=>
  simp only[AE.wp]at h|-;split at h
  .rename_i n es M
   try simp only[M]
   refine ⟨h,.none,rfl,trivial,by simp,by simp,?_,by simp[AE.sA],by simp,fun env2 w E u=>?_⟩
   .intro s' he;simp only[EV.wi,sr]at he;exact .inl (by simp[AE.AaP,he])
   .have B:=(w.sl s (by simp[AE.slots])).xo M;simp only[AE.wp,B];exact u
  .exact h.elim
 |Abj x=>
  simp only[AE.wp]at h|-;cases A:x.up O with
  |none=>rw[A]at h;exact h.elim|some p=>
   rw [A]at h;simp only[Al]at h|-;refine A3 h rfl rfl fun env2 w E u=>?_;simp only[AE.wp,w.up (x:=x) (fun s h=>h),A,Al];exact u
 |lan x=>
  simp only[AE.wp]at h|-;split at h
  .rename_i s F A;cases J:O.nat s F with
   |none=>rw[J]at h;exact h.elim|some es=>
    rw [J]at h;simp only[Al]at h
    try simp only[A,J]
    have G:∃n∈x.sl,O.get n=.bp s F:=by
     cases x with
     |c t=>simp[AG.ev]at A|s n=>exact⟨n,by simp[AG.sl],A⟩
    obtain ⟨n,N,L⟩:=G;refine⟨h,.none,rfl,trivial,by simp,by simp,?_,by simp[AE.sA],by simp,fun env2 w E u=>?_⟩
    .intro s' he;simp only[EV.wi,sr]at he;subst he;exact .inr ⟨n,N,by rw[L];rfl⟩
    .have C:=(w.ev (x:=x) (fun s h=>h)).bp A;have B:=(w.bp n N s (by rw[L];rfl)).nat F;rw[J]at B;simp only[AE.wp,C,B,Al];exact u
  .exact h.elim
 |nld x=>
  simp only[AE.wp]at h|-;split at h
  .rename_i s F r A;cases J:O.nat s F with
   |none=>rw[J]at h;exact h.elim|some es=>
    rw [J]at h;simp only[Al]at h;obtain⟨X,h⟩:=h
    try simp only[A,J]
    have G:∃n∈x.sl,O.get n=.nh s F (.el r):=by
     cases x with
     |c t=>simp[AG.ev]at A|s n=>exact⟨n,by simp[AG.sl],A⟩
    obtain ⟨n,N,L⟩:=G;refine⟨X,h,.none,rfl,trivial,by simp,by simp,?_,by simp[AE.sA],by simp,fun env2 w E u=>?_⟩
    .intro s' he;simp only[EV.wi,sr]at he;subst he;exact .inr ⟨n,N,by rw[L];rfl⟩
    .have C:=(w.ev (x:=x) (fun s h=>h)).nh A;have B:=(w.bp n N s (by rw[L];rfl)).nat F;rw[J]at B;simp only[AE.wp,C,B,Al];exact⟨X,u⟩
  .exact h.elim
 |nia x i=>
  simp only[AE.wp]at h|-;split at h
  .rename_i s F k j A W;cases J:O.nat s F with
   |none=>rw[J]at h;exact h.elim|some es=>
    rw [J]at h;simp only[Al]at h;obtain⟨X,I,h⟩:=h
    try simp only[A,W,J]
    have G:∃n∈x.sl,O.get n=.nh s F .hd:=by
     cases x with
     |c t=>simp[AG.ev]at A|s n=>exact⟨n,by simp[AG.sl],A⟩
    obtain ⟨n,N,L⟩:=G;refine⟨X,I,h,.none,rfl,trivial,by simp,by simp,?_,by simp[AE.sA],by simp,fun env2 w E u=>?_⟩
    .intro s' he;simp only[EV.wi,sr]at he;subst he;exact .inr ⟨n,Dh N,by rw[L];rfl⟩
    .have C:=(w.ev (x:=x) (fun s h=>Dh h)).nh A;have e2:=w.val (x:=i) (fun s h=>EH h);have B:=(w.bp n (Dh N) s (by rw[L];rfl)).nat F;rw[J]at B;simp only[AE.wp,C,e2,W,B,Al];exact⟨X,I,u⟩
  .rename_i s F r k j A W;cases J:O.nat s F with
   |none=>rw[J]at h;exact h.elim|some es=>
    rw [J]at h;simp only[Al]at h;obtain⟨X,fs,I,T,h⟩:=h
    try simp only[A,W,J]
    have G:∃n∈x.sl,O.get n=.nh s F (.rw r):=by
     cases x with
     |c t=>simp[AG.ev]at A|s n=>exact⟨n,by simp[AG.sl],A⟩
    obtain ⟨n,N,L⟩:=G;refine⟨X,fs,I,T,h,.none,rfl,trivial,by simp,by simp,?_,by simp[AE.sA],by simp,fun env2 w E u=>?_⟩
    .intro s' he;simp only[EV.wi,sr]at he;subst he;exact .inr ⟨n,Dh N,by rw[L];rfl⟩
    .have C:=(w.ev (x:=x) (fun s h=>Dh h)).nh A;have e2:=w.val (x:=i) (fun s h=>EH h);have B:=(w.bp n (Dh N) s (by rw[L];rfl)).nat F;rw[J]at B;simp only[AE.wp,C,e2,W,B,Al];exact⟨X,fs,I,T,u⟩
  .exact h.elim
 |lac x=>
  simp only[AE.wp]at h|-;split at h
  .rename_i s F A;split at h
   .rename_i p J
    try simp only[A,J]
    have G:∃n∈x.sl,O.get n=.bp s F:=by
     cases x with
     |c t=>simp[AG.ev]at A|s n=>exact⟨n,by simp[AG.sl],A⟩
    obtain ⟨n,N,L⟩:=G;refine⟨h,.none,rfl,trivial,by simp,by simp,?_,by simp[AE.sA],by simp,fun env2 w E u=>?_⟩
    .intro s' he;simp only[EV.wi,sr]at he;subst he;exact .inr ⟨n,N,by rw[L];rfl⟩
    .have C:=(w.ev (x:=x) (fun s h=>h)).bp A;have B:=(w.bp n N s (by rw[L];rfl)).sR (some F);rw[J]at B;simp only[AE.wp,C,B];exact u
   .exact h.elim
  .exact h.elim
 |ctk _=>cases H
 |cpt _ _=>cases H
 |cut _ _ _=>cases H
 |Aa8 _ _ _ _=>cases H
 |AaT g xs=>
  simp only[AE.wp]at h|-;cases D:Go.Sf.vals O xs with
  |none=>rw[D]at h;exact h.elim|some Q=>
   rw [D]at h;simp only[Al]at h|-;obtain⟨r,C,B⟩:=h;refine⟨r,C,A3 B rfl rfl fun env2 w E u=>?_⟩;simp only[AE.wp,w.vals (xs:=xs) (fun s h=>h),D,Al];exact⟨r,C,u⟩
 |Aaj _ _ _=>cases H
 |AaC g xs=>
  simp only[AE.wp]at h|-;cases D:Go.Sf.Aai O xs with
  |none=>rw[D]at h;exact h.elim|some Q=>
   rw [D]at h;simp only[Al]at h|-;obtain⟨r,C,B⟩:=h;refine⟨r,C,fun R=>A3 (B R) rfl (by cases r<;>rfl) fun env2 w E u=>?_⟩;simp only[AE.wp,w.Aai (xs:=xs) (fun s h=>h),D,Al];exact⟨r,C,fun _=>u⟩
 |Aa3 Y x=>
  simp only[AE.wp]at h|-;split at h
  .rename_i t d A
   try simp only[A]
   cases D:EP Y t.cells with
   |none=>rw[D]at h;exact h.elim|some cs=>
    rw [D]at h;simp only[Al]at h|-;refine⟨h.1,h.2,.none,rfl,trivial,by simp,by simp,(fun s he=>by cases he),fun _=>⟨rfl,fun Z hd=>?_⟩,by simp,fun env2 w E u=>?_⟩
    .simp only[sr]at hd;subst hd;exact h.1
    .simp only[AE.wp,w.val (x:=x) (fun s h=>h),A,D,Al];exact⟨w.new rfl _ rfl h.1,u⟩
  .exact h.elim
 |xia x i n=>
  simp only[AE.wp]at h|-;cases A:x.up O with
  |none=>rw[A]at h;exact h.elim|some p=>
   rw [A]at h;simp only[Al]at h|-;split at h
   .rename_i ik j W
    try simp only[W]
    obtain ⟨⟨C,B⟩,I,T,h5⟩:=h;have G:∃n∈x.sl,(O.get n).wi=some p.1.1:=by
     cases x with
     |c t=>simp[AG.ev,EV.wi]at C|s n=>exact⟨n,by simp[AG.sl],C⟩
    obtain ⟨m,hm',hr⟩:=G;refine⟨⟨C,B⟩,I,T,h5,.none,rfl,trivial,by simp,by simp,?_,by simp[AE.sA],by simp,fun env2 w E u=>?_⟩
    .intro s' he;simp only[EV.wi,sr]at he;subst he;exact .inr ⟨m,Dh hm',hr⟩
    .have e1:=w.up (x:=x) (fun s h=>Dh h);have e2:=w.val (x:=i) (fun s h=>EH h);have e3:=(w.ev (x:=x) (fun s h=>Dh h)).wi;simp only[AE.wp,e1,A,e2,W,Al,e3,C];exact⟨⟨trivial,B⟩,I,T,u⟩
   .exact h.elim
 |xfa x k=>
  simp only[AE.wp]at h|-;split at h
  .rename_i q i c A;split at h
   .rename_i p J
    try simp only[A,J]
    have G:∃n∈x.sl,O.get n=.lp q i c:=by
     cases x with
     |c t=>simp[AG.ev]at A|s n=>exact⟨n,by simp[AG.sl],A⟩
    obtain ⟨n,N,L⟩:=G;refine⟨h,.none,rfl,trivial,by simp,by simp,?_,by simp[AE.sA],by simp,fun env2 w E u=>?_⟩
    .intro s' he;simp only[EV.wi,sr]at he;subst he;exact .inr ⟨n,N,by rw[L];rfl⟩
    .have C:=(w.ev (x:=x) (fun s h=>h)).Abt (q:=q) (by rw[A];rfl);have B:=(w.bp n N q (by rw[L];rfl)).sR i;rw[J]at B;simp only[AE.wp,C,A,B];exact u
   .exact h.elim
  .exact h.elim
 |xld x=>
  simp only[AE.wp]at h|-;split at h
  .rename_i q i c A;split at h
   .rename_i p J
    try simp only[A,J]
    cases D:(p.2.flatMap TV.cells)[c]? with
    |none=>rw[D]at h;exact h.elim|some t=>
     rw [D]at h;simp only[Al]at h|-;have G:∃n∈x.sl,O.get n=.lp q i c:=by
      cases x with
      |c t=>simp[AG.ev]at A|s n=>exact⟨n,by simp[AG.sl],A⟩
     obtain ⟨n,N,L⟩:=G;refine A3 h rfl rfl fun env2 w E u=>?_;have C:=(w.ev (x:=x) (fun s h=>h)).Abt (q:=q) (by rw[A];rfl);have B:=(w.bp n N q (by rw[L];rfl)).sR i;rw[J]at B;simp only[AE.wp,C,A,B,D,Al];exact u
   .exact h.elim
  .exact h.elim
 |xst _ _ _=>cases H
 |rel _=>cases H
 |Aba _=>cases H
 |tkx _=>cases H
 |AaW _ _ _=>cases H
 |Aas g xs=>
  simp only[AE.wp]at h|-;split at h
  .rename_i d;obtain⟨P,h⟩:=h;refine⟨P,?_⟩;cases D:Go.Sf.vals O xs with
   |none=>rw[D]at h;exact h.elim|some Q=>
    rw [D]at h;simp only[Al]at h|-;obtain⟨n,es,C,B⟩:=h;refine⟨n,es,C,fun R=>⟨B R,.none,rfl,trivial,by simp,by simp,(fun s he=>by cases he),fun _=>⟨rfl,fun Z hd=>?_⟩,by simp,fun env2 w E u=>?_⟩⟩
    .simp only[sr]at hd;subst hd;exact P
    .simp only[AE.wp,w.vals (xs:=xs) (fun s h=>h),D,Al];exact⟨w.new rfl _ rfl P,n,es,C,fun _=>u⟩
  .exact h.elim
 |mkx n z x=>
  simp only[AE.wp]at h|-;split at h
  .rename_i d k j A
   try simp only[A]
   obtain ⟨P,C,B,I⟩:=h;refine⟨P,C,B,I,.none,rfl,trivial,by simp,by simp,(fun s he=>by cases he),fun _=>⟨rfl,fun Z hd=>?_⟩,by simp,fun env2 w E u=>?_⟩
   .simp only[sr]at hd;subst hd;exact P
   .simp only[AE.wp,w.val (x:=x) (fun s h=>h),A];exact⟨w.new rfl _ rfl P,C,B,u⟩
  .exact h.elim
 |Aar _ _ _=>cases H
 |AaK _ _=>cases H
 |Aad _=>cases H
 |Abf _=>cases H
 |Aax _ _=>cases H
 |nst _ _=>cases H
 |Abn _=>cases H
 |AaB _ _ _=>cases H
 |ldg _ _=>cases H
 |stq _ _ _ _=>cases H
 |mkm=>cases H
 |mvm _=>cases H
 |Aau _ _=>cases H
 |mlk _ _ _=>cases H
 |mup _ _ _ _=>cases H
 |ta _ _=>cases H
 |mnx _=>cases H
 |men _=>cases H
 |Aa6 _=>cases H
 |stx _ _ _=>cases H
 |isn _=>cases H
 |AaU g xs=>
  simp only[AE.wp]at h|-;cases D:Go.Sf.vals O xs with
  |none=>rw[D]at h;exact h.elim|some Q=>
   rw [D]at h;simp only[Al]at h|-;obtain⟨r,C,B⟩:=h;refine⟨r,C,fun R=>A3 (B R) rfl rfl fun env2 w E u=>?_⟩;simp only[AE.wp,w.vals (xs:=xs) (fun s h=>h),D,Al];exact⟨r,C,fun _=>u⟩
 |Aao g xs=>
  simp only[AE.wp]at h|-;cases D:Go.Sf.vals O xs with
  |none=>rw[D]at h;exact h.elim|some Q=>
   rw [D]at h;simp only[Al]at h|-;obtain⟨r,C,I,B⟩:=h;refine⟨r,C,I,fun R=>A3 (B R) rfl rfl fun env2 w E u=>?_⟩;simp only[AE.wp,w.vals (xs:=xs) (fun s h=>h),D,Al];exact⟨r,C,I,fun _=>u⟩
 |Aa5 x k n agg=>
  simp only[AE.wp]at h|-;split at h
  .rename_i cs A
   try simp only[A]
   obtain ⟨C,B⟩:=h;refine⟨C,?_⟩;cases agg with
   |true=>
    simp only[if_true]at B|-;refine A3 B rfl rfl fun env2 w E u=>?_;simp only[AE.wp,w.val (x:=x) (fun s h=>h),A,if_true];exact⟨C,u⟩
   |false=>
    simp only[Bool.false_eq_true,if_false]at B|-;cases D:G8 (cs.drop k)with
    |none=>rw[D]at B;exact B.elim|some t=>
     rw [D]at B;simp only[Al]at B|-;refine A3 B rfl rfl fun env2 w E u=>?_;simp only[AE.wp,w.val (x:=x) (fun s h=>h),A,Bool.false_eq_true,if_false,D,Al];exact⟨C,u⟩
  .exact h.elim
end
end Go.Sf
