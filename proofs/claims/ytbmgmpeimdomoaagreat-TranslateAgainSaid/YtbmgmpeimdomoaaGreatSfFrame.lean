/- What an operation leans on: the slots that it reads, whether or not they own their lists. -/
import Derived.Test.YtbmgmpeimdomoaaGreatSfCode
set_option linter.all false
open Option renaming some->Y,none->W
open Bool renaming true->X,false->T
open List renaming map_map->w_,getElem?_map->w!,mem_append->w?,map_drop->x_
namespace Go.Sf
theorem sM{cs ds:List AO}(h:ds.map AO.key=cs.map AO.key):ds.map (·.t)=cs.map (·.t):=by
 have:=congrArg (List.map Prod.fst) h;simpa[w_,Function.comp_def,AO.key]using this
def iR(p:TV×Bool):TV:=match p with
 |(.xl n es,X)=>.list n es|p=>p.1
theorem dn{cs ds:List AO}(h:ds.map AO.key=cs.map AO.key):ds.map AO.Abm=cs.map AO.Abm:=by
 have a:∀c:AO,c.Abm=iR c.key:=by
  rintro ⟨_|_,t⟩<;>cases t<;>rfl
 have:=congrArg (List.map iR) h;simpa[w_,Function.comp_def,<-a]using this
def zl(p:TV×Bool):Option (Nat×Fq):=match p with
 |(.xl n es,X)=>Y (n,es)|_=>W
theorem wN{cs ds:List AO}(h:ds.map AO.key=cs.map AO.key)(k:Nat):(match ds[k]? with
  |some ⟨X,.xl n es⟩=>Y (n,es)|_=>W)=(match cs[k]? with
  |some ⟨X,.xl n es⟩=>Y (n,es)|_=>W):=by
 have a:∀o:Option AO,(match o with
  |some ⟨X,.xl n es⟩=>Y (n,es)|_=>W)=(o.map AO.key).bind zl:=by
  rintro (_|⟨_|_,t⟩)
  .rfl
  .cases t<;>rfl
  .cases t<;>rfl
 rw [a,a];have:=congrArg (λl=>l[k]?) h;simp only[w!]at this;rw[this]
def zm(p:TV×Bool):Option Fq:=match p with
 |(.xn es,X)=>Y es|_=>W
theorem wO{cs ds:List AO}(h:ds.map AO.key=cs.map AO.key)(k:Nat):(match ds[k]? with
  |some ⟨X,.xn es⟩=>Y es|_=>W)=(match cs[k]? with
  |some ⟨X,.xn es⟩=>Y es|_=>W):=by
 have a:∀o:Option AO,(match o with
  |some ⟨X,.xn es⟩=>Y es|_=>W)=(o.map AO.key).bind zm:=by
  rintro (_|⟨_|_,t⟩)
  .rfl
  .cases t<;>rfl
  .cases t<;>rfl
 rw [a,a];have:=congrArg (λl=>l[k]?) h;simp only[w!]at this;rw[this]
def EV.like(e e2:EV):Prop:=
 e2=e\/(∃n es,(e=.tv (.list n es)/\e2=.ow (.list n es))\/(e=.ow (.list n es)/\e2=.tv (.list n es)))\/∃cs ds,e=.bx cs/\e2=.bx ds/\ds.map AO.key=cs.map AO.key
theorem EV.like.rfl'(e:EV):e.like e:=.inl rfl
variable{e e2:EV}
theorem EV.like.symm(h:e.like e2):e2.like e:=by
 rcases h with rfl|⟨n,es,⟨rfl,rfl⟩|⟨rfl,rfl⟩⟩|⟨cs,ds,rfl,rfl,h⟩
 .exact .inl rfl
 .exact .inr (.inl ⟨n,es,.inr ⟨rfl,rfl⟩⟩)
 .exact .inr (.inl ⟨n,es,.inl ⟨rfl,rfl⟩⟩)
 .exact .inr (.inr ⟨ds,cs,rfl,rfl,h.symm⟩)
theorem EV.like.pc(h:e.like e2):e2.pc=e.pc:=by
 rcases h with rfl|⟨n,es,⟨rfl,rfl⟩|⟨rfl,rfl⟩⟩|⟨cs,ds,rfl,rfl,h⟩<;>rfl
variable{q:Nat}
theorem EV.like.Abh(h:e.like e2)(a:e.pc=Y q):e2=e:=by
 rcases h with rfl|⟨n,es,⟨rfl,rfl⟩|⟨rfl,rfl⟩⟩|⟨cs,ds,rfl,rfl,h⟩
 .rfl
 .cases a
 .cases a
 .cases a
theorem EV.like.xo(h:e.like e2){n:Nat}{es:Fq}(he:e=.xo n es):e2=.xo n es:=by
 subst he;rcases h with rfl|⟨n,es,⟨h,_⟩|⟨h,_⟩⟩|⟨cs,ds,h,_⟩
 .rfl
 .cases h
 .cases h
 .cases h
theorem EV.like.val(h:e.like e2):e2.val=e.val:=by
 rcases h with rfl|⟨n,es,⟨rfl,rfl⟩|⟨rfl,rfl⟩⟩|⟨cs,ds,rfl,rfl,h⟩<;>rfl
theorem EV.like.pt(h:e.like e2){row:Fq}(he:e=.tv (.pt row)):e2=.tv (.pt row):=by
 subst he;rcases h with rfl|⟨n,es,⟨h,rfl⟩|⟨h,rfl⟩⟩|⟨cs,ds,h,rfl,a⟩
 .rfl
 .simp at h
 .cases h
 .cases h
theorem EV.like.bp(h:e.like e2){q a:Nat}(he:e=.bp q a):e2=.bp q a:=by
 subst he;rcases h with rfl|⟨n,es,⟨h,rfl⟩|⟨h,rfl⟩⟩|⟨cs,ds,h,rfl,b⟩
 .rfl
 .cases h
 .cases h
 .cases h
theorem EV.like.tp(h:e.like e2){a:Fq}(he:e=.tp a):e2=.tp a:=by
 subst he;rcases h with rfl|⟨n,es,⟨h,rfl⟩|⟨h,rfl⟩⟩|⟨cs,ds,h,rfl,b⟩
 .rfl
 .cases h
 .cases h
 .cases h
theorem EV.like.bx(h:e.like e2){cs:List AO}(he:e=.bx cs):∃ds,e2=.bx ds/\ds.map AO.key=cs.map AO.key:=by
 subst he;rcases h with rfl|⟨n,es,⟨h,rfl⟩|⟨h,rfl⟩⟩|⟨cs',ds,h,rfl,a⟩
 .exact⟨cs,rfl,rfl⟩
 .cases h
 .cases h
 .simp only[EV.bx.injEq]at h;subst h;exact⟨ds,rfl,a⟩
def AF.sl:AF->I2
 |.s n=>[n]|.c _=>[]
def ZA:Option AF->I2
 |some x=>x.sl|none=>[]
def C6:List AF->I2
 |[]=>[]|x::xs=>x.sl++C6 xs
def RB:List (Nat×Nat×AF)->I2
 |[]=>[]|x::xs=>x.2.2.sl++RB xs
def AE.slots:AE->I2
 |.mv x=>x.sl|.tk s=>[s]|.Abn _=>[]|.fad x _=>x.sl|.bad s _=>[s]|.iad x i _=>x.sl++i.sl|.aad x i _ _=>x.sl++i.sl|.ld x=>x.sl|.lda x _=>x.sl|.ldb s _=>[s]|.ldt x=>x.sl|.bin _ _ x y=>x.sl++y.sl|.not x=>x.sl|.neg x=>x.sl|.pick c a b=>c.sl++(a.sl++b.sl)|.len x=>x.sl|.AbG x=>x.sl|.slc _ x lo hi=>x.sl++(ZA lo++ZA hi)|.Aaw x lo hi=>x.sl++(ZA lo++ZA hi)|.bld _ ps=>RB ps|.lst _ ps=>C6 ps|.app _ x y=>x.sl++y.sl|.call _ xs=>C6 xs|.Abi x xs=>x.sl++C6 xs|.clo _ xs=>C6 xs|.ext x _=>x.sl|.cvt _ x=>x.sl|.Aau x i=>x.sl++i.sl|.Abp x=>x.sl|.Abz x=>x.sl|.mm _ x y=>x.sl++y.sl|.alc _=>[]|.st _ x v=>x.sl++v.sl|.stb _ s v=>s::v.sl|.frz s=>[s]|.Abv x _ _ _=>x.sl|.xal s=>[s]|.Abs x=>x.sl|.xia x i _=>x.sl++i.sl|.xfa x _=>x.sl|.xld x=>x.sl|.xst x v _=>x.sl++v.sl|.rel s=>[s]|.Abg _=>[]|.Abd _=>[]|.tkx s=>[s]|.Aa5 _ s y=>s::y.sl|.AaD _ xs=>C6 xs|.mkx _ _ x=>x.sl|.mko _ _ x=>x.sl|.AaB _ x ys=>x.sl++C6 ys|.AaV _ x=>x.sl|.x8 gs=>gs.flatMap GC.sl|.stx _ s q=>[s,q]|.Aa4 _ xs=>C6 xs|.Aaz _ xs=>C6 xs|.isn x=>x.sl|.fdv x _=>x.sl|.ldv x _=>x.sl|.lac x=>x.sl|.ctk x=>x.sl|.cpt x q=>x.sl++[q]|.cut _ s hi=>s::hi.sl|.AaJ _ xs=>C6 xs|.Abl _ x=>x.sl|.Abf _ s _ x=>s::x.sl|.Aa3 _ xs=>C6 xs|.Aad _ xs _=>C6 xs|.Abo q=>[q]|.AaH s q=>[s,q]|.lan x=>x.sl|.nia x i=>x.sl++i.sl|.nld x=>x.sl|.nst x v=>x.sl++v.sl|.AbA q=>[q]|.AaI _ xs _=>C6 xs|.ldg s _=>[s]|.stq _ _ x v=>x.sl++v.sl|.mkm=>[]|.mvm s=>[s]|.AaC _ xs=>C6 xs|.mlk s m x=>s::(m.sl++x.sl)|.mup s m x v=>s::(m.sl++(x.sl++v.sl))|.pr s m=>s::m.sl|.mnx s=>[s]|.men s=>[s]|.xin x i _=>x.sl++i.sl|.xln x=>x.sl
def AE.dem:AE->I2
 |.tk s=>[s]|.app _ x _=>x.sl|_=>[]
def AE.mov:AE->Bool
 |.st ..=>T|.stb ..=>T|.frz _=>T|.xst ..=>T|.rel _=>T|.Abg _=>T|.Abd _=>T|.tkx _=>T|.Aa5 ..=>T|.AaB ..=>T|.AaV ..=>T|.x8 _=>T|.stx ..=>T|.isn _=>T|.ctk _=>T|.cpt ..=>T|.cut ..=>T|.Abf ..=>T|.Aad ..=>T|.Abo _=>T|.AaH ..=>T|.nst ..=>T|.AbA _=>T|.AaI ..=>T|.ldg ..=>T|.stq ..=>T|.mkm=>T|.mvm _=>T|.AaC ..=>T|.mlk ..=>T|.mup ..=>T|.pr ..=>T|.mnx _=>T|.men _=>T|_=>X
def AE.og:AE->Bool
 |.alc _=>X|.Abz _=>X|.Abl ..=>X|.AaD ..=>X|.mkx ..=>X|.mko ..=>X|_=>T
def AE.AaY:AE->I2
 |.bad s _=>[s]|.xal s=>[s]|_=>[]
inductive A8 where
 |none
 |slot (s:Nat) (t:TV)
 |cell (s off:Nat) (t:TV)
def A8.app:A8->AB->AB
 |.none,ε=>ε|.slot s t,ε=>(s,.tv t)::ε|.cell s off t,ε=>match ε.get s with
  |.bx cs=>(s,.bx (cs.set off ⟨T,t⟩))::ε|_=>ε
def A8.ok:A8->AB->Prop
 |.none,_=>True|.slot s t,ε=>ε.get s=.ow t|.cell s off t,ε=>∃cs,ε.get s=.bx cs/\cs[off]?=Y ⟨X,t⟩
structure Ew(op:AE)(f:A8)(dst:Option Nat)(ε env2:AB):Prop where
 sl:∀s∈op.slots,(ε.get s).like (env2.get s)
 bp:∀s∈op.slots,∀q,(ε.get s).pc=Y q->(ε.get q).like (env2.get q)
 dem:∀s∈op.dem,(∀cs,ε.get s≠.bx cs)->env2.get s=ε.get s
 eff:f.ok env2
 new:op.og=X->∀d,dst=Y d->ε.eo d=X->env2.eo d=X
section
variable{op:AE}{f:A8}{dst:Option Nat}{ε env2:AB}
variable{x:AF}
theorem Ew.val(h:Ew op f dst ε env2)(a:∀s∈x.sl,s∈op.slots):x.val env2=x.val ε:=by
 cases x with
 |c t=>rfl|s n=>exact(h.sl n (a n c?)).val
theorem Ew.ev(h:Ew op f dst ε env2)(a:∀s∈x.sl,s∈op.slots):(x.ev ε).like (x.ev env2):=by
 cases x with
 |c t=>exact .inl rfl|s n=>exact h.sl n (a n c?)
theorem Ew.vals(h:Ew op f dst ε env2):∀{xs:List AF},(∀s∈C6 xs,s∈op.slots)->Go.Sf.vals env2 xs=Go.Sf.vals ε xs
 |[],_=>rfl|x::xs,b=>by
  simp only[C6,w?]at b;simp only[Go.Sf.vals,h.val (x:=x) (λs a=>b s (.inl a)),h.vals (xs:=xs) (λs a=>b s (.inr a))]
theorem Ew.parts(h:Ew op f dst ε env2):∀{xs:List (Nat×Nat×AF)},(∀s∈RB xs,s∈op.slots)->FG env2 xs=FG ε xs
 |[],_=>rfl|(i,n,x)::xs,b=>by
  simp only[RB,w?]at b;simp only[FG,h.val (x:=x) (λs a=>b s (.inl a)),h.parts (xs:=xs) (λs a=>b s (.inr a))]
theorem Ew.bnd(h:Ew op f dst ε env2){x:Option AF}{k:Int}(a:∀s∈ZA x,s∈op.slots):Hz env2 k x=Hz ε k x:=by
 cases x with
 |none=>rfl|some x=>exact h.val a
theorem Ew.addr(h:Ew op f dst ε env2)(j:∀s∈x.sl,s∈op.slots):A9 env2 (x.ev env2)=A9 ε (x.ev ε):=by
 cases x with
 |c t=>cases t<;>rfl
 |s n=>
  have g:=j n c?;have a:=h.sl n g;have i:=h.bp n g;simp only[AF.ev];generalize ε.get n=e at a i;generalize env2.get n=e2 at a;rcases a with rfl|⟨n,es,⟨rfl,rfl⟩|⟨rfl,rfl⟩⟩|⟨cs,ds,rfl,rfl,d⟩
  .cases e2 with
   |bp q k=>
    have b:=i q rfl;simp only[A9];generalize ε.get q=e1 at b;generalize env2.get q=e2 at b;rcases b with rfl|⟨n,es,⟨rfl,rfl⟩|⟨rfl,rfl⟩⟩|⟨cs,ds,rfl,rfl,d⟩
    .rfl
    .rfl
    .rfl
    .simp only[x_,sM d]
   |tv t=>cases t<;>rfl
   |_=>rfl
  .rfl
  .rfl
  .simp only[A9,sM d]
theorem Ew.place(h:Ew op f dst ε env2)(d:∀s∈x.sl,s∈op.slots):x.place env2=x.place ε:=by
 cases x with
 |c t=>rfl|s n=>
  have g:=h.sl n (d n c?);simp only[AF.place];rcases g with a|⟨n,es,⟨a,b⟩|⟨a,b⟩⟩|⟨cs,ds,a,b,_⟩
  .rw[a]
  .rw[a,b]
  .rw[a,b]
  .rw[a,b]
variable{q:Nat}
theorem EV.like.ns{ε env2:AB}(h:(ε.get q).like (env2.get q))(i:Option Nat):env2.ns q i=ε.ns q i:=by
 rcases h with a|⟨n,es,⟨a,b⟩|⟨a,b⟩⟩|⟨cs,ds,a,b,c⟩
 .exact AB.Aae a
 .cases i<;>simp only[AB.ns,a,b]
 .cases i<;>simp only[AB.ns,a,b]
 .cases i with
  |none=>simp only[AB.ns,a,b]|some k=>simp only[AB.ns,a,b];exact wN c k
theorem EV.like.nat{ε env2:AB}(h:(ε.get q).like (env2.get q))(i:Nat):env2.nat q i=ε.nat q i:=by
 rcases h with a|⟨n,es,⟨a,b⟩|⟨a,b⟩⟩|⟨cs,ds,a,b,c⟩
 .exact AB.Aar a
 .simp only[AB.nat,a,b]
 .simp only[AB.nat,a,b]
 .simp only[AB.nat,a,b];exact wO c i
variable{e e2:EV}
theorem EV.like.nh(h:e.like e2){q i:Nat}{k:NK}(he:e=.nh q i k):e2=.nh q i k:=by
 subst he;exact h.Abh rfl
theorem Ew.q0(h:Ew op f dst ε env2)(g:∀s∈x.sl,s∈op.slots):x.q0 env2=x.q0 ε:=by
 cases x with
 |c t=>rfl|s n=>
  have d:=g n c?;have j:=h.sl n d;have k:=h.bp n d;simp only[AF.q0];rcases j with a|⟨m,es,⟨a,b⟩|⟨a,b⟩⟩|⟨cs,ds,a,b,_⟩
  .rw[a];cases he:ε.get n with
   |la q i=>simp only[(k q (by rw[he];rfl)).ns i]|_=>rfl
  .rw[a,b]
  .rw[a,b]
  .rw[a,b]
theorem Ew.Abx(h:Ew op f dst ε env2)(i:∀s∈x.sl,s∈op.slots):x.Abx env2=x.Abx ε:=by
 unfold AF.Abx;rw[h.q0 i];cases x.q0 ε with
 |some p=>rfl|none=>
  cases x with
  |c t=>cases t<;>rfl
  |s n=>
   have j:=i n c?;have k:=h.sl n j;have o:=h.bp n j;simp only[AF.ev];rcases k with a|⟨m,es,⟨a,d⟩|⟨a,d⟩⟩|⟨cs,ds,a,d,u⟩
   .rw[a];cases he:ε.get n with
    |bp q w=>
     have r:=o q (by rw[he];rfl);simp only;rcases r with b|⟨m,es,⟨b,g⟩|⟨b,g⟩⟩|⟨cs,ds,b,g,v⟩
     .rw[b]
     .rw[b,g]
     .rw[b,g]
     .rw[b,g];have:=dn v;simp only[x_,this]
    |_=>rfl
   .rw[a,d];rfl
   .rw[a,d];rfl
   .rw[a,d];simp only[dn u]
theorem Ew.Aaa(h:Ew op f dst ε env2):∀{xs:List AF},(∀s∈C6 xs,s∈op.slots)->Go.Sf.Aaa env2 xs=Go.Sf.Aaa ε xs
 |[],_=>rfl|x::xs,b=>by
  simp only[C6,w?]at b;simp only[Go.Sf.Aaa,h.Abx (x:=x) (λs a=>b s (.inl a)),h.Aaa (xs:=xs) (λs a=>b s (.inr a))]
end
structure li(S:FuncId->Fq->As->Prop)(op:AE)(dst:Option Nat)(ε:AB)(e:EV)(env':AB)(f:A8):Prop where
 env':env'=f.app ε
 ok:f.ok ε
 slot:∀s t,f=.slot s t->s∈op.dem
 cell:∀s off t,f=.cell s off t->(s∈op.slots\/∃x∈op.slots,(ε.get x).pc=Y s)
 pc:∀s,e.pc=Y s->(s∈op.AaY\/∃x∈op.slots,(ε.get x).pc=Y s)
 new:op.og=X->e.pc=W/\∀d,dst=Y d->ε.eo d=X
 xl:∀s off t,f=.cell s off t->t.Aax=T
 again:∀env2,Ew op f dst ε env2->∀K2:EV->AB->Prop,K2 e (f.app env2)->op.wp S env2 dst K2
section
variable{S:FuncId->Fq->As->Prop}{op:AE}{dst:Option Nat}{ε:AB}{K:EV->AB->Prop}
variable{e:EV}
theorem A2(b:K e ε)(c:op.og=T)(d:e.pc=W)(h:∀env2,Ew op .none dst ε env2->∀a:EV->AB->Prop,a e env2->op.wp S env2 dst a):K e ε/\∃f,li S op dst ε e ε f:=
 ⟨b,.none,rfl,trivial,V,V,(λs he=>by rw[d]at he;cases he),by simp[c],V,h⟩
variable{α:Type}{l m:List α}
theorem Dl{x:α}(h:x∈m):x∈l++m:=List.mem_append_right _ h
theorem DA{x:α}(h:x∈l):x∈l++m:=List.mem_append_left _ h
theorem frame(J:op.mov=X)(h:op.wp S ε dst K):op.wp S ε dst λe env'=>K e env'/\∃f,li S op dst ε e env' f:=by
 cases op with
 |mv x=>
  simp only[AE.wp]at h|-;have key:∀t,(x.ev ε).val=Y t->∀env2,Ew (.mv x) .none dst ε env2->∀E:EV->AB->Prop,E (.tv t) env2->(AE.mv x).wp S env2 dst E:=by
   intro t ht env2 w E u;have hv:=w.val (x:=x) (λs h=>h);simp only[AF.val]at hv;rw[ht]at hv;simp only[AE.wp];cases he:x.ev env2<;>rw[he]at hv<;>simp[EV.val]at hv<;>subst hv<;>exact u
  split at h
  .rename_i t A
   try simp only[A]
   exact A2 h rfl rfl (key t o2)
  .rename_i t A
   try simp only[A]
   exact A2 h rfl rfl (key t o2)
  .rename_i P A
   try simp only[A]
   refine A2 h rfl rfl λenv2 w E u=>?_;cases x with
   |c t=>simp[AF.ev]at A|s n=>
    simp only[AF.ev]at A;have B:env2.get n=.tp P:=(w.sl n t_).tp A;simp only[AE.wp,AF.ev,B];exact u
  .exact h.elim
 |tk s=>
  simp only[AE.wp]at h|-;split at h
  .rename_i t O
   try simp only[O]
   refine ⟨h,.slot s t,rfl,O,?_,V,(λs he=>o_),i9,V,λenv2 w E u=>?_⟩
   .intro s' t' he;simp only[A8.slot.injEq]at he;simp[AE.dem,he.1]
   .have:=w.eff;simp only[A8.ok]at this;simp only[AE.wp,this];exact u
  .rename_i t O
   try simp only[O]
   refine A2 h rfl rfl λenv2 w E u=>?_;have:=w.dem s (by simp[AE.dem]) (by simp[O]);simp only[AE.wp,this,O];exact u
  .exact h.elim
 |Abn n=>exact A2 h rfl rfl λenv2 w E u=>u|fad x k=>
  simp only[AE.wp]at h|-;split at h
  .rename_i row A
   try simp only[A]
   refine A2 h rfl rfl λenv2 w E u=>?_;have:=(w.ev (x:=x) (λs h=>h)).pt A;simp only[AE.wp,this];exact u
  .rename_i s F A;split at h
   .rename_i cs O
    try simp only[A,O]
    have G:∃n∈x.sl,ε.get n=.bp s F:=by
     cases x with
     |c t=>simp[AF.ev]at A|s n=>exact⟨n,c?,A⟩
    obtain ⟨n,M,L⟩:=G;refine⟨h,.none,rfl,trivial,V,V,?_,i9,V,λenv2 w E u=>?_⟩
    .intro s' he;simp only[EV.pc,mE]at he;subst he;exact .inr ⟨n,M,g?⟩
    .have C:=(w.ev (x:=x) (λs h=>h)).bp A;have B:=w.bp n M s g?;rw[O]at B;obtain⟨ds,I,_⟩:=B.bx rfl;simp only[AE.wp,C,I];exact u
   .exact h.elim
  .exact h.elim
 |bad s k=>
  simp only[AE.wp]at h|-;split at h
  .rename_i cs O
   try simp only[O]
   refine ⟨h,.none,rfl,trivial,V,V,?_,i9,V,λenv2 w E u=>?_⟩
   .intro s' he;simp only[EV.pc,mE]at he;exact .inl (by simp[AE.AaY,he])
   .have B:=w.sl s f_;rw[O]at B;obtain⟨ds,I,_⟩:=B.bx rfl;simp only[AE.wp,I];exact u
  .rename_i row O
   try simp only[O]
   refine A2 h rfl rfl λenv2 w E u=>?_;have:=(w.sl s f_).pt O;simp only[AE.wp,this];exact u
  .exact h.elim
 |iad x i n=>
  simp only[AE.wp]at h|-;split at h
  .rename_i m es k j A hi
   try simp only[A,hi]
   obtain ⟨C,B,e,I,R⟩:=h;refine⟨C,B,e,I,A2 R rfl rfl λenv2 w E u=>?_⟩;simp only[AE.wp,w.val (x:=x) (λs h=>DA h),w.val (x:=i) (λs h=>Dl h),A,hi];exact⟨C,B,e,I,u⟩
  .exact h.elim
 |aad x i n k=>
  simp only[AE.wp]at h|-;split at h
  .rename_i row kk j A hi
   try simp only[A,hi]
   obtain ⟨C,B,I,R⟩:=h;refine⟨C,B,I,A2 R rfl rfl λenv2 w E u=>?_⟩;have:=(w.ev (x:=x) (λs h=>DA h)).pt A;simp only[AE.wp,this,w.val (x:=i) (λs h=>Dl h),hi];exact⟨C,B,I,u⟩
  .exact h.elim
 |ld x=>
  simp only[AE.wp]at h|-;cases D:A9 ε (x.ev ε)with
  |none=>rw[D]at h;exact h.elim|some cs=>
   rw [D]at h;simp only[Aj]at h|-;cases hf:Fo cs with
   |none=>rw[hf]at h;exact h.elim|some t=>
    rw [hf]at h;refine⟨h.1,A2 h.2 rfl rfl λenv2 w E u=>?_⟩;simp only[AE.wp,w.addr (x:=x) (λs h=>h),D,Aj,hf];exact⟨h.1,u⟩
 |lda x n=>
  simp only[AE.wp]at h|-;cases D:A9 ε (x.ev ε)with
  |none=>rw[D]at h;exact h.elim|some cs=>
   rw [D]at h;simp only[Aj]at h|-;refine⟨h.1,A2 h.2 rfl rfl λenv2 w E u=>?_⟩;simp only[AE.wp,w.addr (x:=x) (λs h=>h),D,Aj];exact⟨h.1,u⟩
 |ldb s n=>
  simp only[AE.wp]at h|-;split at h
  .rename_i cs D
   try simp only[D]
   refine ⟨h.1,A2 h.2 rfl rfl λenv2 w E u=>?_⟩;have C:=w.addr (x:=.s s) (λs h=>h);obtain⟨ds,I,_⟩:=(w.sl s f_).bx D;simp only[AF.ev,D,I,A9,mE]at C;simp only[AE.wp,I,C];exact⟨h.1,u⟩
  .exact h.elim
 |ldt x=>
  simp only[AE.wp]at h|-;split at h
  .rename_i s F η;split at h
   .rename_i cs O;split at h
    .rename_i n es D
     try simp only[η,O,D]
     refine ⟨h,.cell s F (.list n es),by simp[A8.app,O],⟨cs,O,D⟩,V,?_,(λs he=>o_),i9,(λs F t he=>by cases he;rfl),λenv2 w E u=>?_⟩
     .intro s' off' t' he;simp only[A8.cell.injEq]at he;obtain⟨rfl,rfl,rfl⟩:=he;cases x with
      |c t=>simp[AF.place]at η|s n=>
       simp only[AF.place]at η;split at η
       next q o H=>simp only[mE,Prod.mk.injEq]at η;exact .inr ⟨n,t_,by rw[H,η.1];rfl⟩
       .simp only[mE,Prod.mk.injEq]at η;exact .inl (by simp[AE.slots,AF.sl,η.1])
       .cases η
     .obtain⟨ds,C,B⟩:=w.eff;simp only[A8.app,C]at u;simp only[AE.wp,w.place (x:=x) (λs h=>h),η,C,B];exact u
    .exact h.elim
   .exact h.elim
  .exact h.elim
 |bin k op x y=>
  simp only[AE.wp]at h|-;split at h
  .rename_i a b A ζ
   try simp only[A,ζ]
   cases L:Mb k op a b with
   |none=>rw[L]at h;exact h.elim|some t=>
    rw [L]at h;refine A2 h rfl rfl λenv2 w E u=>?_;simp only[AE.wp,w.val (x:=x) (λs h=>DA h),w.val (x:=y) (λs h=>Dl h),A,ζ,L,Aj];exact u
  .exact h.elim
 |not x=>
  simp only[AE.wp]at h|-;split at h
  .rename_i b A
   try simp only[A]
   refine A2 h rfl rfl λenv2 w E u=>?_;simp only[AE.wp,w.val (x:=x) (λs h=>h),A];exact u
  .exact h.elim
 |neg x=>
  simp only[AE.wp]at h|-;split at h
  .rename_i k n A
   try simp only[A]
   refine A2 h rfl rfl λenv2 w E u=>?_;simp only[AE.wp,w.val (x:=x) (λs h=>h),A];exact u
  .exact h.elim
 |pick c a b=>
  simp only[AE.wp]at h|-;split at h
  .rename_i q D
   try simp only[D]
   have key:∀t,((if q=X then a else b).ev ε).val=Y t->∀env2,Ew (.pick c a b) .none dst ε env2->∀E:EV->AB->Prop,E (.tv t) env2->(AE.pick c a b).wp S env2 dst E:=by
    intro t ht env2 w E u;have hv:=w.val (x:=if q=X then a else b) (λs h=>by
     cases q
     .exact Dl (Dl h)
     .exact Dl (DA h))
    simp only[AF.val]at hv;rw[ht]at hv;simp only[AE.wp,w.val (x:=c) (λs h=>DA h),D];cases he:(if q=X then a else b).ev env2<;>rw[he]at hv<;>simp[EV.val]at hv<;>subst hv<;>exact u
   split at h
   .rename_i t A
    try simp only[A]
    exact A2 h rfl rfl (key t o2)
   .rename_i t A
    try simp only[A]
    exact A2 h rfl rfl (key t o2)
   .exact h.elim
  .exact h.elim
 |len x=>
  simp only[AE.wp]at h|-;split at h
  .rename_i n es A
   try simp only[A]
   refine A2 h rfl rfl λenv2 w E u=>?_;simp only[AE.wp,w.val (x:=x) (λs h=>h),A];exact u
  .exact h.elim
 |fdv x k=>
  simp only[AE.wp]at h|-;split at h
  .rename_i row A
   try simp only[A]
   refine A2 h rfl rfl λenv2 w E u=>?_;simp only[AE.wp,w.val (x:=x) (λs h=>h),A];exact u
  .exact h.elim
 |ldv x n=>
  simp only[AE.wp]at h|-;split at h
  .rename_i row A
   try simp only[A]
   refine ⟨h.1,A2 h.2 rfl rfl λenv2 w E u=>?_⟩;simp only[AE.wp,w.val (x:=x) (λs h=>h),A];exact⟨h.1,u⟩
  .exact h.elim
 |AbG x=>
  simp only[AE.wp]at h|-;split at h
  .rename_i s A
   try simp only[A]
   refine A2 h rfl rfl λenv2 w E u=>?_;simp only[AE.wp,w.val (x:=x) (λs h=>h),A];exact u
  .exact h.elim
 |slc n x lo hi=>
  simp only[AE.wp]at h|-;split at h
  .rename_i m es A
   try simp only[A]
   split at h
   .rename_i k1 l k2 hh C B
    try simp only[C,B]
    refine ⟨h.1,h.2.1,A2 h.2.2 rfl rfl λenv2 w E u=>?_⟩;simp only[AE.wp,w.val (x:=x) (λs h=>DA h),A,w.bnd (x:=lo) (λs h=>Dl (DA h)),w.bnd (x:=hi) (λs h=>Dl (Dl h)),C,B];exact⟨h.1,h.2.1,u⟩
   .exact h.elim
  .exact h.elim
 |Aaw x lo hi=>
  simp only[AE.wp]at h|-;split at h
  .rename_i str A
   try simp only[A]
   split at h
   .rename_i k1 l k2 hh C B
    try simp only[C,B]
    refine ⟨h.1,h.2.1,h.2.2.1,A2 h.2.2.2 rfl rfl λenv2 w E u=>?_⟩;simp only[AE.wp,w.val (x:=x) (λs h=>DA h),A,w.bnd (x:=lo) (λs h=>Dl (DA h)),w.bnd (x:=hi) (λs h=>Dl (Dl h)),C,B];exact⟨h.1,h.2.1,h.2.2.1,u⟩
   .exact h.elim
  .exact h.elim
 |bld zero Z=>
  simp only[AE.wp]at h|-;cases D:FG ε Z with
  |none=>rw[D]at h;exact h.elim|some P=>
   rw [D]at h;simp only[Aj]at h|-;cases hf:FK zero P with
   |none=>rw[hf]at h;exact h.elim|some cs=>
    rw [hf]at h;refine A2 h rfl rfl λenv2 w E u=>?_;simp only[AE.wp,w.parts (xs:=Z) (λs h=>h),D,Aj,hf];exact u
 |lst n Z=>
  simp only[AE.wp]at h|-;cases D:Go.Sf.vals ε Z with
  |none=>rw[D]at h;exact h.elim|some P=>
   rw [D]at h;simp only[Aj]at h|-;refine⟨h.1,A2 h.2 rfl rfl λenv2 w E u=>?_⟩;simp only[AE.wp,w.vals (xs:=Z) (λs h=>h),D,Aj];exact⟨h.1,u⟩
 |app n x y=>
  simp only[AE.wp]at h|-;split at h
  .rename_i m es m' fs A ζ
   try simp only[A,ζ]
   obtain ⟨C,B,I,R⟩:=h;cases x with
   |c t=>simp[AF.ev]at A|s s=>
    simp only[AF.ev]at A;subst C;refine⟨rfl,B,I,R,.slot s (.list m es),rfl,A,?_,V,(λs he=>o_),i9,V,λenv2 w E u=>?_⟩
    .intro s' t' he;simp only[A8.slot.injEq]at he;simp[AE.dem,AF.sl,he.1]
    .have:=w.eff;simp only[A8.ok]at this;simp only[AE.wp,AF.ev,this,w.val (x:=y) (λs h=>Dl h),ζ];exact⟨trivial,B,I,u⟩
  .exact h.elim
 |call g xs=>
  simp only[AE.wp]at h|-;cases D:Go.Sf.vals ε xs with
  |none=>rw[D]at h;exact h.elim|some P=>
   rw [D]at h;simp only[Aj]at h|-;obtain⟨r,C,B⟩:=h;refine⟨r,C,λθ=>A2 (B θ) rfl (by cases r<;>rfl) λenv2 w E u=>?_⟩;simp only[AE.wp,w.vals (xs:=xs) (λs h=>h),D,Aj];exact⟨r,C,λ_=>u⟩
 |Abi x xs=>
  simp only[AE.wp]at h|-;split at h
  .rename_i g caps P A D
   try simp only[A,D]
   obtain ⟨r,C,B⟩:=h;refine⟨r,C,λθ=>A2 (B θ) rfl (by cases r<;>rfl) λenv2 w E u=>?_⟩;simp only[AE.wp,w.val (x:=x) (λs h=>DA h),w.vals (xs:=xs) (λs h=>Dl h),A,D];exact⟨r,C,λ_=>u⟩
  .exact h.elim
 |clo g xs=>
  simp only[AE.wp]at h|-;cases D:Go.Sf.vals ε xs with
  |none=>rw[D]at h;exact h.elim|some P=>
   rw [D]at h;simp only[Aj]at h|-;refine A2 h rfl rfl λenv2 w E u=>?_;simp only[AE.wp,w.vals (xs:=xs) (λs h=>h),D,Aj];exact u
 |ext x i=>
  simp only[AE.wp]at h|-;split at h
  .rename_i P A
   try simp only[A]
   cases hf:P[i]? with
   |none=>rw[hf]at h;exact h.elim|some t=>
    rw [hf]at h;refine A2 h rfl rfl λenv2 w E u=>?_;have:=(w.ev (x:=x) (λs h=>h)).tp A;simp only[AE.wp,this,hf,Aj];exact u
  .exact h.elim
 |cvt k x=>
  simp only[AE.wp]at h|-;split at h
  .rename_i k n A
   try simp only[A]
   refine A2 h rfl rfl λenv2 w E u=>?_;simp only[AE.wp,w.val (x:=x) (λs h=>h),A];exact u
  .exact h.elim
 |Aau x i=>
  simp only[AE.wp]at h|-;split at h
  .rename_i str k j A hi
   try simp only[A,hi]
   obtain ⟨C,b,B,I⟩:=h;refine⟨C,b,B,A2 I rfl rfl λenv2 w E u=>?_⟩;simp only[AE.wp,w.val (x:=x) (λs h=>DA h),w.val (x:=i) (λs h=>Dl h),A,hi];exact⟨C,b,B,u⟩
  .exact h.elim
 |Abp x=>
  simp only[AE.wp]at h|-;split at h
  .rename_i t A
   try simp only[A]
   refine A2 h rfl rfl λenv2 w E u=>?_;simp only[AE.wp,w.val (x:=x) (λs h=>h),A];exact u
  .exact h.elim
 |Abz x=>
  simp only[AE.wp]at h|-;split at h
  .rename_i t d A
   try simp only[A]
   refine ⟨h.1,h.2,.none,rfl,trivial,V,V,(λs he=>o_),λ_=>⟨rfl,λd' hd=>?_⟩,V,λenv2 w E u=>?_⟩
   .simp only[mE]at hd;subst hd;exact h.1
   .simp only[AE.wp,w.val (x:=x) (λs h=>h),A];exact⟨w.new rfl _ rfl h.1,u⟩
  .exact h.elim
 |mm mx x y=>
  simp only[AE.wp]at h|-;split at h
  .rename_i k a k' b A ζ
   try simp only[A,ζ]
   refine ⟨h.1,A2 h.2 rfl rfl λenv2 w E u=>?_⟩;simp only[AE.wp,w.val (x:=x) (λs h=>DA h),w.val (x:=y) (λs h=>Dl h),A,ζ];exact⟨h.1,u⟩
  .exact h.elim
 |alc cs=>
  simp only[AE.wp]at h|-;split at h
  .rename_i d;refine⟨h.1,h.2,.none,rfl,trivial,V,V,(λs he=>o_),λ_=>⟨rfl,λd' hd=>?_⟩,V,λenv2 w E u=>?_⟩
   .simp only[mE]at hd;subst hd;exact h.1
   .simp only[AE.wp];exact⟨w.new rfl _ rfl h.1,u⟩
  .exact h.elim
 |st n x v=>cases J
 |stb n s v=>cases J
 |frz s=>cases J
 |xal s=>
  simp only[AE.wp]at h|-;split at h
  .rename_i n es O
   try simp only[O]
   refine ⟨h,.none,rfl,trivial,V,V,?_,i9,V,λenv2 w E u=>?_⟩
   .intro s' he;simp only[EV.pc,mE]at he;exact .inl (by simp[AE.AaY,he])
   .have B:=(w.sl s f_).xo O;simp only[AE.wp,B];exact u
  .exact h.elim
 |Abs x=>
  simp only[AE.wp]at h|-;cases A:x.q0 ε with
  |none=>rw[A]at h;exact h.elim|some p=>
   rw [A]at h;simp only[Aj]at h|-;refine A2 h rfl rfl λenv2 w E u=>?_;simp only[AE.wp,w.q0 (x:=x) (λs h=>h),A,Aj];exact u
 |lan x=>
  simp only[AE.wp]at h|-;split at h
  .rename_i s F A;cases H:ε.nat s F with
   |none=>rw[H]at h;exact h.elim|some es=>
    rw [H]at h;simp only[Aj]at h
    try simp only[A,H]
    have G:∃n∈x.sl,ε.get n=.bp s F:=by
     cases x with
     |c t=>simp[AF.ev]at A|s n=>exact⟨n,c?,A⟩
    obtain ⟨n,M,L⟩:=G;refine⟨h,.none,rfl,trivial,V,V,?_,i9,V,λenv2 w E u=>?_⟩
    .intro s' he;simp only[EV.pc,mE]at he;subst he;exact .inr ⟨n,M,g?⟩
    .have C:=(w.ev (x:=x) (λs h=>h)).bp A;have B:=(w.bp n M s g?).nat F;rw[H]at B;simp only[AE.wp,C,B,Aj];exact u
  .exact h.elim
 |nld x=>
  simp only[AE.wp]at h|-;split at h
  .rename_i s F r A;cases H:ε.nat s F with
   |none=>rw[H]at h;exact h.elim|some es=>
    rw [H]at h;simp only[Aj]at h;obtain⟨δ,h⟩:=h
    try simp only[A,H]
    have G:∃n∈x.sl,ε.get n=.nh s F (.el r):=by
     cases x with
     |c t=>simp[AF.ev]at A|s n=>exact⟨n,c?,A⟩
    obtain ⟨n,M,L⟩:=G;refine⟨δ,h,.none,rfl,trivial,V,V,?_,i9,V,λenv2 w E u=>?_⟩
    .intro s' he;simp only[EV.pc,mE]at he;subst he;exact .inr ⟨n,M,g?⟩
    .have C:=(w.ev (x:=x) (λs h=>h)).nh A;have B:=(w.bp n M s g?).nat F;rw[H]at B;simp only[AE.wp,C,B,Aj];exact⟨δ,u⟩
  .exact h.elim
 |nia x i=>
  simp only[AE.wp]at h|-;split at h
  .rename_i s F k j A κ;cases H:ε.nat s F with
   |none=>rw[H]at h;exact h.elim|some es=>
    rw [H]at h;simp only[Aj]at h;obtain⟨δ,I,h⟩:=h
    try simp only[A,κ,H]
    have G:∃n∈x.sl,ε.get n=.nh s F .hd:=by
     cases x with
     |c t=>simp[AF.ev]at A|s n=>exact⟨n,c?,A⟩
    obtain ⟨n,M,L⟩:=G;refine⟨δ,I,h,.none,rfl,trivial,V,V,?_,i9,V,λenv2 w E u=>?_⟩
    .intro s' he;simp only[EV.pc,mE]at he;subst he;exact .inr ⟨n,DA M,g?⟩
    .have C:=(w.ev (x:=x) (λs h=>DA h)).nh A;have e2:=w.val (x:=i) (λs h=>Dl h);have B:=(w.bp n (DA M) s g?).nat F;rw[H]at B;simp only[AE.wp,C,e2,κ,B,Aj];exact⟨δ,I,u⟩
  .rename_i s F r k j A κ;cases H:ε.nat s F with
   |none=>rw[H]at h;exact h.elim|some es=>
    rw [H]at h;simp only[Aj]at h;obtain⟨δ,fs,I,R,h⟩:=h
    try simp only[A,κ,H]
    have G:∃n∈x.sl,ε.get n=.nh s F (.rw r):=by
     cases x with
     |c t=>simp[AF.ev]at A|s n=>exact⟨n,c?,A⟩
    obtain ⟨n,M,L⟩:=G;refine⟨δ,fs,I,R,h,.none,rfl,trivial,V,V,?_,i9,V,λenv2 w E u=>?_⟩
    .intro s' he;simp only[EV.pc,mE]at he;subst he;exact .inr ⟨n,DA M,g?⟩
    .have C:=(w.ev (x:=x) (λs h=>DA h)).nh A;have e2:=w.val (x:=i) (λs h=>Dl h);have B:=(w.bp n (DA M) s g?).nat F;rw[H]at B;simp only[AE.wp,C,e2,κ,B,Aj];exact⟨δ,fs,I,R,u⟩
  .exact h.elim
 |lac x=>
  simp only[AE.wp]at h|-;split at h
  .rename_i s F A;split at h
   .rename_i p H
    try simp only[A,H]
    have G:∃n∈x.sl,ε.get n=.bp s F:=by
     cases x with
     |c t=>simp[AF.ev]at A|s n=>exact⟨n,c?,A⟩
    obtain ⟨n,M,L⟩:=G;refine⟨h,.none,rfl,trivial,V,V,?_,i9,V,λenv2 w E u=>?_⟩
    .intro s' he;simp only[EV.pc,mE]at he;subst he;exact .inr ⟨n,M,g?⟩
    .have C:=(w.ev (x:=x) (λs h=>h)).bp A;have B:=(w.bp n M s g?).ns (Y F);rw[H]at B;simp only[AE.wp,C,B];exact u
   .exact h.elim
  .exact h.elim
 |ctk _=>cases J
 |cpt _ _=>cases J
 |cut _ _ _=>cases J
 |Abf _ _ _ _=>cases J
 |Aa3 g xs=>
  simp only[AE.wp]at h|-;cases D:Go.Sf.vals ε xs with
  |none=>rw[D]at h;exact h.elim|some P=>
   rw [D]at h;simp only[Aj]at h|-;obtain⟨r,C,B⟩:=h;refine⟨r,C,A2 B rfl rfl λenv2 w E u=>?_⟩;simp only[AE.wp,w.vals (xs:=xs) (λs h=>h),D,Aj];exact⟨r,C,u⟩
 |Aad _ _ _=>cases J
 |AaJ g xs=>
  simp only[AE.wp]at h|-;cases D:Go.Sf.Aaa ε xs with
  |none=>rw[D]at h;exact h.elim|some P=>
   rw [D]at h;simp only[Aj]at h|-;obtain⟨r,C,B⟩:=h;refine⟨r,C,λθ=>A2 (B θ) rfl (by cases r<;>rfl) λenv2 w E u=>?_⟩;simp only[AE.wp,w.Aaa (xs:=xs) (λs h=>h),D,Aj];exact⟨r,C,λ_=>u⟩
 |Abl Z x=>
  simp only[AE.wp]at h|-;split at h
  .rename_i t d A
   try simp only[A]
   cases D:Ey Z t.cells with
   |none=>rw[D]at h;exact h.elim|some cs=>
    rw [D]at h;simp only[Aj]at h|-;refine⟨h.1,h.2,.none,rfl,trivial,V,V,(λs he=>o_),λ_=>⟨rfl,λd' hd=>?_⟩,V,λenv2 w E u=>?_⟩
    .simp only[mE]at hd;subst hd;exact h.1
    .simp only[AE.wp,w.val (x:=x) (λs h=>h),A,D,Aj];exact⟨w.new rfl _ rfl h.1,u⟩
  .exact h.elim
 |xia x i n=>
  simp only[AE.wp]at h|-;cases A:x.q0 ε with
  |none=>rw[A]at h;exact h.elim|some p=>
   rw [A]at h;simp only[Aj]at h|-;split at h
   .rename_i ik j κ
    try simp only[κ]
    obtain ⟨⟨C,B⟩,I,R,h5⟩:=h;have G:∃n∈x.sl,(ε.get n).pc=Y p.1.1:=by
     cases x with
     |c t=>simp[AF.ev,EV.pc]at C|s n=>exact⟨n,c?,C⟩
    obtain ⟨m,hm',hr⟩:=G;refine⟨⟨C,B⟩,I,R,h5,.none,rfl,trivial,V,V,?_,i9,V,λenv2 w E u=>?_⟩
    .intro s' he;simp only[EV.pc,mE]at he;subst he;exact .inr ⟨m,DA hm',hr⟩
    .have e1:=w.q0 (x:=x) (λs h=>DA h);have e2:=w.val (x:=i) (λs h=>Dl h);have Q:=(w.ev (x:=x) (λs h=>DA h)).pc;simp only[AE.wp,e1,A,e2,κ,Aj,Q,C];exact⟨⟨trivial,B⟩,I,R,u⟩
   .exact h.elim
 |xfa x k=>
  simp only[AE.wp]at h|-;split at h
  .rename_i q i c A;split at h
   .rename_i p H
    try simp only[A,H]
    have G:∃n∈x.sl,ε.get n=.lp q i c:=by
     cases x with
     |c t=>simp[AF.ev]at A|s n=>exact⟨n,c?,A⟩
    obtain ⟨n,M,L⟩:=G;refine⟨h,.none,rfl,trivial,V,V,?_,i9,V,λenv2 w E u=>?_⟩
    .intro s' he;simp only[EV.pc,mE]at he;subst he;exact .inr ⟨n,M,g?⟩
    .have C:=(w.ev (x:=x) (λs h=>h)).Abh (q:=q) o2;have B:=(w.bp n M q g?).ns i;rw[H]at B;simp only[AE.wp,C,A,B];exact u
   .exact h.elim
  .exact h.elim
 |xin x i n=>
  simp only[AE.wp]at h|-;split at h
  .rename_i q ik j A κ;split at h
   .rename_i m es H
    try simp only[A,κ,H]
    have G:∃n∈x.sl,ε.get n=.la q W:=by
     cases x with
     |c t=>simp[AF.ev]at A|s n=>exact⟨n,c?,A⟩
    obtain ⟨k,hk,L⟩:=G;obtain⟨C,B,I,R⟩:=h;refine⟨C,B,I,R,.none,rfl,trivial,V,V,?_,i9,V,λenv2 w E u=>?_⟩
    .intro s' he;simp only[EV.pc,mE]at he;subst he;exact .inr ⟨k,DA hk,g?⟩
    .have e1:=(w.ev (x:=x) (λs h=>DA h)).Abh (q:=q) o2;have e2:=w.val (x:=i) (λs h=>Dl h);have Q:=(w.bp k (DA hk) q g?).ns W;simp only[AB.ns,H]at Q;have e4:env2.get q=.xo m es:=by
      cases he:env2.get q<;>rw[he]at Q<;>simp at Q;rw[Q.1,Q.2]
     simp only[AE.wp,e1,A,e2,κ,e4];exact⟨C,B,I,u⟩
   .exact h.elim
  .exact h.elim
 |xln x=>
  simp only[AE.wp]at h|-;split at h
  .rename_i q c A;split at h
   .rename_i m es H
    try simp only[A,H]
    cases D:(es.flatMap TV.cells)[c]? with
    |none=>rw[D]at h;exact h.elim|some t=>
     rw [D]at h;simp only[Aj]at h|-;have G:∃n∈x.sl,ε.get n=.lp q W c:=by
      cases x with
      |c t=>simp[AF.ev]at A|s n=>exact⟨n,c?,A⟩
     obtain ⟨n,M,L⟩:=G;refine A2 h rfl rfl λenv2 w E u=>?_;have C:=(w.ev (x:=x) (λs h=>h)).Abh (q:=q) o2;have Q:=(w.bp n M q g?).ns W;simp only[AB.ns,H]at Q;have e4:env2.get q=.xo m es:=by
      cases he:env2.get q<;>rw[he]at Q<;>simp at Q;rw[Q.1,Q.2]
     simp only[AE.wp,C,A,e4,D,Aj];exact u
   .exact h.elim
  .exact h.elim
 |xld x=>
  simp only[AE.wp]at h|-;split at h
  .rename_i q i c A;split at h
   .rename_i p H
    try simp only[A,H]
    cases D:(p.2.flatMap TV.cells)[c]? with
    |none=>rw[D]at h;exact h.elim|some t=>
     rw [D]at h;simp only[Aj]at h|-;have G:∃n∈x.sl,ε.get n=.lp q i c:=by
      cases x with
      |c t=>simp[AF.ev]at A|s n=>exact⟨n,c?,A⟩
     obtain ⟨n,M,L⟩:=G;refine A2 h rfl rfl λenv2 w E u=>?_;have C:=(w.ev (x:=x) (λs h=>h)).Abh (q:=q) o2;have B:=(w.bp n M q g?).ns i;rw[H]at B;simp only[AE.wp,C,A,B,D,Aj];exact u
   .exact h.elim
  .exact h.elim
 |xst _ _ _=>cases J
 |rel _=>cases J
 |Abg _=>cases J
 |tkx _=>cases J
 |Aa5 _ _ _=>cases J
 |AaD g xs=>
  simp only[AE.wp]at h|-;split at h
  .rename_i d;obtain⟨N,h⟩:=h;refine⟨N,?_⟩;cases D:Go.Sf.vals ε xs with
   |none=>rw[D]at h;exact h.elim|some P=>
    rw [D]at h;simp only[Aj]at h|-;obtain⟨n,es,C,B⟩:=h;refine⟨n,es,C,λθ=>⟨B θ,.none,rfl,trivial,V,V,(λs he=>o_),λ_=>⟨rfl,λd' hd=>?_⟩,V,λenv2 w E u=>?_⟩⟩
    .simp only[mE]at hd;subst hd;exact N
    .simp only[AE.wp,w.vals (xs:=xs) (λs h=>h),D,Aj];exact⟨w.new rfl _ rfl N,n,es,C,λ_=>u⟩
  .exact h.elim
 |mko n z x=>
  simp only[AE.wp]at h|-;split at h
  .rename_i d k j A
   try simp only[A]
   obtain ⟨N,C,B,I⟩:=h;refine⟨N,C,B,I,.none,rfl,trivial,V,V,(λs he=>o_),λ_=>⟨rfl,λd' hd=>?_⟩,V,λenv2 w E u=>?_⟩
   .simp only[mE]at hd;subst hd;exact N
   .simp only[AE.wp,w.val (x:=x) (λs h=>h),A];exact⟨w.new rfl _ rfl N,C,B,u⟩
  .exact h.elim
 |mkx n z x=>
  simp only[AE.wp]at h|-;split at h
  .rename_i d k j A
   try simp only[A]
   obtain ⟨N,C,B,I⟩:=h;refine⟨N,C,B,I,.none,rfl,trivial,V,V,(λs he=>o_),λ_=>⟨rfl,λd' hd=>?_⟩,V,λenv2 w E u=>?_⟩
   .simp only[mE]at hd;subst hd;exact N
   .simp only[AE.wp,w.val (x:=x) (λs h=>h),A];exact⟨w.new rfl _ rfl N,C,B,u⟩
  .exact h.elim
 |AaB _ _ _=>cases J
 |AaV _ _=>cases J
 |x8 _=>cases J
 |Abo _=>cases J
 |AaH _ _=>cases J
 |nst _ _=>cases J
 |AbA _=>cases J
 |AaI _ _ _=>cases J
 |ldg _ _=>cases J
 |stq _ _ _ _=>cases J
 |mkm=>cases J
 |mvm _=>cases J
 |AaC _ _=>cases J
 |mlk _ _ _=>cases J
 |mup _ _ _ _=>cases J
 |pr _ _=>cases J
 |mnx _=>cases J
 |men _=>cases J
 |Abd _=>cases J
 |stx _ _ _=>cases J
 |isn _=>cases J
 |Aa4 g xs=>
  simp only[AE.wp]at h|-;cases D:Go.Sf.Aaa ε xs with
  |none=>rw[D]at h;exact h.elim|some P=>
   rw [D]at h;simp only[Aj]at h|-;obtain⟨r,C,B⟩:=h;refine⟨r,C,λθ=>A2 (B θ) rfl rfl λenv2 w E u=>?_⟩;simp only[AE.wp,w.Aaa (xs:=xs) (λs h=>h),w.vals (xs:=xs) (λs h=>h),D,Aj];exact⟨r,C,λ_=>u⟩
 |Aaz g xs=>
  simp only[AE.wp]at h|-;cases D:Go.Sf.vals ε xs with
  |none=>rw[D]at h;exact h.elim|some P=>
   rw [D]at h;simp only[Aj]at h|-;obtain⟨r,C,I,B⟩:=h;refine⟨r,C,I,λθ=>A2 (B θ) rfl rfl λenv2 w E u=>?_⟩;simp only[AE.wp,w.vals (xs:=xs) (λs h=>h),D,Aj];exact⟨r,C,I,λ_=>u⟩
 |Abv x k n agg=>
  simp only[AE.wp]at h|-;split at h
  .rename_i cs A
   try simp only[A]
   obtain ⟨C,B⟩:=h;refine⟨C,?_⟩;cases agg with
   |true=>
    simp only[if_true]at B|-;refine A2 B rfl rfl λenv2 w E u=>?_;simp only[AE.wp,w.val (x:=x) (λs h=>h),A,if_true];exact⟨C,u⟩
   |false=>
    simp only[Bool.false_eq_true,if_false]at B|-;cases D:Fo (cs.drop k)with
    |none=>rw[D]at B;exact B.elim|some t=>
     rw [D]at B;simp only[Aj]at B|-;refine A2 B rfl rfl λenv2 w E u=>?_;simp only[AE.wp,w.val (x:=x) (λs h=>h),A,Bool.false_eq_true,if_false,D,Aj];exact⟨C,u⟩
  .exact h.elim
end
end Go.Sf
