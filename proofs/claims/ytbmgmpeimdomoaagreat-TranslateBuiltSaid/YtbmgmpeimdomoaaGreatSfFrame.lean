/- What an operation leans on: the slots that it reads, whether or not they own their lists. -/
import Derived.Test.YtbmgmpeimdomoaaGreatSfCode
set_option linter.all false
open Option renaming some->Y,none->W
open Bool renaming true->X,false->T
open List renaming map_map->w!,getElem?_map->w?,mem_append->x_,map_drop->x!
namespace Go.Sf
theorem qZ{cs ds:List AO}(h:ds.map AO.key=cs.map AO.key):ds.map (·.t)=cs.map (·.t):=by
 have:=congrArg (List.map Prod.fst) h;simpa[w!,Function.comp_def,AO.key]using this
def fc(p:TV×Bool):TV:=match p with
 |(.xl n es,X)=>.list n es|p=>p.1
theorem cM{cs ds:List AO}(h:ds.map AO.key=cs.map AO.key):ds.map AO.Abm=cs.map AO.Abm:=by
 have a:∀c:AO,c.Abm=fc c.key:=by
  rintro ⟨_|_,t⟩<;>cases t<;>rfl
 have:=congrArg (List.map fc) h;simpa[w!,Function.comp_def,<-a]using this
def yR(p:TV×Bool):Option (Nat×Fq):=match p with
 |(.xl n es,X)=>Y (n,es)|_=>W
theorem uo{cs ds:List AO}(h:ds.map AO.key=cs.map AO.key)(k:Nat):(match ds[k]? with
  |some ⟨X,.xl n es⟩=>Y (n,es)|_=>W)=(match cs[k]? with
  |some ⟨X,.xl n es⟩=>Y (n,es)|_=>W):=by
 have a:∀o:Option AO,(match o with
  |some ⟨X,.xl n es⟩=>Y (n,es)|_=>W)=(o.map AO.key).bind yR:=by
  rintro (_|⟨_|_,t⟩)
  .rfl
  .cases t<;>rfl
  .cases t<;>rfl
 rw [a,a];have:=congrArg (λl=>l[k]?) h;simp only[w?]at this;rw[this]
def yT(p:TV×Bool):Option Fq:=match p with
 |(.xn es,X)=>Y es|_=>W
theorem uq{cs ds:List AO}(h:ds.map AO.key=cs.map AO.key)(k:Nat):(match ds[k]? with
  |some ⟨X,.xn es⟩=>Y es|_=>W)=(match cs[k]? with
  |some ⟨X,.xn es⟩=>Y es|_=>W):=by
 have a:∀o:Option AO,(match o with
  |some ⟨X,.xn es⟩=>Y es|_=>W)=(o.map AO.key).bind yT:=by
  rintro (_|⟨_|_,t⟩)
  .rfl
  .cases t<;>rfl
  .cases t<;>rfl
 rw [a,a];have:=congrArg (λl=>l[k]?) h;simp only[w?]at this;rw[this]
def EV.like(e e2:EV):Prop:=
 e2=e\/(∃n es,(e=.tv (.list n es)/\e2=.ow (.list n es))\/(e=.ow (.list n es)/\e2=.tv (.list n es)))\/∃cs ds,e=.bx cs/\e2=.bx ds/\ds.map AO.key=cs.map AO.key
theorem EV.like.rfl'(e:EV):e.like e:=.inl rfl
variable{e e2:EV}
theorem EV.like.symm(h:e.like e2):e2.like e:=by
 rcases h with rfl|⟨n,es,⟨rfl,rfl⟩|⟨rfl,rfl⟩⟩|⟨cs,ds,rfl,rfl,h⟩
 .exact .inl rfl
 .exact .inr (.inl ⟨n,es,.inr ⟨rfl,rfl⟩⟩)
 .exact .inr (.inl ⟨n,es,.inl ⟨rfl,rfl⟩⟩)
 .exact .inr (.inr ⟨ds,cs,rfl,rfl,h.symm⟩)
theorem EV.like.pr(h:e.like e2):e2.pr=e.pr:=by
 rcases h with rfl|⟨n,es,⟨rfl,rfl⟩|⟨rfl,rfl⟩⟩|⟨cs,ds,rfl,rfl,h⟩<;>rfl
variable{q:Nat}
theorem EV.like.Abl(h:e.like e2)(a:e.pr=Y q):e2=e:=by
 rcases h with rfl|⟨n,es,⟨rfl,rfl⟩|⟨rfl,rfl⟩⟩|⟨cs,ds,rfl,rfl,h⟩
 .rfl
 .cases a
 .cases a
 .cases a
theorem EV.like.xo(h:e.like e2){n:Nat}{es:Fq}(he:e=.xo n es):e2=.xo n es:=by
 subst he;rcases h with rfl|⟨n,es,⟨h,_⟩|⟨h,_⟩⟩|⟨cs,ds,h,_⟩
 .rfl
 .cases h
 .cases h
 .cases h
theorem EV.like.val(h:e.like e2):e2.val=e.val:=by
 rcases h with rfl|⟨n,es,⟨rfl,rfl⟩|⟨rfl,rfl⟩⟩|⟨cs,ds,rfl,rfl,h⟩<;>rfl
theorem EV.like.pt(h:e.like e2){row:Fq}(he:e=.tv (.pt row)):e2=.tv (.pt row):=by
 subst he;rcases h with rfl|⟨n,es,⟨h,rfl⟩|⟨h,rfl⟩⟩|⟨cs,ds,h,rfl,a⟩
 .rfl
 .simp at h
 .cases h
 .cases h
theorem EV.like.bp(h:e.like e2){q a:Nat}(he:e=.bp q a):e2=.bp q a:=by
 subst he;rcases h with rfl|⟨n,es,⟨h,rfl⟩|⟨h,rfl⟩⟩|⟨cs,ds,h,rfl,b⟩
 .rfl
 .cases h
 .cases h
 .cases h
theorem EV.like.tp(h:e.like e2){a:Fq}(he:e=.tp a):e2=.tp a:=by
 subst he;rcases h with rfl|⟨n,es,⟨h,rfl⟩|⟨h,rfl⟩⟩|⟨cs,ds,h,rfl,b⟩
 .rfl
 .cases h
 .cases h
 .cases h
theorem EV.like.bx(h:e.like e2){cs:List AO}(he:e=.bx cs):∃ds,e2=.bx ds/\ds.map AO.key=cs.map AO.key:=by
 subst he;rcases h with rfl|⟨n,es,⟨h,rfl⟩|⟨h,rfl⟩⟩|⟨cs',ds,h,rfl,a⟩
 .exact⟨cs,rfl,rfl⟩
 .cases h
 .cases h
 .simp only[EV.bx.injEq]at h;subst h;exact⟨ds,rfl,a⟩
def AF.sl:AF->I2
 |.s n=>[n]|.c _=>[]
def YB:Option AF->I2
 |some x=>x.sl|none=>[]
def C0:List AF->I2
 |[]=>[]|x::xs=>x.sl++C0 xs
def Qy:List (Nat×Nat×AF)->I2
 |[]=>[]|x::xs=>x.2.2.sl++Qy xs
def AE.slots:AE->I2
 |.mv x=>x.sl|.tk s=>[s]|.Abo _=>[]|.fad x _=>x.sl|.bad s _=>[s]|.iad x i _=>x.sl++i.sl|.aad x i _ _=>x.sl++i.sl|.ld x=>x.sl|.lda x _=>x.sl|.ldb s _=>[s]|.ldt x=>x.sl|.bin _ _ x y=>x.sl++y.sl|.not x=>x.sl|.neg x=>x.sl|.pick c a b=>c.sl++(a.sl++b.sl)|.len x=>x.sl|.AbB x=>x.sl|.slc _ x lo hi=>x.sl++(YB lo++YB hi)|.Aau x lo hi=>x.sl++(YB lo++YB hi)|.bld _ ps=>Qy ps|.lst _ ps=>C0 ps|.app _ x y=>x.sl++y.sl|.call _ xs=>C0 xs|.Abi x xs=>x.sl++C0 xs|.clo _ xs=>C0 xs|.ext x _=>x.sl|.cvt _ x=>x.sl|.Aas x i=>x.sl++i.sl|.Abp x=>x.sl|.Abv x=>x.sl|.mm _ x y=>x.sl++y.sl|.alc _=>[]|.st _ x v=>x.sl++v.sl|.stb _ s v=>s::v.sl|.frz s=>[s]|.AbA x _ _ _=>x.sl|.xal s=>[s]|.Abu x=>x.sl|.xia x i _=>x.sl++i.sl|.xfa x _=>x.sl|.xld x=>x.sl|.xst x v _=>x.sl++v.sl|.rel s=>[s]|.Abd _=>[]|.Abg _=>[]|.tkx s=>[s]|.Aa7 _ s y=>s::y.sl|.AaB _ xs=>C0 xs|.mkx _ _ x=>x.sl|.mko _ _ x=>x.sl|.Aay _ x ys=>x.sl++C0 ys|.AaR _ x=>x.sl|.x9 gs=>gs.flatMap GC.sl|.stx _ s q=>[s,q]|.Aa3 _ xs=>C0 xs|.Aax _ xs=>C0 xs|.isn x=>x.sl|.fdv x _=>x.sl|.ldv x _=>x.sl|.lac x=>x.sl|.ctk x=>x.sl|.cpt x q=>x.sl++[q]|.cut _ s hi=>s::hi.sl|.AaH _ xs=>C0 xs|.Abj _ x=>x.sl|.Abe _ s _ x=>s::x.sl|.Aa2 _ xs=>C0 xs|.Aad _ xs _=>C0 xs|.Abn q=>[q]|.AaG s q=>[s,q]|.lan x=>x.sl|.nia x i=>x.sl++i.sl|.nld x=>x.sl|.nst x v=>x.sl++v.sl|.Abx q=>[q]|.AaI _ xs _=>C0 xs|.ldg s _=>[s]|.stq _ _ x v=>x.sl++v.sl|.mkm=>[]|.mvm s=>[s]|.AaA _ xs=>C0 xs|.mlk s m x=>s::(m.sl++x.sl)|.mup s m x v=>s::(m.sl++(x.sl++v.sl))|.r0 s m=>s::m.sl|.mnx s=>[s]|.men s=>[s]|.xin x i _=>x.sl++i.sl|.xln x=>x.sl
def AE.dem:AE->I2
 |.tk s=>[s]|.app _ x _=>x.sl|_=>[]
def AE.mov:AE->Bool
 |.st ..=>T|.stb ..=>T|.frz _=>T|.xst ..=>T|.rel _=>T|.Abd _=>T|.Abg _=>T|.tkx _=>T|.Aa7 ..=>T|.Aay ..=>T|.AaR ..=>T|.x9 _=>T|.stx ..=>T|.isn _=>T|.ctk _=>T|.cpt ..=>T|.cut ..=>T|.Abe ..=>T|.Aad ..=>T|.Abn _=>T|.AaG ..=>T|.nst ..=>T|.Abx _=>T|.AaI ..=>T|.ldg ..=>T|.stq ..=>T|.mkm=>T|.mvm _=>T|.AaA ..=>T|.mlk ..=>T|.mup ..=>T|.r0 ..=>T|.mnx _=>T|.men _=>T|_=>X
def AE.pq:AE->Bool
 |.alc _=>X|.Abv _=>X|.Abj ..=>X|.AaB ..=>X|.mkx ..=>X|.mko ..=>X|_=>T
def AE.Aa1:AE->I2
 |.bad s _=>[s]|.xal s=>[s]|_=>[]
inductive A6 where
 |none
 |slot (s:Nat) (t:TV)
 |cell (s off:Nat) (t:TV)
def A6.app:A6->AB->AB
 |.none,ε=>ε|.slot s t,ε=>(s,.tv t)::ε|.cell s off t,ε=>match ε.get s with
  |.bx cs=>(s,.bx (cs.set off ⟨T,t⟩))::ε|_=>ε
def A6.ok:A6->AB->Prop
 |.none,_=>True|.slot s t,ε=>ε.get s=.ow t|.cell s off t,ε=>∃cs,ε.get s=.bx cs/\cs[off]?=Y ⟨X,t⟩
structure Eg(op:AE)(f:A6)(dst:Option Nat)(ε env2:AB):Prop where
 sl:∀s∈op.slots,(ε.get s).like (env2.get s)
 bp:∀s∈op.slots,∀q,(ε.get s).pr=Y q->(ε.get q).like (env2.get q)
 dem:∀s∈op.dem,(∀cs,ε.get s≠.bx cs)->env2.get s=ε.get s
 eff:f.ok env2
 new:op.pq=X->∀d,dst=Y d->ε.ek d=X->env2.ek d=X
section
variable{op:AE}{f:A6}{dst:Option Nat}{ε env2:AB}
variable{x:AF}
theorem Eg.val(h:Eg op f dst ε env2)(a:∀s∈x.sl,s∈op.slots):x.val env2=x.val ε:=by
 cases x with
 |c t=>rfl|s n=>exact(h.sl n (a n c!)).val
theorem Eg.ev(h:Eg op f dst ε env2)(a:∀s∈x.sl,s∈op.slots):(x.ev ε).like (x.ev env2):=by
 cases x with
 |c t=>exact .inl rfl|s n=>exact h.sl n (a n c!)
theorem Eg.vals(h:Eg op f dst ε env2):∀{xs:List AF},(∀s∈C0 xs,s∈op.slots)->Go.Sf.vals env2 xs=Go.Sf.vals ε xs
 |[],_=>rfl|x::xs,b=>by
  simp only[C0,x_]at b;simp only[Go.Sf.vals,h.val (x:=x) (λs a=>b s (.inl a)),h.vals (xs:=xs) (λs a=>b s (.inr a))]
theorem Eg.parts(h:Eg op f dst ε env2):∀{xs:List (Nat×Nat×AF)},(∀s∈Qy xs,s∈op.slots)->E4 env2 xs=E4 ε xs
 |[],_=>rfl|(i,n,x)::xs,b=>by
  simp only[Qy,x_]at b;simp only[E4,h.val (x:=x) (λs a=>b s (.inl a)),h.parts (xs:=xs) (λs a=>b s (.inr a))]
theorem Eg.bnd(h:Eg op f dst ε env2){x:Option AF}{k:Int}(a:∀s∈YB x,s∈op.slots):Hf env2 k x=Hf ε k x:=by
 cases x with
 |none=>rfl|some x=>exact h.val a
theorem Eg.addr(h:Eg op f dst ε env2)(j:∀s∈x.sl,s∈op.slots):A7 env2 (x.ev env2)=A7 ε (x.ev ε):=by
 cases x with
 |c t=>cases t<;>rfl
 |s n=>
  have g:=j n c!;have a:=h.sl n g;have i:=h.bp n g;simp only[AF.ev];generalize ε.get n=e at a i;generalize env2.get n=e2 at a;rcases a with rfl|⟨n,es,⟨rfl,rfl⟩|⟨rfl,rfl⟩⟩|⟨cs,ds,rfl,rfl,d⟩
  .cases e2 with
   |bp q k=>
    have b:=i q rfl;simp only[A7];generalize ε.get q=e1 at b;generalize env2.get q=e2 at b;rcases b with rfl|⟨n,es,⟨rfl,rfl⟩|⟨rfl,rfl⟩⟩|⟨cs,ds,rfl,rfl,d⟩
    .rfl
    .rfl
    .rfl
    .simp only[x!,qZ d]
   |tv t=>cases t<;>rfl
   |_=>rfl
  .rfl
  .rfl
  .simp only[A7,qZ d]
theorem Eg.place(h:Eg op f dst ε env2)(d:∀s∈x.sl,s∈op.slots):x.place env2=x.place ε:=by
 cases x with
 |c t=>rfl|s n=>
  have g:=h.sl n (d n c!);simp only[AF.place];rcases g with a|⟨n,es,⟨a,b⟩|⟨a,b⟩⟩|⟨cs,ds,a,b,_⟩
  .rw[a]
  .rw[a,b]
  .rw[a,b]
  .rw[a,b]
variable{q:Nat}
theorem EV.like.o3{ε env2:AB}(h:(ε.get q).like (env2.get q))(i:Option Nat):env2.o3 q i=ε.o3 q i:=by
 rcases h with a|⟨n,es,⟨a,b⟩|⟨a,b⟩⟩|⟨cs,ds,a,b,c⟩
 .exact AB.Aae a
 .cases i<;>simp only[AB.o3,a,b]
 .cases i<;>simp only[AB.o3,a,b]
 .cases i with
  |none=>simp only[AB.o3,a,b]|some k=>simp only[AB.o3,a,b];exact uo c k
theorem EV.like.nat{ε env2:AB}(h:(ε.get q).like (env2.get q))(i:Nat):env2.nat q i=ε.nat q i:=by
 rcases h with a|⟨n,es,⟨a,b⟩|⟨a,b⟩⟩|⟨cs,ds,a,b,c⟩
 .exact AB.Aap a
 .simp only[AB.nat,a,b]
 .simp only[AB.nat,a,b]
 .simp only[AB.nat,a,b];exact uq c i
variable{e e2:EV}
theorem EV.like.nh(h:e.like e2){q i:Nat}{k:NK}(he:e=.nh q i k):e2=.nh q i k:=by
 subst he;exact h.Abl rfl
theorem Eg.tg(h:Eg op f dst ε env2)(g:∀s∈x.sl,s∈op.slots):x.tg env2=x.tg ε:=by
 cases x with
 |c t=>rfl|s n=>
  have d:=g n c!;have j:=h.sl n d;have k:=h.bp n d;simp only[AF.tg];rcases j with a|⟨m,es,⟨a,b⟩|⟨a,b⟩⟩|⟨cs,ds,a,b,_⟩
  .rw[a];cases he:ε.get n with
   |la q i=>simp only[(k q (by rw[he];rfl)).o3 i]|_=>rfl
  .rw[a,b]
  .rw[a,b]
  .rw[a,b]
theorem Eg.Abw(h:Eg op f dst ε env2)(i:∀s∈x.sl,s∈op.slots):x.Abw env2=x.Abw ε:=by
 unfold AF.Abw;rw[h.tg i];cases x.tg ε with
 |some p=>rfl|none=>
  cases x with
  |c t=>cases t<;>rfl
  |s n=>
   have j:=i n c!;have k:=h.sl n j;have o:=h.bp n j;simp only[AF.ev];rcases k with a|⟨m,es,⟨a,d⟩|⟨a,d⟩⟩|⟨cs,ds,a,d,u⟩
   .rw[a];cases he:ε.get n with
    |bp q w=>
     have r:=o q (by rw[he];rfl);simp only;rcases r with b|⟨m,es,⟨b,g⟩|⟨b,g⟩⟩|⟨cs,ds,b,g,v⟩
     .rw[b]
     .rw[b,g]
     .rw[b,g]
     .rw[b,g];have:=cM v;simp only[x!,this]
    |_=>rfl
   .rw[a,d];rfl
   .rw[a,d];rfl
   .rw[a,d];simp only[cM u]
theorem Eg.Aaa(h:Eg op f dst ε env2):∀{xs:List AF},(∀s∈C0 xs,s∈op.slots)->Go.Sf.Aaa env2 xs=Go.Sf.Aaa ε xs
 |[],_=>rfl|x::xs,b=>by
  simp only[C0,x_]at b;simp only[Go.Sf.Aaa,h.Abw (x:=x) (λs a=>b s (.inl a)),h.Aaa (xs:=xs) (λs a=>b s (.inr a))]
end
structure j9(S:FuncId->Fq->As->Prop)(op:AE)(dst:Option Nat)(ε:AB)(e:EV)(env':AB)(f:A6):Prop where
 env':env'=f.app ε
 ok:f.ok ε
 slot:∀s t,f=.slot s t->s∈op.dem
 cell:∀s off t,f=.cell s off t->(s∈op.slots\/∃x∈op.slots,(ε.get x).pr=Y s)
 pr:∀s,e.pr=Y s->(s∈op.Aa1\/∃x∈op.slots,(ε.get x).pr=Y s)
 new:op.pq=X->e.pr=W/\∀d,dst=Y d->ε.ek d=X
 xl:∀s off t,f=.cell s off t->t.Aav=T
 again:∀env2,Eg op f dst ε env2->∀K2:EV->AB->Prop,K2 e (f.app env2)->op.wp S env2 dst K2
section
variable{S:FuncId->Fq->As->Prop}{op:AE}{dst:Option Nat}{ε:AB}{K:EV->AB->Prop}
variable{e:EV}
theorem A0(b:K e ε)(c:op.pq=T)(d:e.pr=W)(h:∀env2,Eg op .none dst ε env2->∀a:EV->AB->Prop,a e env2->op.wp S env2 dst a):K e ε/\∃f,j9 S op dst ε e ε f:=
 ⟨b,.none,rfl,trivial,V,V,(λs he=>by rw[d]at he;cases he),by simp[c],V,h⟩
variable{α:Type}{l m:List α}
theorem De{x:α}(h:x∈m):x∈l++m:=List.mem_append_right _ h
theorem C3{x:α}(h:x∈l):x∈l++m:=List.mem_append_left _ h
theorem frame(J:op.mov=X)(h:op.wp S ε dst K):op.wp S ε dst λe env'=>K e env'/\∃f,j9 S op dst ε e env' f:=by
 cases op with
 |mv x=>
  simp only[AE.wp]at h|-;have key:∀t,(x.ev ε).val=Y t->∀env2,Eg (.mv x) .none dst ε env2->∀E:EV->AB->Prop,E (.tv t) env2->(AE.mv x).wp S env2 dst E:=by
   intro t ht env2 w E u;have hv:=w.val (x:=x) (λs h=>h);simp only[AF.val]at hv;rw[ht]at hv;simp only[AE.wp];cases he:x.ev env2<;>rw[he]at hv<;>simp[EV.val]at hv<;>subst hv<;>exact u
  split at h
  .rename_i t A
   try simp only[A]
   exact A0 h rfl rfl (key t o!)
  .rename_i t A
   try simp only[A]
   exact A0 h rfl rfl (key t o!)
  .rename_i P A
   try simp only[A]
   refine A0 h rfl rfl λenv2 w E u=>?_;cases x with
   |c t=>simp[AF.ev]at A|s n=>
    simp only[AF.ev]at A;have B:env2.get n=.tp P:=(w.sl n t!).tp A;simp only[AE.wp,AF.ev,B];exact u
  .exact h.elim
 |tk s=>
  simp only[AE.wp]at h|-;split at h
  .rename_i t O
   try simp only[O]
   refine ⟨h,.slot s t,rfl,O,?_,V,(λs he=>o_),i9,V,λenv2 w E u=>?_⟩
   .intro s' t' he;simp only[A6.slot.injEq]at he;simp[AE.dem,he.1]
   .have:=w.eff;simp only[A6.ok]at this;simp only[AE.wp,this];exact u
  .rename_i t O
   try simp only[O]
   refine A0 h rfl rfl λenv2 w E u=>?_;have:=w.dem s (by simp[AE.dem]) (by simp[O]);simp only[AE.wp,this,O];exact u
  .exact h.elim
 |Abo n=>exact A0 h rfl rfl λenv2 w E u=>u|fad x k=>
  simp only[AE.wp]at h|-;split at h
  .rename_i row A
   try simp only[A]
   refine A0 h rfl rfl λenv2 w E u=>?_;have:=(w.ev (x:=x) (λs h=>h)).pt A;simp only[AE.wp,this];exact u
  .rename_i s F A;split at h
   .rename_i cs O
    try simp only[A,O]
    have G:∃n∈x.sl,ε.get n=.bp s F:=by
     cases x with
     |c t=>simp[AF.ev]at A|s n=>exact⟨n,c!,A⟩
    obtain ⟨n,M,L⟩:=G;refine⟨h,.none,rfl,trivial,V,V,?_,i9,V,λenv2 w E u=>?_⟩
    .intro s' he;simp only[EV.pr,nm]at he;subst he;exact .inr ⟨n,M,g?⟩
    .have C:=(w.ev (x:=x) (λs h=>h)).bp A;have B:=w.bp n M s g?;rw[O]at B;obtain⟨ds,I,_⟩:=B.bx rfl;simp only[AE.wp,C,I];exact u
   .exact h.elim
  .exact h.elim
 |bad s k=>
  simp only[AE.wp]at h|-;split at h
  .rename_i cs O
   try simp only[O]
   refine ⟨h,.none,rfl,trivial,V,V,?_,i9,V,λenv2 w E u=>?_⟩
   .intro s' he;simp only[EV.pr,nm]at he;exact .inl (by simp[AE.Aa1,he])
   .have B:=w.sl s f_;rw[O]at B;obtain⟨ds,I,_⟩:=B.bx rfl;simp only[AE.wp,I];exact u
  .rename_i row O
   try simp only[O]
   refine A0 h rfl rfl λenv2 w E u=>?_;have:=(w.sl s f_).pt O;simp only[AE.wp,this];exact u
  .exact h.elim
 |iad x i n=>
  simp only[AE.wp]at h|-;split at h
  .rename_i m es k j A hi
   try simp only[A,hi]
   obtain ⟨C,B,e,I,R⟩:=h;refine⟨C,B,e,I,A0 R rfl rfl λenv2 w E u=>?_⟩;simp only[AE.wp,w.val (x:=x) (λs h=>C3 h),w.val (x:=i) (λs h=>De h),A,hi];exact⟨C,B,e,I,u⟩
  .exact h.elim
 |aad x i n k=>
  simp only[AE.wp]at h|-;split at h
  .rename_i row kk j A hi
   try simp only[A,hi]
   obtain ⟨C,B,I,R⟩:=h;refine⟨C,B,I,A0 R rfl rfl λenv2 w E u=>?_⟩;have:=(w.ev (x:=x) (λs h=>C3 h)).pt A;simp only[AE.wp,this,w.val (x:=i) (λs h=>De h),hi];exact⟨C,B,I,u⟩
  .exact h.elim
 |ld x=>
  simp only[AE.wp]at h|-;cases D:A7 ε (x.ev ε)with
  |none=>rw[D]at h;exact h.elim|some cs=>
   rw [D]at h;simp only[Ai]at h|-;cases hf:FW cs with
   |none=>rw[hf]at h;exact h.elim|some t=>
    rw [hf]at h;refine⟨h.1,A0 h.2 rfl rfl λenv2 w E u=>?_⟩;simp only[AE.wp,w.addr (x:=x) (λs h=>h),D,Ai,hf];exact⟨h.1,u⟩
 |lda x n=>
  simp only[AE.wp]at h|-;cases D:A7 ε (x.ev ε)with
  |none=>rw[D]at h;exact h.elim|some cs=>
   rw [D]at h;simp only[Ai]at h|-;refine⟨h.1,A0 h.2 rfl rfl λenv2 w E u=>?_⟩;simp only[AE.wp,w.addr (x:=x) (λs h=>h),D,Ai];exact⟨h.1,u⟩
 |ldb s n=>
  simp only[AE.wp]at h|-;split at h
  .rename_i cs D
   try simp only[D]
   refine ⟨h.1,A0 h.2 rfl rfl λenv2 w E u=>?_⟩;have C:=w.addr (x:=.s s) (λs h=>h);obtain⟨ds,I,_⟩:=(w.sl s f_).bx D;simp only[AF.ev,D,I,A7,nm]at C;simp only[AE.wp,I,C];exact⟨h.1,u⟩
  .exact h.elim
 |ldt x=>
  simp only[AE.wp]at h|-;split at h
  .rename_i s F η;split at h
   .rename_i cs O;split at h
    .rename_i n es D
     try simp only[η,O,D]
     refine ⟨h,.cell s F (.list n es),by simp[A6.app,O],⟨cs,O,D⟩,V,?_,(λs he=>o_),i9,(λs F t he=>by cases he;rfl),λenv2 w E u=>?_⟩
     .intro s' off' t' he;simp only[A6.cell.injEq]at he;obtain⟨rfl,rfl,rfl⟩:=he;cases x with
      |c t=>simp[AF.place]at η|s n=>
       simp only[AF.place]at η;split at η
       next q o H=>simp only[nm,Prod.mk.injEq]at η;exact .inr ⟨n,t!,by rw[H,η.1];rfl⟩
       .simp only[nm,Prod.mk.injEq]at η;exact .inl (by simp[AE.slots,AF.sl,η.1])
       .cases η
     .obtain⟨ds,C,B⟩:=w.eff;simp only[A6.app,C]at u;simp only[AE.wp,w.place (x:=x) (λs h=>h),η,C,B];exact u
    .exact h.elim
   .exact h.elim
  .exact h.elim
 |bin k op x y=>
  simp only[AE.wp]at h|-;split at h
  .rename_i a b A ζ
   try simp only[A,ζ]
   cases L:ME k op a b with
   |none=>rw[L]at h;exact h.elim|some t=>
    rw [L]at h;refine A0 h rfl rfl λenv2 w E u=>?_;simp only[AE.wp,w.val (x:=x) (λs h=>C3 h),w.val (x:=y) (λs h=>De h),A,ζ,L,Ai];exact u
  .exact h.elim
 |not x=>
  simp only[AE.wp]at h|-;split at h
  .rename_i b A
   try simp only[A]
   refine A0 h rfl rfl λenv2 w E u=>?_;simp only[AE.wp,w.val (x:=x) (λs h=>h),A];exact u
  .exact h.elim
 |neg x=>
  simp only[AE.wp]at h|-;split at h
  .rename_i k n A
   try simp only[A]
   refine A0 h rfl rfl λenv2 w E u=>?_;simp only[AE.wp,w.val (x:=x) (λs h=>h),A];exact u
  .exact h.elim
 |pick c a b=>
  simp only[AE.wp]at h|-;split at h
  .rename_i q D
   try simp only[D]
   have key:∀t,((if q=X then a else b).ev ε).val=Y t->∀env2,Eg (.pick c a b) .none dst ε env2->∀E:EV->AB->Prop,E (.tv t) env2->(AE.pick c a b).wp S env2 dst E:=by
    intro t ht env2 w E u;have hv:=w.val (x:=if q=X then a else b) (λs h=>by
     cases q
     .exact De (De h)
     .exact De (C3 h))
    simp only[AF.val]at hv;rw[ht]at hv;simp only[AE.wp,w.val (x:=c) (λs h=>C3 h),D];cases he:(if q=X then a else b).ev env2<;>rw[he]at hv<;>simp[EV.val]at hv<;>subst hv<;>exact u
   split at h
   .rename_i t A
    try simp only[A]
    exact A0 h rfl rfl (key t o!)
   .rename_i t A
    try simp only[A]
    exact A0 h rfl rfl (key t o!)
   .exact h.elim
  .exact h.elim
 |len x=>
  simp only[AE.wp]at h|-;split at h
  .rename_i n es A
   try simp only[A]
   refine A0 h rfl rfl λenv2 w E u=>?_;simp only[AE.wp,w.val (x:=x) (λs h=>h),A];exact u
  .exact h.elim
 |fdv x k=>
  simp only[AE.wp]at h|-;split at h
  .rename_i row A
   try simp only[A]
   refine A0 h rfl rfl λenv2 w E u=>?_;simp only[AE.wp,w.val (x:=x) (λs h=>h),A];exact u
  .exact h.elim
 |ldv x n=>
  simp only[AE.wp]at h|-;split at h
  .rename_i row A
   try simp only[A]
   refine ⟨h.1,A0 h.2 rfl rfl λenv2 w E u=>?_⟩;simp only[AE.wp,w.val (x:=x) (λs h=>h),A];exact⟨h.1,u⟩
  .exact h.elim
 |AbB x=>
  simp only[AE.wp]at h|-;split at h
  .rename_i s A
   try simp only[A]
   refine A0 h rfl rfl λenv2 w E u=>?_;simp only[AE.wp,w.val (x:=x) (λs h=>h),A];exact u
  .exact h.elim
 |slc n x lo hi=>
  simp only[AE.wp]at h|-;split at h
  .rename_i m es A
   try simp only[A]
   split at h
   .rename_i k1 l k2 hh C B
    try simp only[C,B]
    refine ⟨h.1,h.2.1,A0 h.2.2 rfl rfl λenv2 w E u=>?_⟩;simp only[AE.wp,w.val (x:=x) (λs h=>C3 h),A,w.bnd (x:=lo) (λs h=>De (C3 h)),w.bnd (x:=hi) (λs h=>De (De h)),C,B];exact⟨h.1,h.2.1,u⟩
   .exact h.elim
  .exact h.elim
 |Aau x lo hi=>
  simp only[AE.wp]at h|-;split at h
  .rename_i str A
   try simp only[A]
   split at h
   .rename_i k1 l k2 hh C B
    try simp only[C,B]
    refine ⟨h.1,h.2.1,h.2.2.1,A0 h.2.2.2 rfl rfl λenv2 w E u=>?_⟩;simp only[AE.wp,w.val (x:=x) (λs h=>C3 h),A,w.bnd (x:=lo) (λs h=>De (C3 h)),w.bnd (x:=hi) (λs h=>De (De h)),C,B];exact⟨h.1,h.2.1,h.2.2.1,u⟩
   .exact h.elim
  .exact h.elim
 |bld zero Z=>
  simp only[AE.wp]at h|-;cases D:E4 ε Z with
  |none=>rw[D]at h;exact h.elim|some P=>
   rw [D]at h;simp only[Ai]at h|-;cases hf:E8 zero P with
   |none=>rw[hf]at h;exact h.elim|some cs=>
    rw [hf]at h;refine A0 h rfl rfl λenv2 w E u=>?_;simp only[AE.wp,w.parts (xs:=Z) (λs h=>h),D,Ai,hf];exact u
 |lst n Z=>
  simp only[AE.wp]at h|-;cases D:Go.Sf.vals ε Z with
  |none=>rw[D]at h;exact h.elim|some P=>
   rw [D]at h;simp only[Ai]at h|-;refine⟨h.1,A0 h.2 rfl rfl λenv2 w E u=>?_⟩;simp only[AE.wp,w.vals (xs:=Z) (λs h=>h),D,Ai];exact⟨h.1,u⟩
 |app n x y=>
  simp only[AE.wp]at h|-;split at h
  .rename_i m es m' fs A ζ
   try simp only[A,ζ]
   obtain ⟨C,B,I,R⟩:=h;cases x with
   |c t=>simp[AF.ev]at A|s s=>
    simp only[AF.ev]at A;subst C;refine⟨rfl,B,I,R,.slot s (.list m es),rfl,A,?_,V,(λs he=>o_),i9,V,λenv2 w E u=>?_⟩
    .intro s' t' he;simp only[A6.slot.injEq]at he;simp[AE.dem,AF.sl,he.1]
    .have:=w.eff;simp only[A6.ok]at this;simp only[AE.wp,AF.ev,this,w.val (x:=y) (λs h=>De h),ζ];exact⟨trivial,B,I,u⟩
  .exact h.elim
 |call g xs=>
  simp only[AE.wp]at h|-;cases D:Go.Sf.vals ε xs with
  |none=>rw[D]at h;exact h.elim|some P=>
   rw [D]at h;simp only[Ai]at h|-;obtain⟨r,C,B⟩:=h;refine⟨r,C,λθ=>A0 (B θ) rfl (by cases r<;>rfl) λenv2 w E u=>?_⟩;simp only[AE.wp,w.vals (xs:=xs) (λs h=>h),D,Ai];exact⟨r,C,λ_=>u⟩
 |Abi x xs=>
  simp only[AE.wp]at h|-;split at h
  .rename_i g caps P A D
   try simp only[A,D]
   obtain ⟨r,C,B⟩:=h;refine⟨r,C,λθ=>A0 (B θ) rfl (by cases r<;>rfl) λenv2 w E u=>?_⟩;simp only[AE.wp,w.val (x:=x) (λs h=>C3 h),w.vals (xs:=xs) (λs h=>De h),A,D];exact⟨r,C,λ_=>u⟩
  .exact h.elim
 |clo g xs=>
  simp only[AE.wp]at h|-;cases D:Go.Sf.vals ε xs with
  |none=>rw[D]at h;exact h.elim|some P=>
   rw [D]at h;simp only[Ai]at h|-;refine A0 h rfl rfl λenv2 w E u=>?_;simp only[AE.wp,w.vals (xs:=xs) (λs h=>h),D,Ai];exact u
 |ext x i=>
  simp only[AE.wp]at h|-;split at h
  .rename_i P A
   try simp only[A]
   cases hf:P[i]? with
   |none=>rw[hf]at h;exact h.elim|some t=>
    rw [hf]at h;refine A0 h rfl rfl λenv2 w E u=>?_;have:=(w.ev (x:=x) (λs h=>h)).tp A;simp only[AE.wp,this,hf,Ai];exact u
  .exact h.elim
 |cvt k x=>
  simp only[AE.wp]at h|-;split at h
  .rename_i k n A
   try simp only[A]
   refine A0 h rfl rfl λenv2 w E u=>?_;simp only[AE.wp,w.val (x:=x) (λs h=>h),A];exact u
  .exact h.elim
 |Aas x i=>
  simp only[AE.wp]at h|-;split at h
  .rename_i str k j A hi
   try simp only[A,hi]
   obtain ⟨C,b,B,I⟩:=h;refine⟨C,b,B,A0 I rfl rfl λenv2 w E u=>?_⟩;simp only[AE.wp,w.val (x:=x) (λs h=>C3 h),w.val (x:=i) (λs h=>De h),A,hi];exact⟨C,b,B,u⟩
  .exact h.elim
 |Abp x=>
  simp only[AE.wp]at h|-;split at h
  .rename_i t A
   try simp only[A]
   refine A0 h rfl rfl λenv2 w E u=>?_;simp only[AE.wp,w.val (x:=x) (λs h=>h),A];exact u
  .exact h.elim
 |Abv x=>
  simp only[AE.wp]at h|-;split at h
  .rename_i t d A
   try simp only[A]
   refine ⟨h.1,h.2,.none,rfl,trivial,V,V,(λs he=>o_),λ_=>⟨rfl,λd' hd=>?_⟩,V,λenv2 w E u=>?_⟩
   .simp only[nm]at hd;subst hd;exact h.1
   .simp only[AE.wp,w.val (x:=x) (λs h=>h),A];exact⟨w.new rfl _ rfl h.1,u⟩
  .exact h.elim
 |mm mx x y=>
  simp only[AE.wp]at h|-;split at h
  .rename_i k a k' b A ζ
   try simp only[A,ζ]
   refine ⟨h.1,A0 h.2 rfl rfl λenv2 w E u=>?_⟩;simp only[AE.wp,w.val (x:=x) (λs h=>C3 h),w.val (x:=y) (λs h=>De h),A,ζ];exact⟨h.1,u⟩
  .exact h.elim
 |alc cs=>
  simp only[AE.wp]at h|-;split at h
  .rename_i d;refine⟨h.1,h.2,.none,rfl,trivial,V,V,(λs he=>o_),λ_=>⟨rfl,λd' hd=>?_⟩,V,λenv2 w E u=>?_⟩
   .simp only[nm]at hd;subst hd;exact h.1
   .simp only[AE.wp];exact⟨w.new rfl _ rfl h.1,u⟩
  .exact h.elim
 |st n x v=>cases J
 |stb n s v=>cases J
 |frz s=>cases J
 |xal s=>
  simp only[AE.wp]at h|-;split at h
  .rename_i n es O
   try simp only[O]
   refine ⟨h,.none,rfl,trivial,V,V,?_,i9,V,λenv2 w E u=>?_⟩
   .intro s' he;simp only[EV.pr,nm]at he;exact .inl (by simp[AE.Aa1,he])
   .have B:=(w.sl s f_).xo O;simp only[AE.wp,B];exact u
  .exact h.elim
 |Abu x=>
  simp only[AE.wp]at h|-;cases A:x.tg ε with
  |none=>rw[A]at h;exact h.elim|some p=>
   rw [A]at h;simp only[Ai]at h|-;refine A0 h rfl rfl λenv2 w E u=>?_;simp only[AE.wp,w.tg (x:=x) (λs h=>h),A,Ai];exact u
 |lan x=>
  simp only[AE.wp]at h|-;split at h
  .rename_i s F A;cases H:ε.nat s F with
   |none=>rw[H]at h;exact h.elim|some es=>
    rw [H]at h;simp only[Ai]at h
    try simp only[A,H]
    have G:∃n∈x.sl,ε.get n=.bp s F:=by
     cases x with
     |c t=>simp[AF.ev]at A|s n=>exact⟨n,c!,A⟩
    obtain ⟨n,M,L⟩:=G;refine⟨h,.none,rfl,trivial,V,V,?_,i9,V,λenv2 w E u=>?_⟩
    .intro s' he;simp only[EV.pr,nm]at he;subst he;exact .inr ⟨n,M,g?⟩
    .have C:=(w.ev (x:=x) (λs h=>h)).bp A;have B:=(w.bp n M s g?).nat F;rw[H]at B;simp only[AE.wp,C,B,Ai];exact u
  .exact h.elim
 |nld x=>
  simp only[AE.wp]at h|-;split at h
  .rename_i s F r A;cases H:ε.nat s F with
   |none=>rw[H]at h;exact h.elim|some es=>
    rw [H]at h;simp only[Ai]at h;obtain⟨δ,h⟩:=h
    try simp only[A,H]
    have G:∃n∈x.sl,ε.get n=.nh s F (.el r):=by
     cases x with
     |c t=>simp[AF.ev]at A|s n=>exact⟨n,c!,A⟩
    obtain ⟨n,M,L⟩:=G;refine⟨δ,h,.none,rfl,trivial,V,V,?_,i9,V,λenv2 w E u=>?_⟩
    .intro s' he;simp only[EV.pr,nm]at he;subst he;exact .inr ⟨n,M,g?⟩
    .have C:=(w.ev (x:=x) (λs h=>h)).nh A;have B:=(w.bp n M s g?).nat F;rw[H]at B;simp only[AE.wp,C,B,Ai];exact⟨δ,u⟩
  .exact h.elim
 |nia x i=>
  simp only[AE.wp]at h|-;split at h
  .rename_i s F k j A κ;cases H:ε.nat s F with
   |none=>rw[H]at h;exact h.elim|some es=>
    rw [H]at h;simp only[Ai]at h;obtain⟨δ,I,h⟩:=h
    try simp only[A,κ,H]
    have G:∃n∈x.sl,ε.get n=.nh s F .hd:=by
     cases x with
     |c t=>simp[AF.ev]at A|s n=>exact⟨n,c!,A⟩
    obtain ⟨n,M,L⟩:=G;refine⟨δ,I,h,.none,rfl,trivial,V,V,?_,i9,V,λenv2 w E u=>?_⟩
    .intro s' he;simp only[EV.pr,nm]at he;subst he;exact .inr ⟨n,C3 M,g?⟩
    .have C:=(w.ev (x:=x) (λs h=>C3 h)).nh A;have e2:=w.val (x:=i) (λs h=>De h);have B:=(w.bp n (C3 M) s g?).nat F;rw[H]at B;simp only[AE.wp,C,e2,κ,B,Ai];exact⟨δ,I,u⟩
  .rename_i s F r k j A κ;cases H:ε.nat s F with
   |none=>rw[H]at h;exact h.elim|some es=>
    rw [H]at h;simp only[Ai]at h;obtain⟨δ,fs,I,R,h⟩:=h
    try simp only[A,κ,H]
    have G:∃n∈x.sl,ε.get n=.nh s F (.rw r):=by
     cases x with
     |c t=>simp[AF.ev]at A|s n=>exact⟨n,c!,A⟩
    obtain ⟨n,M,L⟩:=G;refine⟨δ,fs,I,R,h,.none,rfl,trivial,V,V,?_,i9,V,λenv2 w E u=>?_⟩
    .intro s' he;simp only[EV.pr,nm]at he;subst he;exact .inr ⟨n,C3 M,g?⟩
    .have C:=(w.ev (x:=x) (λs h=>C3 h)).nh A;have e2:=w.val (x:=i) (λs h=>De h);have B:=(w.bp n (C3 M) s g?).nat F;rw[H]at B;simp only[AE.wp,C,e2,κ,B,Ai];exact⟨δ,fs,I,R,u⟩
  .exact h.elim
 |lac x=>
  simp only[AE.wp]at h|-;split at h
  .rename_i s F A;split at h
   .rename_i p H
    try simp only[A,H]
    have G:∃n∈x.sl,ε.get n=.bp s F:=by
     cases x with
     |c t=>simp[AF.ev]at A|s n=>exact⟨n,c!,A⟩
    obtain ⟨n,M,L⟩:=G;refine⟨h,.none,rfl,trivial,V,V,?_,i9,V,λenv2 w E u=>?_⟩
    .intro s' he;simp only[EV.pr,nm]at he;subst he;exact .inr ⟨n,M,g?⟩
    .have C:=(w.ev (x:=x) (λs h=>h)).bp A;have B:=(w.bp n M s g?).o3 (Y F);rw[H]at B;simp only[AE.wp,C,B];exact u
   .exact h.elim
  .exact h.elim
 |ctk _=>cases J
 |cpt _ _=>cases J
 |cut _ _ _=>cases J
 |Abe _ _ _ _=>cases J
 |Aa2 g xs=>
  simp only[AE.wp]at h|-;cases D:Go.Sf.vals ε xs with
  |none=>rw[D]at h;exact h.elim|some P=>
   rw [D]at h;simp only[Ai]at h|-;obtain⟨r,C,B⟩:=h;refine⟨r,C,A0 B rfl rfl λenv2 w E u=>?_⟩;simp only[AE.wp,w.vals (xs:=xs) (λs h=>h),D,Ai];exact⟨r,C,u⟩
 |Aad _ _ _=>cases J
 |AaH g xs=>
  simp only[AE.wp]at h|-;cases D:Go.Sf.Aaa ε xs with
  |none=>rw[D]at h;exact h.elim|some P=>
   rw [D]at h;simp only[Ai]at h|-;obtain⟨r,C,B⟩:=h;refine⟨r,C,λθ=>A0 (B θ) rfl (by cases r<;>rfl) λenv2 w E u=>?_⟩;simp only[AE.wp,w.Aaa (xs:=xs) (λs h=>h),D,Ai];exact⟨r,C,λ_=>u⟩
 |Abj Z x=>
  simp only[AE.wp]at h|-;split at h
  .rename_i t d A
   try simp only[A]
   cases D:Eh Z t.cells with
   |none=>rw[D]at h;exact h.elim|some cs=>
    rw [D]at h;simp only[Ai]at h|-;refine⟨h.1,h.2,.none,rfl,trivial,V,V,(λs he=>o_),λ_=>⟨rfl,λd' hd=>?_⟩,V,λenv2 w E u=>?_⟩
    .simp only[nm]at hd;subst hd;exact h.1
    .simp only[AE.wp,w.val (x:=x) (λs h=>h),A,D,Ai];exact⟨w.new rfl _ rfl h.1,u⟩
  .exact h.elim
 |xia x i n=>
  simp only[AE.wp]at h|-;cases A:x.tg ε with
  |none=>rw[A]at h;exact h.elim|some p=>
   rw [A]at h;simp only[Ai]at h|-;split at h
   .rename_i ik j κ
    try simp only[κ]
    obtain ⟨⟨C,B⟩,I,R,h5⟩:=h;have G:∃n∈x.sl,(ε.get n).pr=Y p.1.1:=by
     cases x with
     |c t=>simp[AF.ev,EV.pr]at C|s n=>exact⟨n,c!,C⟩
    obtain ⟨m,hm',hr⟩:=G;refine⟨⟨C,B⟩,I,R,h5,.none,rfl,trivial,V,V,?_,i9,V,λenv2 w E u=>?_⟩
    .intro s' he;simp only[EV.pr,nm]at he;subst he;exact .inr ⟨m,C3 hm',hr⟩
    .have e1:=w.tg (x:=x) (λs h=>C3 h);have e2:=w.val (x:=i) (λs h=>De h);have Q:=(w.ev (x:=x) (λs h=>C3 h)).pr;simp only[AE.wp,e1,A,e2,κ,Ai,Q,C];exact⟨⟨trivial,B⟩,I,R,u⟩
   .exact h.elim
 |xfa x k=>
  simp only[AE.wp]at h|-;split at h
  .rename_i q i c A;split at h
   .rename_i p H
    try simp only[A,H]
    have G:∃n∈x.sl,ε.get n=.lp q i c:=by
     cases x with
     |c t=>simp[AF.ev]at A|s n=>exact⟨n,c!,A⟩
    obtain ⟨n,M,L⟩:=G;refine⟨h,.none,rfl,trivial,V,V,?_,i9,V,λenv2 w E u=>?_⟩
    .intro s' he;simp only[EV.pr,nm]at he;subst he;exact .inr ⟨n,M,g?⟩
    .have C:=(w.ev (x:=x) (λs h=>h)).Abl (q:=q) o!;have B:=(w.bp n M q g?).o3 i;rw[H]at B;simp only[AE.wp,C,A,B];exact u
   .exact h.elim
  .exact h.elim
 |xin x i n=>
  simp only[AE.wp]at h|-;split at h
  .rename_i q ik j A κ;split at h
   .rename_i m es H
    try simp only[A,κ,H]
    have G:∃n∈x.sl,ε.get n=.la q W:=by
     cases x with
     |c t=>simp[AF.ev]at A|s n=>exact⟨n,c!,A⟩
    obtain ⟨k,hk,L⟩:=G;obtain⟨C,B,I,R⟩:=h;refine⟨C,B,I,R,.none,rfl,trivial,V,V,?_,i9,V,λenv2 w E u=>?_⟩
    .intro s' he;simp only[EV.pr,nm]at he;subst he;exact .inr ⟨k,C3 hk,g?⟩
    .have e1:=(w.ev (x:=x) (λs h=>C3 h)).Abl (q:=q) o!;have e2:=w.val (x:=i) (λs h=>De h);have Q:=(w.bp k (C3 hk) q g?).o3 W;simp only[AB.o3,H]at Q;have e4:env2.get q=.xo m es:=by
      cases he:env2.get q<;>rw[he]at Q<;>simp at Q;rw[Q.1,Q.2]
     simp only[AE.wp,e1,A,e2,κ,e4];exact⟨C,B,I,u⟩
   .exact h.elim
  .exact h.elim
 |xln x=>
  simp only[AE.wp]at h|-;split at h
  .rename_i q c A;split at h
   .rename_i m es H
    try simp only[A,H]
    cases D:(es.flatMap TV.cells)[c]? with
    |none=>rw[D]at h;exact h.elim|some t=>
     rw [D]at h;simp only[Ai]at h|-;have G:∃n∈x.sl,ε.get n=.lp q W c:=by
      cases x with
      |c t=>simp[AF.ev]at A|s n=>exact⟨n,c!,A⟩
     obtain ⟨n,M,L⟩:=G;refine A0 h rfl rfl λenv2 w E u=>?_;have C:=(w.ev (x:=x) (λs h=>h)).Abl (q:=q) o!;have Q:=(w.bp n M q g?).o3 W;simp only[AB.o3,H]at Q;have e4:env2.get q=.xo m es:=by
      cases he:env2.get q<;>rw[he]at Q<;>simp at Q;rw[Q.1,Q.2]
     simp only[AE.wp,C,A,e4,D,Ai];exact u
   .exact h.elim
  .exact h.elim
 |xld x=>
  simp only[AE.wp]at h|-;split at h
  .rename_i q i c A;split at h
   .rename_i p H
    try simp only[A,H]
    cases D:(p.2.flatMap TV.cells)[c]? with
    |none=>rw[D]at h;exact h.elim|some t=>
     rw [D]at h;simp only[Ai]at h|-;have G:∃n∈x.sl,ε.get n=.lp q i c:=by
      cases x with
      |c t=>simp[AF.ev]at A|s n=>exact⟨n,c!,A⟩
     obtain ⟨n,M,L⟩:=G;refine A0 h rfl rfl λenv2 w E u=>?_;have C:=(w.ev (x:=x) (λs h=>h)).Abl (q:=q) o!;have B:=(w.bp n M q g?).o3 i;rw[H]at B;simp only[AE.wp,C,A,B,D,Ai];exact u
   .exact h.elim
  .exact h.elim
 |xst _ _ _=>cases J
 |rel _=>cases J
 |Abd _=>cases J
 |tkx _=>cases J
 |Aa7 _ _ _=>cases J
 |AaB g xs=>
  simp only[AE.wp]at h|-;split at h
  .rename_i d;obtain⟨N,h⟩:=h;refine⟨N,?_⟩;cases D:Go.Sf.vals ε xs with
   |none=>rw[D]at h;exact h.elim|some P=>
    rw [D]at h;simp only[Ai]at h|-;obtain⟨n,es,C,B⟩:=h;refine⟨n,es,C,λθ=>⟨B θ,.none,rfl,trivial,V,V,(λs he=>o_),λ_=>⟨rfl,λd' hd=>?_⟩,V,λenv2 w E u=>?_⟩⟩
    .simp only[nm]at hd;subst hd;exact N
    .simp only[AE.wp,w.vals (xs:=xs) (λs h=>h),D,Ai];exact⟨w.new rfl _ rfl N,n,es,C,λ_=>u⟩
  .exact h.elim
 |mko n z x=>
  simp only[AE.wp]at h|-;split at h
  .rename_i d k j A
   try simp only[A]
   obtain ⟨N,C,B,I⟩:=h;refine⟨N,C,B,I,.none,rfl,trivial,V,V,(λs he=>o_),λ_=>⟨rfl,λd' hd=>?_⟩,V,λenv2 w E u=>?_⟩
   .simp only[nm]at hd;subst hd;exact N
   .simp only[AE.wp,w.val (x:=x) (λs h=>h),A];exact⟨w.new rfl _ rfl N,C,B,u⟩
  .exact h.elim
 |mkx n z x=>
  simp only[AE.wp]at h|-;split at h
  .rename_i d k j A
   try simp only[A]
   obtain ⟨N,C,B,I⟩:=h;refine⟨N,C,B,I,.none,rfl,trivial,V,V,(λs he=>o_),λ_=>⟨rfl,λd' hd=>?_⟩,V,λenv2 w E u=>?_⟩
   .simp only[nm]at hd;subst hd;exact N
   .simp only[AE.wp,w.val (x:=x) (λs h=>h),A];exact⟨w.new rfl _ rfl N,C,B,u⟩
  .exact h.elim
 |Aay _ _ _=>cases J
 |AaR _ _=>cases J
 |x9 _=>cases J
 |Abn _=>cases J
 |AaG _ _=>cases J
 |nst _ _=>cases J
 |Abx _=>cases J
 |AaI _ _ _=>cases J
 |ldg _ _=>cases J
 |stq _ _ _ _=>cases J
 |mkm=>cases J
 |mvm _=>cases J
 |AaA _ _=>cases J
 |mlk _ _ _=>cases J
 |mup _ _ _ _=>cases J
 |r0 _ _=>cases J
 |mnx _=>cases J
 |men _=>cases J
 |Abg _=>cases J
 |stx _ _ _=>cases J
 |isn _=>cases J
 |Aa3 g xs=>
  simp only[AE.wp]at h|-;cases D:Go.Sf.Aaa ε xs with
  |none=>rw[D]at h;exact h.elim|some P=>
   rw [D]at h;simp only[Ai]at h|-;obtain⟨r,C,B⟩:=h;refine⟨r,C,λθ=>A0 (B θ) rfl rfl λenv2 w E u=>?_⟩;simp only[AE.wp,w.Aaa (xs:=xs) (λs h=>h),w.vals (xs:=xs) (λs h=>h),D,Ai];exact⟨r,C,λ_=>u⟩
 |Aax g xs=>
  simp only[AE.wp]at h|-;cases D:Go.Sf.vals ε xs with
  |none=>rw[D]at h;exact h.elim|some P=>
   rw [D]at h;simp only[Ai]at h|-;obtain⟨r,C,I,B⟩:=h;refine⟨r,C,I,λθ=>A0 (B θ) rfl rfl λenv2 w E u=>?_⟩;simp only[AE.wp,w.vals (xs:=xs) (λs h=>h),D,Ai];exact⟨r,C,I,λ_=>u⟩
 |AbA x k n agg=>
  simp only[AE.wp]at h|-;split at h
  .rename_i cs A
   try simp only[A]
   obtain ⟨C,B⟩:=h;refine⟨C,?_⟩;cases agg with
   |true=>
    simp only[if_true]at B|-;refine A0 B rfl rfl λenv2 w E u=>?_;simp only[AE.wp,w.val (x:=x) (λs h=>h),A,if_true];exact⟨C,u⟩
   |false=>
    simp only[Bool.false_eq_true,if_false]at B|-;cases D:FW (cs.drop k)with
    |none=>rw[D]at B;exact B.elim|some t=>
     rw [D]at B;simp only[Ai]at B|-;refine A0 B rfl rfl λenv2 w E u=>?_;simp only[AE.wp,w.val (x:=x) (λs h=>h),A,Bool.false_eq_true,if_false,D,Ai];exact⟨C,u⟩
  .exact h.elim
end
end Go.Sf
