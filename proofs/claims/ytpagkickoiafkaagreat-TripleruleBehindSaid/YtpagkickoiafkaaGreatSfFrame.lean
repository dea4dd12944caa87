/- What an operation leans on: the slots that it reads, whether or not they own their lists. -/
import Derived.Test.YtpagkickoiafkaaGreatSfCode
set_option linter.all false
open Option renaming some->Y,none->W
open Bool renaming true->X,false->T
open List renaming map_map->v?,getElem?_map->w_,mem_append->w!,map_drop->w?
namespace Go.Sf
theorem qy{cs ds:List AQ}(h:ds.map AQ.key=cs.map AQ.key):ds.map (·.t)=cs.map (·.t):=by
 have:=congrArg (List.map Prod.fst) h;simpa[v?,Function.comp_def,AQ.key]using this
def fm(p:TV×Bool):TV:=match p with
 |(.xl n es,X)=>.list n es|p=>p.1
theorem cL{cs ds:List AQ}(h:ds.map AQ.key=cs.map AQ.key):ds.map AQ.Aa5=cs.map AQ.Aa5:=by
 have a:∀c:AQ,c.Aa5=fm c.key:=by
  rintro ⟨_|_,t⟩<;>cases t<;>rfl
 have:=congrArg (List.map fm) h;simpa[v?,Function.comp_def,<-a]using this
def yn(p:TV×Bool):Option (Nat×Fq):=match p with
 |(.xl n es,X)=>Y (n,es)|_=>W
theorem vR{cs ds:List AQ}(h:ds.map AQ.key=cs.map AQ.key)(k:Nat):(match ds[k]? with
  |some ⟨X,.xl n es⟩=>Y (n,es)|_=>W)=(match cs[k]? with
  |some ⟨X,.xl n es⟩=>Y (n,es)|_=>W):=by
 have a:∀o:Option AQ,(match o with
  |some ⟨X,.xl n es⟩=>Y (n,es)|_=>W)=(o.map AQ.key).bind yn:=by
  rintro (_|⟨_|_,t⟩)
  .rfl
  .cases t<;>rfl
  .cases t<;>rfl
 rw [a,a];have:=congrArg (λl=>l[k]?) h;simp only[w_]at this;rw[this]
def yo(p:TV×Bool):Option Fq:=match p with
 |(.xn es,X)=>Y es|_=>W
theorem vT{cs ds:List AQ}(h:ds.map AQ.key=cs.map AQ.key)(k:Nat):(match ds[k]? with
  |some ⟨X,.xn es⟩=>Y es|_=>W)=(match cs[k]? with
  |some ⟨X,.xn es⟩=>Y es|_=>W):=by
 have a:∀o:Option AQ,(match o with
  |some ⟨X,.xn es⟩=>Y es|_=>W)=(o.map AQ.key).bind yo:=by
  rintro (_|⟨_|_,t⟩)
  .rfl
  .cases t<;>rfl
  .cases t<;>rfl
 rw [a,a];have:=congrArg (λl=>l[k]?) h;simp only[w_]at this;rw[this]
def EV.like(e e2:EV):Prop:=
 e2=e\/(∃n es,(e=.tv (.list n es)/\e2=.ow (.list n es))\/(e=.ow (.list n es)/\e2=.tv (.list n es)))\/∃cs ds,e=.bx cs/\e2=.bx ds/\ds.map AQ.key=cs.map AQ.key
theorem EV.like.rfl'(e:EV):e.like e:=.inl rfl
variable{e e2:EV}
theorem EV.like.of_eq(h:e2=e):e.like e2:=.inl h
theorem EV.like.symm(h:e.like e2):e2.like e:=by
 rcases h with rfl|⟨n,es,⟨rfl,rfl⟩|⟨rfl,rfl⟩⟩|⟨cs,ds,rfl,rfl,h⟩
 .exact .inl rfl
 .exact .inr (.inl ⟨n,es,.inr ⟨rfl,rfl⟩⟩)
 .exact .inr (.inl ⟨n,es,.inl ⟨rfl,rfl⟩⟩)
 .exact .inr (.inr ⟨ds,cs,rfl,rfl,h.symm⟩)
theorem EV.like.n8(h:e.like e2):e2.n8=e.n8:=by
 rcases h with rfl|⟨n,es,⟨rfl,rfl⟩|⟨rfl,rfl⟩⟩|⟨cs,ds,rfl,rfl,h⟩<;>rfl
variable{q:Nat}
theorem EV.like.AaW(h:e.like e2)(a:e.n8=Y q):e2=e:=by
 rcases h with rfl|⟨n,es,⟨rfl,rfl⟩|⟨rfl,rfl⟩⟩|⟨cs,ds,rfl,rfl,h⟩
 .rfl
 .cases a
 .cases a
 .cases a
theorem EV.like.xo(h:e.like e2){n:Nat}{es:Fq}(he:e=.xo n es):e2=.xo n es:=by
 subst he;rcases h with rfl|⟨n,es,⟨h,_⟩|⟨h,_⟩⟩|⟨cs,ds,h,_⟩
 .rfl
 .cases h
 .cases h
 .cases h
theorem EV.like.val(h:e.like e2):e2.val=e.val:=by
 rcases h with rfl|⟨n,es,⟨rfl,rfl⟩|⟨rfl,rfl⟩⟩|⟨cs,ds,rfl,rfl,h⟩<;>rfl
theorem EV.like.pt(h:e.like e2){row:Fq}(he:e=.tv (.pt row)):e2=.tv (.pt row):=by
 subst he;rcases h with rfl|⟨n,es,⟨h,rfl⟩|⟨h,rfl⟩⟩|⟨cs,ds,h,rfl,a⟩
 .rfl
 .simp at h
 .cases h
 .cases h
theorem EV.like.bp(h:e.like e2){q a:Nat}(he:e=.bp q a):e2=.bp q a:=by
 subst he;rcases h with rfl|⟨n,es,⟨h,rfl⟩|⟨h,rfl⟩⟩|⟨cs,ds,h,rfl,b⟩
 .rfl
 .cases h
 .cases h
 .cases h
theorem EV.like.tp(h:e.like e2){a:Fq}(he:e=.tp a):e2=.tp a:=by
 subst he;rcases h with rfl|⟨n,es,⟨h,rfl⟩|⟨h,rfl⟩⟩|⟨cs,ds,h,rfl,b⟩
 .rfl
 .cases h
 .cases h
 .cases h
theorem EV.like.bx(h:e.like e2){cs:List AQ}(he:e=.bx cs):∃ds,e2=.bx ds/\ds.map AQ.key=cs.map AQ.key:=by
 subst he;rcases h with rfl|⟨n,es,⟨h,rfl⟩|⟨h,rfl⟩⟩|⟨cs',ds,h,rfl,a⟩
 .exact⟨cs,rfl,rfl⟩
 .cases h
 .cases h
 .simp only[EV.bx.injEq]at h;subst h;exact⟨ds,rfl,a⟩
def AF.sl:AF->I2
 |.s n=>[n]|.c _=>[]
def Xy:Option AF->I2
 |some x=>x.sl|none=>[]
def Cm:List AF->I2
 |[]=>[]|x::xs=>x.sl++Cm xs
def Qw:List (Nat×Nat×AF)->I2
 |[]=>[]|x::xs=>x.2.2.sl++Qw xs
def AE.slots:AE->I2
 |.mv x=>x.sl|.tk s=>[s]|.Aa8 _=>[]|.zt x _=>x.sl|.bad s _=>[s]|.iad x i _=>x.sl++i.sl|.aad x i _ _=>x.sl++i.sl|.ld x=>x.sl|.lda x _=>x.sl|.ldb s _=>[s]|.ldt x=>x.sl|.bin _ _ x y=>x.sl++y.sl|.not x=>x.sl|.neg x=>x.sl|.pick c a b=>c.sl++(a.sl++b.sl)|.len x=>x.sl|.Abk x=>x.sl|.slc _ x lo hi=>x.sl++(Xy lo++Xy hi)|.Aag x lo hi=>x.sl++(Xy lo++Xy hi)|.bld _ ps=>Qw ps|.lst _ ps=>Cm ps|.app _ x y=>x.sl++y.sl|.call _ xs=>Cm xs|.AaZ x xs=>x.sl++Cm xs|.z5 _ xs=>Cm xs|.ext x _=>x.sl|.cvt _ x=>x.sl|.Aac x i=>x.sl++i.sl|.Aa3 x=>x.sl|.Abd x=>x.sl|.mm _ x y=>x.sl++y.sl|.alc _=>[]|.st _ x v=>x.sl++v.sl|.stb _ s v=>s::v.sl|.frz s=>[s]|.Abe x _ _ _=>x.sl|.xal s=>[s]|.Abc x=>x.sl|.xia x i _=>x.sl++i.sl|.xfa x _=>x.sl|.xld x=>x.sl|.xst x v _=>x.sl++v.sl|.rel s=>[s]|.AaY _=>[]|.AaV _=>[]|.tkx s=>[s]|.AaN _ s y=>s::y.sl|.Aal _ xs=>Cm xs|.mkx _ _ x=>x.sl|.mko _ _ x=>x.sl|.Aaj _ x ys=>x.sl++Cm ys|.AaE _ x=>x.sl|.tl gs=>gs.flatMap GC.sl|.stx _ s q=>[s,q]|.AaM _ xs=>Cm xs|.Aae _ xs=>Cm xs|.isn x=>x.sl|.fdv x _=>x.sl|.ldv x _=>x.sl|.lac x=>x.sl|.ctk x=>x.sl|.cpt x q=>x.sl++[q]|.cut _ s hi=>s::hi.sl|.Aat _ xs=>Cm xs|.Aa7 _ x=>x.sl|.AaX _ s _ x=>s::x.sl|.AaL _ xs=>Cm xs|.wi _ xs _=>Cm xs|.Aa4 q=>[q]|.Aar s q=>[s,q]|.lan x=>x.sl|.nia x i=>x.sl++i.sl|.nld x=>x.sl|.nst x v=>x.sl++v.sl|.Abi q=>[q]|.Aas _ xs _=>Cm xs|.ldg s _=>[s]|.stq _ _ x v=>x.sl++v.sl|.mkm=>[]|.mvm s=>[s]|.Aan _ xs=>Cm xs|.mlk s m x=>s::(m.sl++x.sl)|.mup s m x v=>s::(m.sl++(x.sl++v.sl))|.pc s m=>s::m.sl|.mnx s=>[s]|.men s=>[s]|.xin x i _=>x.sl++i.sl|.xln x=>x.sl
def AE.dem:AE->I2
 |.tk s=>[s]|.app _ x _=>x.sl|_=>[]
def AE.mov:AE->Bool
 |.st ..=>T|.stb ..=>T|.frz _=>T|.xst ..=>T|.rel _=>T|.AaY _=>T|.AaV _=>T|.tkx _=>T|.AaN ..=>T|.Aaj ..=>T|.AaE ..=>T|.tl _=>T|.stx ..=>T|.isn _=>T|.ctk _=>T|.cpt ..=>T|.cut ..=>T|.AaX ..=>T|.wi ..=>T|.Aa4 _=>T|.Aar ..=>T|.nst ..=>T|.Abi _=>T|.Aas ..=>T|.ldg ..=>T|.stq ..=>T|.mkm=>T|.mvm _=>T|.Aan ..=>T|.mlk ..=>T|.mup ..=>T|.pc ..=>T|.mnx _=>T|.men _=>T|_=>X
def AE.nx:AE->Bool
 |.alc _=>X|.Abd _=>X|.Aa7 ..=>X|.Aal ..=>X|.mkx ..=>X|.mko ..=>X|_=>T
def AE.AaH:AE->I2
 |.bad s _=>[s]|.xal s=>[s]|_=>[]
inductive A6 where
 |none
 |slot (s:Nat) (t:TV)
 |cell (s off:Nat) (t:TV)
def A6.app:A6->AB->AB
 |.none,O=>O|.slot s t,O=>(s,.tv t)::O|.cell s off t,O=>match O.get s with
  |.bx cs=>(s,.bx (cs.set off ⟨T,t⟩))::O|_=>O
def A6.ok:A6->AB->Prop
 |.none,_=>True|.slot s t,O=>O.get s=.ow t|.cell s off t,O=>∃cs,O.get s=.bx cs/\cs[off]?=Y ⟨X,t⟩
structure EL(op:AE)(f:A6)(dst:Option Nat)(O env2:AB):Prop where
 sl:∀s∈op.slots,(O.get s).like (env2.get s)
 bp:∀s∈op.slots,∀q,(O.get s).n8=Y q->(O.get q).like (env2.get q)
 dem:∀s∈op.dem,(∀cs,O.get s≠.bx cs)->env2.get s=O.get s
 eff:f.ok env2
 new:op.nx=X->∀d,dst=Y d->O.ew d=X->env2.ew d=X
section
variable{op:AE}{f:A6}{dst:Option Nat}{O env2:AB}
variable{x:AF}
theorem EL.val(h:EL op f dst O env2)(a:∀s∈x.sl,s∈op.slots):x.val env2=x.val O:=by
 cases x with
 |c t=>rfl|s n=>exact(h.sl n (a n c_)).val
theorem EL.ev(h:EL op f dst O env2)(a:∀s∈x.sl,s∈op.slots):(x.ev O).like (x.ev env2):=by
 cases x with
 |c t=>exact .inl rfl|s n=>exact h.sl n (a n c_)
theorem EL.vals(h:EL op f dst O env2):∀{xs:List AF},(∀s∈Cm xs,s∈op.slots)->Go.Sf.vals env2 xs=Go.Sf.vals O xs
 |[],_=>rfl|x::xs,b=>by
  simp only[Cm,w!]at b;simp only[Go.Sf.vals,h.val (x:=x) (λs a=>b s (.inl a)),h.vals (xs:=xs) (λs a=>b s (.inr a))]
theorem EL.parts(h:EL op f dst O env2):∀{xs:List (Nat×Nat×AF)},(∀s∈Qw xs,s∈op.slots)->EX env2 xs=EX O xs
 |[],_=>rfl|(i,n,x)::xs,b=>by
  simp only[Qw,w!]at b;simp only[EX,h.val (x:=x) (λs a=>b s (.inl a)),h.parts (xs:=xs) (λs a=>b s (.inr a))]
theorem EL.bnd(h:EL op f dst O env2){x:Option AF}{k:Int}(a:∀s∈Xy x,s∈op.slots):G6 env2 k x=G6 O k x:=by
 cases x with
 |none=>rfl|some x=>exact h.val a
theorem EL.addr(h:EL op f dst O env2)(i:∀s∈x.sl,s∈op.slots):A7 env2 (x.ev env2)=A7 O (x.ev O):=by
 cases x with
 |c t=>cases t<;>rfl
 |s n=>
  have hn:=i n c_;have a:=h.sl n hn;have g:=h.bp n hn;simp only[AF.ev];generalize O.get n=e at a g;generalize env2.get n=e2 at a;rcases a with rfl|⟨n,es,⟨rfl,rfl⟩|⟨rfl,rfl⟩⟩|⟨cs,ds,rfl,rfl,d⟩
  .cases e2 with
   |bp q j=>
    have b:=g q rfl;simp only[A7];generalize O.get q=e1 at b;generalize env2.get q=e2 at b;rcases b with rfl|⟨n,es,⟨rfl,rfl⟩|⟨rfl,rfl⟩⟩|⟨cs,ds,rfl,rfl,d⟩
    .rfl
    .rfl
    .rfl
    .simp only[w?,qy d]
   |tv t=>cases t<;>rfl
   |_=>rfl
  .rfl
  .rfl
  .simp only[A7,qy d]
theorem EL.place(h:EL op f dst O env2)(d:∀s∈x.sl,s∈op.slots):x.place env2=x.place O:=by
 cases x with
 |c t=>rfl|s n=>
  have g:=h.sl n (d n c_);simp only[AF.place];rcases g with a|⟨n,es,⟨a,b⟩|⟨a,b⟩⟩|⟨cs,ds,a,b,_⟩
  .rw[a]
  .rw[a,b]
  .rw[a,b]
  .rw[a,b]
variable{q:Nat}
theorem EV.like.ln{O env2:AB}(h:(O.get q).like (env2.get q))(i:Option Nat):env2.ln q i=O.ln q i:=by
 rcases h with a|⟨n,es,⟨a,b⟩|⟨a,b⟩⟩|⟨cs,ds,a,b,c⟩
 .exact AB.wm a
 .cases i<;>simp only[AB.ln,a,b]
 .cases i<;>simp only[AB.ln,a,b]
 .cases i with
  |none=>simp only[AB.ln,a,b]|some k=>simp only[AB.ln,a,b];exact vR c k
theorem EV.like.nat{O env2:AB}(h:(O.get q).like (env2.get q))(i:Nat):env2.nat q i=O.nat q i:=by
 rcases h with a|⟨n,es,⟨a,b⟩|⟨a,b⟩⟩|⟨cs,ds,a,b,c⟩
 .exact AB.Aaa a
 .simp only[AB.nat,a,b]
 .simp only[AB.nat,a,b]
 .simp only[AB.nat,a,b];exact vT c i
variable{e e2:EV}
theorem EV.like.nh(h:e.like e2){q i:Nat}{k:NK}(he:e=.nh q i k):e2=.nh q i k:=by
 subst he;exact h.AaW rfl
theorem EL.pq(h:EL op f dst O env2)(d:∀s∈x.sl,s∈op.slots):x.pq env2=x.pq O:=by
 cases x with
 |c t=>rfl|s n=>
  have hn:=d n c_;have g:=h.sl n hn;have j:=h.bp n hn;simp only[AF.pq];rcases g with a|⟨m,es,⟨a,b⟩|⟨a,b⟩⟩|⟨cs,ds,a,b,_⟩
  .rw[a];cases he:O.get n with
   |la q i=>simp only[(j q (by rw[he];rfl)).ln i]|_=>rfl
  .rw[a,b]
  .rw[a,b]
  .rw[a,b]
theorem EL.Abf(h:EL op f dst O env2)(i:∀s∈x.sl,s∈op.slots):x.Abf env2=x.Abf O:=by
 unfold AF.Abf;rw[h.pq i];cases x.pq O with
 |some p=>rfl|none=>
  cases x with
  |c t=>cases t<;>rfl
  |s n=>
   have hn:=i n c_;have j:=h.sl n hn;have k:=h.bp n hn;simp only[AF.ev];rcases j with a|⟨m,es,⟨a,d⟩|⟨a,d⟩⟩|⟨cs,ds,a,d,r⟩
   .rw[a];cases he:O.get n with
    |bp q v=>
     have o:=k q (by rw[he];rfl);simp only;rcases o with b|⟨m,es,⟨b,g⟩|⟨b,g⟩⟩|⟨cs,ds,b,g,u⟩
     .rw[b]
     .rw[b,g]
     .rw[b,g]
     .rw[b,g];have:=cL u;simp only[w?,this]
    |_=>rfl
   .rw[a,d];rfl
   .rw[a,d];rfl
   .rw[a,d];simp only[cL r]
theorem EL.up(h:EL op f dst O env2):∀{xs:List AF},(∀s∈Cm xs,s∈op.slots)->Go.Sf.up env2 xs=Go.Sf.up O xs
 |[],_=>rfl|x::xs,b=>by
  simp only[Cm,w!]at b;simp only[Go.Sf.up,h.Abf (x:=x) (λs a=>b s (.inl a)),h.up (xs:=xs) (λs a=>b s (.inr a))]
end
structure kJ(S:FuncId->Fq->At->Prop)(op:AE)(dst:Option Nat)(O:AB)(e:EV)(env':AB)(f:A6):Prop where
 env':env'=f.app O
 ok:f.ok O
 slot:∀s t,f=.slot s t->s∈op.dem
 cell:∀s off t,f=.cell s off t->(s∈op.slots\/∃x∈op.slots,(O.get x).n8=Y s)
 n8:∀s,e.n8=Y s->(s∈op.AaH\/∃x∈op.slots,(O.get x).n8=Y s)
 new:op.nx=X->e.n8=W/\∀d,dst=Y d->O.ew d=X
 xl:∀s off t,f=.cell s off t->t.Aai=T
 again:∀env2,EL op f dst O env2->∀K2:EV->AB->Prop,K2 e (f.app env2)->op.wp S env2 dst K2
section
variable{S:FuncId->Fq->At->Prop}{op:AE}{dst:Option Nat}{O:AB}{K:EV->AB->Prop}
variable{e:EV}
theorem A1(b:K e O)(hn:op.nx=T)(c:e.n8=W)(h:∀env2,EL op .none dst O env2->∀a:EV->AB->Prop,a e env2->op.wp S env2 dst a):K e O/\∃f,kJ S op dst O e O f:=
 ⟨b,.none,rfl,trivial,V,V,(λs he=>by rw[c]at he;cases he),by simp[hn],V,h⟩
variable{α:Type}{l m:List α}
theorem DJ{x:α}(h:x∈m):x∈l++m:=List.mem_append_right _ h
theorem Cq{x:α}(h:x∈l):x∈l++m:=List.mem_append_left _ h
theorem frame(J:op.mov=X)(h:op.wp S O dst K):op.wp S O dst λe env'=>K e env'/\∃f,kJ S op dst O e env' f:=by
 cases op with
 |mv x=>
  simp only[AE.wp]at h|-;have key:∀t,(x.ev O).val=Y t->∀env2,EL (.mv x) .none dst O env2->∀E:EV->AB->Prop,E (.tv t) env2->(AE.mv x).wp S env2 dst E:=by
   intro t ht env2 w E u;have hv:=w.val (x:=x) (λs h=>h);simp only[AF.val]at hv;rw[ht]at hv;simp only[AE.wp];cases he:x.ev env2<;>rw[he]at hv<;>simp[EV.val]at hv<;>subst hv<;>exact u
  split at h
  .rename_i t A
   try simp only[A]
   exact A1 h rfl rfl (key t o2)
  .rename_i t A
   try simp only[A]
   exact A1 h rfl rfl (key t o2)
  .rename_i P A
   try simp only[A]
   refine A1 h rfl rfl λenv2 w E u=>?_;cases x with
   |c t=>simp[AF.ev]at A|s n=>
    simp only[AF.ev]at A;have B:env2.get n=.tp P:=(w.sl n so).tp A;simp only[AE.wp,AF.ev,B];exact u
  .exact h.elim
 |tk s=>
  simp only[AE.wp]at h|-;split at h
  .rename_i t N
   try simp only[N]
   refine ⟨h,.slot s t,rfl,N,?_,V,(λs he=>l!),g!,V,λenv2 w E u=>?_⟩
   .intro s' t' he;simp only[A6.slot.injEq]at he;simp[AE.dem,he.1]
   .have:=w.eff;simp only[A6.ok]at this;simp only[AE.wp,this];exact u
  .rename_i t N
   try simp only[N]
   refine A1 h rfl rfl λenv2 w E u=>?_;have:=w.dem s (by simp[AE.dem]) (by simp[N]);simp only[AE.wp,this,N];exact u
  .exact h.elim
 |Aa8 n=>exact A1 h rfl rfl λenv2 w E u=>u|zt x k=>
  simp only[AE.wp]at h|-;split at h
  .rename_i row A
   try simp only[A]
   refine A1 h rfl rfl λenv2 w E u=>?_;have:=(w.ev (x:=x) (λs h=>h)).pt A;simp only[AE.wp,this];exact u
  .rename_i s F A;split at h
   .rename_i cs N
    try simp only[A,N]
    have G:∃n∈x.sl,O.get n=.bp s F:=by
     cases x with
     |c t=>simp[AF.ev]at A|s n=>exact⟨n,c_,A⟩
    obtain ⟨n,hn,L⟩:=G;refine⟨h,.none,rfl,trivial,V,V,?_,g!,V,λenv2 w E u=>?_⟩
    .intro s' he;simp only[EV.n8,kx]at he;subst he;exact .inr ⟨n,hn,f_⟩
    .have C:=(w.ev (x:=x) (λs h=>h)).bp A;have B:=w.bp n hn s f_;rw[N]at B;obtain⟨ds,I,_⟩:=B.bx rfl;simp only[AE.wp,C,I];exact u
   .exact h.elim
  .exact h.elim
 |bad s k=>
  simp only[AE.wp]at h|-;split at h
  .rename_i cs N
   try simp only[N]
   refine ⟨h,.none,rfl,trivial,V,V,?_,g!,V,λenv2 w E u=>?_⟩
   .intro s' he;simp only[EV.n8,kx]at he;exact .inl (by simp[AE.AaH,he])
   .have B:=w.sl s e!;rw[N]at B;obtain⟨ds,I,_⟩:=B.bx rfl;simp only[AE.wp,I];exact u
  .rename_i row N
   try simp only[N]
   refine A1 h rfl rfl λenv2 w E u=>?_;have:=(w.sl s e!).pt N;simp only[AE.wp,this];exact u
  .exact h.elim
 |iad x i n=>
  simp only[AE.wp]at h|-;split at h
  .rename_i m es k j A hi
   try simp only[A,hi]
   obtain ⟨C,B,e,I,R⟩:=h;refine⟨C,B,e,I,A1 R rfl rfl λenv2 w E u=>?_⟩;simp only[AE.wp,w.val (x:=x) (λs h=>Cq h),w.val (x:=i) (λs h=>DJ h),A,hi];exact⟨C,B,e,I,u⟩
  .exact h.elim
 |aad x i n k=>
  simp only[AE.wp]at h|-;split at h
  .rename_i row kk j A hi
   try simp only[A,hi]
   obtain ⟨C,B,I,R⟩:=h;refine⟨C,B,I,A1 R rfl rfl λenv2 w E u=>?_⟩;have:=(w.ev (x:=x) (λs h=>Cq h)).pt A;simp only[AE.wp,this,w.val (x:=i) (λs h=>DJ h),hi];exact⟨C,B,I,u⟩
  .exact h.elim
 |ld x=>
  simp only[AE.wp]at h|-;cases D:A7 O (x.ev O)with
  |none=>rw[D]at h;exact h.elim|some cs=>
   rw [D]at h;simp only[Ai]at h|-;cases hf:E4 cs with
   |none=>rw[hf]at h;exact h.elim|some t=>
    rw [hf]at h;refine⟨h.1,A1 h.2 rfl rfl λenv2 w E u=>?_⟩;simp only[AE.wp,w.addr (x:=x) (λs h=>h),D,Ai,hf];exact⟨h.1,u⟩
 |lda x n=>
  simp only[AE.wp]at h|-;cases D:A7 O (x.ev O)with
  |none=>rw[D]at h;exact h.elim|some cs=>
   rw [D]at h;simp only[Ai]at h|-;refine⟨h.1,A1 h.2 rfl rfl λenv2 w E u=>?_⟩;simp only[AE.wp,w.addr (x:=x) (λs h=>h),D,Ai];exact⟨h.1,u⟩
 |ldb s n=>
  simp only[AE.wp]at h|-;split at h
  .rename_i cs D
   try simp only[D]
   refine ⟨h.1,A1 h.2 rfl rfl λenv2 w E u=>?_⟩;have C:=w.addr (x:=.s s) (λs h=>h);obtain⟨ds,I,_⟩:=(w.sl s e!).bx D;simp only[AF.ev,D,I,A7,kx]at C;simp only[AE.wp,I,C];exact⟨h.1,u⟩
  .exact h.elim
 |ldt x=>
  simp only[AE.wp]at h|-;split at h
  .rename_i s F κ;split at h
   .rename_i cs N;split at h
    .rename_i n es D
     try simp only[κ,N,D]
     refine ⟨h,.cell s F (.list n es),by simp[A6.app,N],⟨cs,N,D⟩,V,?_,(λs he=>l!),g!,(λs F t he=>by cases he;rfl),λenv2 w E u=>?_⟩
     .intro s' off' t' he;simp only[A6.cell.injEq]at he;obtain⟨rfl,rfl,rfl⟩:=he;cases x with
      |c t=>simp[AF.place]at κ|s n=>
       simp only[AF.place]at κ;split at κ
       next q o H=>simp only[kx,Prod.mk.injEq]at κ;exact .inr ⟨n,so,by rw[H,κ.1];rfl⟩
       .simp only[kx,Prod.mk.injEq]at κ;exact .inl (by simp[AE.slots,AF.sl,κ.1])
       .cases κ
     .obtain⟨ds,C,B⟩:=w.eff;simp only[A6.app,C]at u;simp only[AE.wp,w.place (x:=x) (λs h=>h),κ,C,B];exact u
    .exact h.elim
   .exact h.elim
  .exact h.elim
 |bin k op x y=>
  simp only[AE.wp]at h|-;split at h
  .rename_i a b A η
   try simp only[A,η]
   cases L:Ll k op a b with
   |none=>rw[L]at h;exact h.elim|some t=>
    rw [L]at h;refine A1 h rfl rfl λenv2 w E u=>?_;simp only[AE.wp,w.val (x:=x) (λs h=>Cq h),w.val (x:=y) (λs h=>DJ h),A,η,L,Ai];exact u
  .exact h.elim
 |not x=>
  simp only[AE.wp]at h|-;split at h
  .rename_i b A
   try simp only[A]
   refine A1 h rfl rfl λenv2 w E u=>?_;simp only[AE.wp,w.val (x:=x) (λs h=>h),A];exact u
  .exact h.elim
 |neg x=>
  simp only[AE.wp]at h|-;split at h
  .rename_i k n A
   try simp only[A]
   refine A1 h rfl rfl λenv2 w E u=>?_;simp only[AE.wp,w.val (x:=x) (λs h=>h),A];exact u
  .exact h.elim
 |pick c a b=>
  simp only[AE.wp]at h|-;split at h
  .rename_i q D
   try simp only[D]
   have key:∀t,((if q=X then a else b).ev O).val=Y t->∀env2,EL (.pick c a b) .none dst O env2->∀E:EV->AB->Prop,E (.tv t) env2->(AE.pick c a b).wp S env2 dst E:=by
    intro t ht env2 w E u;have hv:=w.val (x:=if q=X then a else b) (λs h=>by
     cases q
     .exact DJ (DJ h)
     .exact DJ (Cq h))
    simp only[AF.val]at hv;rw[ht]at hv;simp only[AE.wp,w.val (x:=c) (λs h=>Cq h),D];cases he:(if q=X then a else b).ev env2<;>rw[he]at hv<;>simp[EV.val]at hv<;>subst hv<;>exact u
   split at h
   .rename_i t A
    try simp only[A]
    exact A1 h rfl rfl (key t o2)
   .rename_i t A
    try simp only[A]
    exact A1 h rfl rfl (key t o2)
   .exact h.elim
  .exact h.elim
 |len x=>
  simp only[AE.wp]at h|-;split at h
  .rename_i n es A
   try simp only[A]
   refine A1 h rfl rfl λenv2 w E u=>?_;simp only[AE.wp,w.val (x:=x) (λs h=>h),A];exact u
  .exact h.elim
 |fdv x k=>
  simp only[AE.wp]at h|-;split at h
  .rename_i row A
   try simp only[A]
   refine A1 h rfl rfl λenv2 w E u=>?_;simp only[AE.wp,w.val (x:=x) (λs h=>h),A];exact u
  .exact h.elim
 |ldv x n=>
  simp only[AE.wp]at h|-;split at h
  .rename_i row A
   try simp only[A]
   refine ⟨h.1,A1 h.2 rfl rfl λenv2 w E u=>?_⟩;simp only[AE.wp,w.val (x:=x) (λs h=>h),A];exact⟨h.1,u⟩
  .exact h.elim
 |Abk x=>
  simp only[AE.wp]at h|-;split at h
  .rename_i s A
   try simp only[A]
   refine A1 h rfl rfl λenv2 w E u=>?_;simp only[AE.wp,w.val (x:=x) (λs h=>h),A];exact u
  .exact h.elim
 |slc n x lo hi=>
  simp only[AE.wp]at h|-;split at h
  .rename_i m es A
   try simp only[A]
   split at h
   .rename_i k1 l k2 hh C B
    try simp only[C,B]
    refine ⟨h.1,h.2.1,A1 h.2.2 rfl rfl λenv2 w E u=>?_⟩;simp only[AE.wp,w.val (x:=x) (λs h=>Cq h),A,w.bnd (x:=lo) (λs h=>DJ (Cq h)),w.bnd (x:=hi) (λs h=>DJ (DJ h)),C,B];exact⟨h.1,h.2.1,u⟩
   .exact h.elim
  .exact h.elim
 |Aag x lo hi=>
  simp only[AE.wp]at h|-;split at h
  .rename_i str A
   try simp only[A]
   split at h
   .rename_i k1 l k2 hh C B
    try simp only[C,B]
    refine ⟨h.1,h.2.1,h.2.2.1,A1 h.2.2.2 rfl rfl λenv2 w E u=>?_⟩;simp only[AE.wp,w.val (x:=x) (λs h=>Cq h),A,w.bnd (x:=lo) (λs h=>DJ (Cq h)),w.bnd (x:=hi) (λs h=>DJ (DJ h)),C,B];exact⟨h.1,h.2.1,h.2.2.1,u⟩
   .exact h.elim
  .exact h.elim
 |bld zero δ=>
  simp only[AE.wp]at h|-;cases D:EX O δ with
  |none=>rw[D]at h;exact h.elim|some P=>
   rw [D]at h;simp only[Ai]at h|-;cases hf:Eb zero P with
   |none=>rw[hf]at h;exact h.elim|some cs=>
    rw [hf]at h;refine A1 h rfl rfl λenv2 w E u=>?_;simp only[AE.wp,w.parts (xs:=δ) (λs h=>h),D,Ai,hf];exact u
 |lst n δ=>
  simp only[AE.wp]at h|-;cases D:Go.Sf.vals O δ with
  |none=>rw[D]at h;exact h.elim|some P=>
   rw [D]at h;simp only[Ai]at h|-;refine⟨h.1,A1 h.2 rfl rfl λenv2 w E u=>?_⟩;simp only[AE.wp,w.vals (xs:=δ) (λs h=>h),D,Ai];exact⟨h.1,u⟩
 |app n x y=>
  simp only[AE.wp]at h|-;split at h
  .rename_i m es m' fs A η
   try simp only[A,η]
   obtain ⟨C,B,I,R⟩:=h;cases x with
   |c t=>simp[AF.ev]at A|s s=>
    simp only[AF.ev]at A;subst C;refine⟨rfl,B,I,R,.slot s (.list m es),rfl,A,?_,V,(λs he=>l!),g!,V,λenv2 w E u=>?_⟩
    .intro s' t' he;simp only[A6.slot.injEq]at he;simp[AE.dem,AF.sl,he.1]
    .have:=w.eff;simp only[A6.ok]at this;simp only[AE.wp,AF.ev,this,w.val (x:=y) (λs h=>DJ h),η];exact⟨trivial,B,I,u⟩
  .exact h.elim
 |call g xs=>
  simp only[AE.wp]at h|-;cases D:Go.Sf.vals O xs with
  |none=>rw[D]at h;exact h.elim|some P=>
   rw [D]at h;simp only[Ai]at h|-;obtain⟨r,C,B⟩:=h;refine⟨r,C,λθ=>A1 (B θ) rfl (by cases r<;>rfl) λenv2 w E u=>?_⟩;simp only[AE.wp,w.vals (xs:=xs) (λs h=>h),D,Ai];exact⟨r,C,λ_=>u⟩
 |AaZ x xs=>
  simp only[AE.wp]at h|-;split at h
  .rename_i g caps P A D
   try simp only[A,D]
   obtain ⟨r,C,B⟩:=h;refine⟨r,C,λθ=>A1 (B θ) rfl (by cases r<;>rfl) λenv2 w E u=>?_⟩;simp only[AE.wp,w.val (x:=x) (λs h=>Cq h),w.vals (xs:=xs) (λs h=>DJ h),A,D];exact⟨r,C,λ_=>u⟩
  .exact h.elim
 |z5 g xs=>
  simp only[AE.wp]at h|-;cases D:Go.Sf.vals O xs with
  |none=>rw[D]at h;exact h.elim|some P=>
   rw [D]at h;simp only[Ai]at h|-;refine A1 h rfl rfl λenv2 w E u=>?_;simp only[AE.wp,w.vals (xs:=xs) (λs h=>h),D,Ai];exact u
 |ext x i=>
  simp only[AE.wp]at h|-;split at h
  .rename_i P A
   try simp only[A]
   cases hf:P[i]? with
   |none=>rw[hf]at h;exact h.elim|some t=>
    rw [hf]at h;refine A1 h rfl rfl λenv2 w E u=>?_;have:=(w.ev (x:=x) (λs h=>h)).tp A;simp only[AE.wp,this,hf,Ai];exact u
  .exact h.elim
 |cvt k x=>
  simp only[AE.wp]at h|-;split at h
  .rename_i k n A
   try simp only[A]
   refine A1 h rfl rfl λenv2 w E u=>?_;simp only[AE.wp,w.val (x:=x) (λs h=>h),A];exact u
  .exact h.elim
 |Aac x i=>
  simp only[AE.wp]at h|-;split at h
  .rename_i str k j A hi
   try simp only[A,hi]
   obtain ⟨C,b,B,I⟩:=h;refine⟨C,b,B,A1 I rfl rfl λenv2 w E u=>?_⟩;simp only[AE.wp,w.val (x:=x) (λs h=>Cq h),w.val (x:=i) (λs h=>DJ h),A,hi];exact⟨C,b,B,u⟩
  .exact h.elim
 |Aa3 x=>
  simp only[AE.wp]at h|-;split at h
  .rename_i t A
   try simp only[A]
   refine A1 h rfl rfl λenv2 w E u=>?_;simp only[AE.wp,w.val (x:=x) (λs h=>h),A];exact u
  .exact h.elim
 |Abd x=>
  simp only[AE.wp]at h|-;split at h
  .rename_i t d A
   try simp only[A]
   refine ⟨h.1,h.2,.none,rfl,trivial,V,V,(λs he=>l!),λ_=>⟨rfl,λZ hd=>?_⟩,V,λenv2 w E u=>?_⟩
   .simp only[kx]at hd;subst hd;exact h.1
   .simp only[AE.wp,w.val (x:=x) (λs h=>h),A];exact⟨w.new rfl _ rfl h.1,u⟩
  .exact h.elim
 |mm mx x y=>
  simp only[AE.wp]at h|-;split at h
  .rename_i k a k' b A η
   try simp only[A,η]
   refine ⟨h.1,A1 h.2 rfl rfl λenv2 w E u=>?_⟩;simp only[AE.wp,w.val (x:=x) (λs h=>Cq h),w.val (x:=y) (λs h=>DJ h),A,η];exact⟨h.1,u⟩
  .exact h.elim
 |alc cs=>
  simp only[AE.wp]at h|-;split at h
  .rename_i d;refine⟨h.1,h.2,.none,rfl,trivial,V,V,(λs he=>l!),λ_=>⟨rfl,λZ hd=>?_⟩,V,λenv2 w E u=>?_⟩
   .simp only[kx]at hd;subst hd;exact h.1
   .simp only[AE.wp];exact⟨w.new rfl _ rfl h.1,u⟩
  .exact h.elim
 |st n x v=>cases J
 |stb n s v=>cases J
 |frz s=>cases J
 |xal s=>
  simp only[AE.wp]at h|-;split at h
  .rename_i n es N
   try simp only[N]
   refine ⟨h,.none,rfl,trivial,V,V,?_,g!,V,λenv2 w E u=>?_⟩
   .intro s' he;simp only[EV.n8,kx]at he;exact .inl (by simp[AE.AaH,he])
   .have B:=(w.sl s e!).xo N;simp only[AE.wp,B];exact u
  .exact h.elim
 |Abc x=>
  simp only[AE.wp]at h|-;cases A:x.pq O with
  |none=>rw[A]at h;exact h.elim|some p=>
   rw [A]at h;simp only[Ai]at h|-;refine A1 h rfl rfl λenv2 w E u=>?_;simp only[AE.wp,w.pq (x:=x) (λs h=>h),A,Ai];exact u
 |lan x=>
  simp only[AE.wp]at h|-;split at h
  .rename_i s F A;cases H:O.nat s F with
   |none=>rw[H]at h;exact h.elim|some es=>
    rw [H]at h;simp only[Ai]at h
    try simp only[A,H]
    have G:∃n∈x.sl,O.get n=.bp s F:=by
     cases x with
     |c t=>simp[AF.ev]at A|s n=>exact⟨n,c_,A⟩
    obtain ⟨n,hn,L⟩:=G;refine⟨h,.none,rfl,trivial,V,V,?_,g!,V,λenv2 w E u=>?_⟩
    .intro s' he;simp only[EV.n8,kx]at he;subst he;exact .inr ⟨n,hn,f_⟩
    .have C:=(w.ev (x:=x) (λs h=>h)).bp A;have B:=(w.bp n hn s f_).nat F;rw[H]at B;simp only[AE.wp,C,B,Ai];exact u
  .exact h.elim
 |nld x=>
  simp only[AE.wp]at h|-;split at h
  .rename_i s F r A;cases H:O.nat s F with
   |none=>rw[H]at h;exact h.elim|some es=>
    rw [H]at h;simp only[Ai]at h;obtain⟨ζ,h⟩:=h
    try simp only[A,H]
    have G:∃n∈x.sl,O.get n=.nh s F (.el r):=by
     cases x with
     |c t=>simp[AF.ev]at A|s n=>exact⟨n,c_,A⟩
    obtain ⟨n,hn,L⟩:=G;refine⟨ζ,h,.none,rfl,trivial,V,V,?_,g!,V,λenv2 w E u=>?_⟩
    .intro s' he;simp only[EV.n8,kx]at he;subst he;exact .inr ⟨n,hn,f_⟩
    .have C:=(w.ev (x:=x) (λs h=>h)).nh A;have B:=(w.bp n hn s f_).nat F;rw[H]at B;simp only[AE.wp,C,B,Ai];exact⟨ζ,u⟩
  .exact h.elim
 |nia x i=>
  simp only[AE.wp]at h|-;split at h
  .rename_i s F k j A ε;cases H:O.nat s F with
   |none=>rw[H]at h;exact h.elim|some es=>
    rw [H]at h;simp only[Ai]at h;obtain⟨ζ,I,h⟩:=h
    try simp only[A,ε,H]
    have G:∃n∈x.sl,O.get n=.nh s F .hd:=by
     cases x with
     |c t=>simp[AF.ev]at A|s n=>exact⟨n,c_,A⟩
    obtain ⟨n,hn,L⟩:=G;refine⟨ζ,I,h,.none,rfl,trivial,V,V,?_,g!,V,λenv2 w E u=>?_⟩
    .intro s' he;simp only[EV.n8,kx]at he;subst he;exact .inr ⟨n,Cq hn,f_⟩
    .have C:=(w.ev (x:=x) (λs h=>Cq h)).nh A;have e2:=w.val (x:=i) (λs h=>DJ h);have B:=(w.bp n (Cq hn) s f_).nat F;rw[H]at B;simp only[AE.wp,C,e2,ε,B,Ai];exact⟨ζ,I,u⟩
  .rename_i s F r k j A ε;cases H:O.nat s F with
   |none=>rw[H]at h;exact h.elim|some es=>
    rw [H]at h;simp only[Ai]at h;obtain⟨ζ,fs,I,R,h⟩:=h
    try simp only[A,ε,H]
    have G:∃n∈x.sl,O.get n=.nh s F (.rw r):=by
     cases x with
     |c t=>simp[AF.ev]at A|s n=>exact⟨n,c_,A⟩
    obtain ⟨n,hn,L⟩:=G;refine⟨ζ,fs,I,R,h,.none,rfl,trivial,V,V,?_,g!,V,λenv2 w E u=>?_⟩
    .intro s' he;simp only[EV.n8,kx]at he;subst he;exact .inr ⟨n,Cq hn,f_⟩
    .have C:=(w.ev (x:=x) (λs h=>Cq h)).nh A;have e2:=w.val (x:=i) (λs h=>DJ h);have B:=(w.bp n (Cq hn) s f_).nat F;rw[H]at B;simp only[AE.wp,C,e2,ε,B,Ai];exact⟨ζ,fs,I,R,u⟩
  .exact h.elim
 |lac x=>
  simp only[AE.wp]at h|-;split at h
  .rename_i s F A;split at h
   .rename_i p H
    try simp only[A,H]
    have G:∃n∈x.sl,O.get n=.bp s F:=by
     cases x with
     |c t=>simp[AF.ev]at A|s n=>exact⟨n,c_,A⟩
    obtain ⟨n,hn,L⟩:=G;refine⟨h,.none,rfl,trivial,V,V,?_,g!,V,λenv2 w E u=>?_⟩
    .intro s' he;simp only[EV.n8,kx]at he;subst he;exact .inr ⟨n,hn,f_⟩
    .have C:=(w.ev (x:=x) (λs h=>h)).bp A;have B:=(w.bp n hn s f_).ln (Y F);rw[H]at B;simp only[AE.wp,C,B];exact u
   .exact h.elim
  .exact h.elim
 |ctk _=>cases J
 |cpt _ _=>cases J
 |cut _ _ _=>cases J
 |AaX _ _ _ _=>cases J
 |AaL g xs=>
  simp only[AE.wp]at h|-;cases D:Go.Sf.vals O xs with
  |none=>rw[D]at h;exact h.elim|some P=>
   rw [D]at h;simp only[Ai]at h|-;obtain⟨r,C,B⟩:=h;refine⟨r,C,A1 B rfl rfl λenv2 w E u=>?_⟩;simp only[AE.wp,w.vals (xs:=xs) (λs h=>h),D,Ai];exact⟨r,C,u⟩
 |wi _ _ _=>cases J
 |Aat g xs=>
  simp only[AE.wp]at h|-;cases D:Go.Sf.up O xs with
  |none=>rw[D]at h;exact h.elim|some P=>
   rw [D]at h;simp only[Ai]at h|-;obtain⟨r,C,B⟩:=h;refine⟨r,C,λθ=>A1 (B θ) rfl (by cases r<;>rfl) λenv2 w E u=>?_⟩;simp only[AE.wp,w.up (xs:=xs) (λs h=>h),D,Ai];exact⟨r,C,λ_=>u⟩
 |Aa7 δ x=>
  simp only[AE.wp]at h|-;split at h
  .rename_i t d A
   try simp only[A]
   cases D:EM δ t.cells with
   |none=>rw[D]at h;exact h.elim|some cs=>
    rw [D]at h;simp only[Ai]at h|-;refine⟨h.1,h.2,.none,rfl,trivial,V,V,(λs he=>l!),λ_=>⟨rfl,λZ hd=>?_⟩,V,λenv2 w E u=>?_⟩
    .simp only[kx]at hd;subst hd;exact h.1
    .simp only[AE.wp,w.val (x:=x) (λs h=>h),A,D,Ai];exact⟨w.new rfl _ rfl h.1,u⟩
  .exact h.elim
 |xia x i n=>
  simp only[AE.wp]at h|-;cases A:x.pq O with
  |none=>rw[A]at h;exact h.elim|some p=>
   rw [A]at h;simp only[Ai]at h|-;split at h
   .rename_i ik j ε
    try simp only[ε]
    obtain ⟨⟨C,B⟩,I,R,h5⟩:=h;have G:∃n∈x.sl,(O.get n).n8=Y p.1.1:=by
     cases x with
     |c t=>simp[AF.ev,EV.n8]at C|s n=>exact⟨n,c_,C⟩
    obtain ⟨m,hm',hr⟩:=G;refine⟨⟨C,B⟩,I,R,h5,.none,rfl,trivial,V,V,?_,g!,V,λenv2 w E u=>?_⟩
    .intro s' he;simp only[EV.n8,kx]at he;subst he;exact .inr ⟨m,Cq hm',hr⟩
    .have e1:=w.pq (x:=x) (λs h=>Cq h);have e2:=w.val (x:=i) (λs h=>DJ h);have Q:=(w.ev (x:=x) (λs h=>Cq h)).n8;simp only[AE.wp,e1,A,e2,ε,Ai,Q,C];exact⟨⟨trivial,B⟩,I,R,u⟩
   .exact h.elim
 |xfa x k=>
  simp only[AE.wp]at h|-;split at h
  .rename_i q i c A;split at h
   .rename_i p H
    try simp only[A,H]
    have G:∃n∈x.sl,O.get n=.lp q i c:=by
     cases x with
     |c t=>simp[AF.ev]at A|s n=>exact⟨n,c_,A⟩
    obtain ⟨n,hn,L⟩:=G;refine⟨h,.none,rfl,trivial,V,V,?_,g!,V,λenv2 w E u=>?_⟩
    .intro s' he;simp only[EV.n8,kx]at he;subst he;exact .inr ⟨n,hn,f_⟩
    .have C:=(w.ev (x:=x) (λs h=>h)).AaW (q:=q) o2;have B:=(w.bp n hn q f_).ln i;rw[H]at B;simp only[AE.wp,C,A,B];exact u
   .exact h.elim
  .exact h.elim
 |xin x i n=>
  simp only[AE.wp]at h|-;split at h
  .rename_i q ik j A ε;split at h
   .rename_i m es H
    try simp only[A,ε,H]
    have G:∃n∈x.sl,O.get n=.la q W:=by
     cases x with
     |c t=>simp[AF.ev]at A|s n=>exact⟨n,c_,A⟩
    obtain ⟨k,hk,L⟩:=G;obtain⟨C,B,I,R⟩:=h;refine⟨C,B,I,R,.none,rfl,trivial,V,V,?_,g!,V,λenv2 w E u=>?_⟩
    .intro s' he;simp only[EV.n8,kx]at he;subst he;exact .inr ⟨k,Cq hk,f_⟩
    .have e1:=(w.ev (x:=x) (λs h=>Cq h)).AaW (q:=q) o2;have e2:=w.val (x:=i) (λs h=>DJ h);have Q:=(w.bp k (Cq hk) q f_).ln W;simp only[AB.ln,H]at Q;have e4:env2.get q=.xo m es:=by
      cases he:env2.get q<;>rw[he]at Q<;>simp at Q;rw[Q.1,Q.2]
     simp only[AE.wp,e1,A,e2,ε,e4];exact⟨C,B,I,u⟩
   .exact h.elim
  .exact h.elim
 |xln x=>
  simp only[AE.wp]at h|-;split at h
  .rename_i q c A;split at h
   .rename_i m es H
    try simp only[A,H]
    cases D:(es.flatMap TV.cells)[c]? with
    |none=>rw[D]at h;exact h.elim|some t=>
     rw [D]at h;simp only[Ai]at h|-;have G:∃n∈x.sl,O.get n=.lp q W c:=by
      cases x with
      |c t=>simp[AF.ev]at A|s n=>exact⟨n,c_,A⟩
     obtain ⟨n,hn,L⟩:=G;refine A1 h rfl rfl λenv2 w E u=>?_;have C:=(w.ev (x:=x) (λs h=>h)).AaW (q:=q) o2;have Q:=(w.bp n hn q f_).ln W;simp only[AB.ln,H]at Q;have e4:env2.get q=.xo m es:=by
      cases he:env2.get q<;>rw[he]at Q<;>simp at Q;rw[Q.1,Q.2]
     simp only[AE.wp,C,A,e4,D,Ai];exact u
   .exact h.elim
  .exact h.elim
 |xld x=>
  simp only[AE.wp]at h|-;split at h
  .rename_i q i c A;split at h
   .rename_i p H
    try simp only[A,H]
    cases D:(p.2.flatMap TV.cells)[c]? with
    |none=>rw[D]at h;exact h.elim|some t=>
     rw [D]at h;simp only[Ai]at h|-;have G:∃n∈x.sl,O.get n=.lp q i c:=by
      cases x with
      |c t=>simp[AF.ev]at A|s n=>exact⟨n,c_,A⟩
     obtain ⟨n,hn,L⟩:=G;refine A1 h rfl rfl λenv2 w E u=>?_;have C:=(w.ev (x:=x) (λs h=>h)).AaW (q:=q) o2;have B:=(w.bp n hn q f_).ln i;rw[H]at B;simp only[AE.wp,C,A,B,D,Ai];exact u
   .exact h.elim
  .exact h.elim
 |xst _ _ _=>cases J
 |rel _=>cases J
 |AaY _=>cases J
 |tkx _=>cases J
 |AaN _ _ _=>cases J
 |Aal g xs=>
  simp only[AE.wp]at h|-;split at h
  .rename_i d;obtain⟨M,h⟩:=h;refine⟨M,?_⟩;cases D:Go.Sf.vals O xs with
   |none=>rw[D]at h;exact h.elim|some P=>
    rw [D]at h;simp only[Ai]at h|-;obtain⟨n,es,C,B⟩:=h;refine⟨n,es,C,λθ=>⟨B θ,.none,rfl,trivial,V,V,(λs he=>l!),λ_=>⟨rfl,λZ hd=>?_⟩,V,λenv2 w E u=>?_⟩⟩
    .simp only[kx]at hd;subst hd;exact M
    .simp only[AE.wp,w.vals (xs:=xs) (λs h=>h),D,Ai];exact⟨w.new rfl _ rfl M,n,es,C,λ_=>u⟩
  .exact h.elim
 |mko n z x=>
  simp only[AE.wp]at h|-;split at h
  .rename_i d k j A
   try simp only[A]
   obtain ⟨M,C,B,I⟩:=h;refine⟨M,C,B,I,.none,rfl,trivial,V,V,(λs he=>l!),λ_=>⟨rfl,λZ hd=>?_⟩,V,λenv2 w E u=>?_⟩
   .simp only[kx]at hd;subst hd;exact M
   .simp only[AE.wp,w.val (x:=x) (λs h=>h),A];exact⟨w.new rfl _ rfl M,C,B,u⟩
  .exact h.elim
 |mkx n z x=>
  simp only[AE.wp]at h|-;split at h
  .rename_i d k j A
   try simp only[A]
   obtain ⟨M,C,B,I⟩:=h;refine⟨M,C,B,I,.none,rfl,trivial,V,V,(λs he=>l!),λ_=>⟨rfl,λZ hd=>?_⟩,V,λenv2 w E u=>?_⟩
   .simp only[kx]at hd;subst hd;exact M
   .simp only[AE.wp,w.val (x:=x) (λs h=>h),A];exact⟨w.new rfl _ rfl M,C,B,u⟩
  .exact h.elim
 |Aaj _ _ _=>cases J
 |AaE _ _=>cases J
 |tl _=>cases J
 |Aa4 _=>cases J
 |Aar _ _=>cases J
 |nst _ _=>cases J
 |Abi _=>cases J
 |Aas _ _ _=>cases J
 |ldg _ _=>cases J
 |stq _ _ _ _=>cases J
 |mkm=>cases J
 |mvm _=>cases J
 |Aan _ _=>cases J
 |mlk _ _ _=>cases J
 |mup _ _ _ _=>cases J
 |pc _ _=>cases J
 |mnx _=>cases J
 |men _=>cases J
 |AaV _=>cases J
 |stx _ _ _=>cases J
 |isn _=>cases J
 |AaM g xs=>
  simp only[AE.wp]at h|-;cases D:Go.Sf.up O xs with
  |none=>rw[D]at h;exact h.elim|some P=>
   rw [D]at h;simp only[Ai]at h|-;obtain⟨r,C,B⟩:=h;refine⟨r,C,λθ=>A1 (B θ) rfl rfl λenv2 w E u=>?_⟩;simp only[AE.wp,w.up (xs:=xs) (λs h=>h),w.vals (xs:=xs) (λs h=>h),D,Ai];exact⟨r,C,λ_=>u⟩
 |Aae g xs=>
  simp only[AE.wp]at h|-;cases D:Go.Sf.vals O xs with
  |none=>rw[D]at h;exact h.elim|some P=>
   rw [D]at h;simp only[Ai]at h|-;obtain⟨r,C,I,B⟩:=h;refine⟨r,C,I,λθ=>A1 (B θ) rfl rfl λenv2 w E u=>?_⟩;simp only[AE.wp,w.vals (xs:=xs) (λs h=>h),D,Ai];exact⟨r,C,I,λ_=>u⟩
 |Abe x k n agg=>
  simp only[AE.wp]at h|-;split at h
  .rename_i cs A
   try simp only[A]
   obtain ⟨C,B⟩:=h;refine⟨C,?_⟩;cases agg with
   |true=>
    simp only[if_true]at B|-;refine A1 B rfl rfl λenv2 w E u=>?_;simp only[AE.wp,w.val (x:=x) (λs h=>h),A,if_true];exact⟨C,u⟩
   |false=>
    simp only[Bool.false_eq_true,if_false]at B|-;cases D:E4 (cs.drop k)with
    |none=>rw[D]at B;exact B.elim|some t=>
     rw [D]at B;simp only[Ai]at B|-;refine A1 B rfl rfl λenv2 w E u=>?_;simp only[AE.wp,w.val (x:=x) (λs h=>h),A,Bool.false_eq_true,if_false,D,Ai];exact⟨C,u⟩
  .exact h.elim
end
end Go.Sf
