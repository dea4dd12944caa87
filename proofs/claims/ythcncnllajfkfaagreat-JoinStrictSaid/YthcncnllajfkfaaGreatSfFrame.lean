/- What an operation leans on: the slots that it reads, whether or not they own their lists. -/
import Derived.Test.YthcncnllajfkfaaGreatSfCode
set_option linter.all false
open Option renaming some->Y,none->W
open Bool renaming true->X,false->T
open List renaming map_map->v1,getElem?_map->v5,mem_append->v6,map_drop->v_
namespace Go.Sf
theorem t8{cs ds:List AS}(h:ds.map AS.key=cs.map AS.key):ds.map (·.t)=cs.map (·.t):=by
 have:=congrArg (List.map Prod.fst) h;simpa[v1,Function.comp_def,AS.key]using this
def jy(p:TV×Bool):TV:=match p with
 |(.xl n es,X)=>.list n es|p=>p.1
theorem fU{cs ds:List AS}(h:ds.map AS.key=cs.map AS.key):ds.map AS.Abc=cs.map AS.Abc:=by
 have a:∀c:AS,c.Abc=jy c.key:=by
  rintro ⟨_|_,t⟩<;>cases t<;>rfl
 have:=congrArg (List.map jy) h;simpa[v1,Function.comp_def,<-a]using this
def ABJ(p:TV×Bool):Option (Nat×Fq):=match p with
 |(.xl n es,X)=>Y (n,es)|_=>W
theorem xr{cs ds:List AS}(h:ds.map AS.key=cs.map AS.key)(k:Nat):(match ds[k]? with
  |some ⟨X,.xl n es⟩=>Y (n,es)|_=>W)=(match cs[k]? with
  |some ⟨X,.xl n es⟩=>Y (n,es)|_=>W):=by
 have a:∀o:Option AS,(match o with
  |some ⟨X,.xl n es⟩=>Y (n,es)|_=>W)=(o.map AS.key).bind ABJ:=by
  rintro (_|⟨_|_,t⟩)
  .rfl
  .cases t<;>rfl
  .cases t<;>rfl
 rw [a,a];have:=congrArg (λl=>l[k]?) h;simp only[v5]at this;rw[this]
def ABK(p:TV×Bool):Option Fq:=match p with
 |(.xn es,X)=>Y es|_=>W
theorem xt{cs ds:List AS}(h:ds.map AS.key=cs.map AS.key)(k:Nat):(match ds[k]? with
  |some ⟨X,.xn es⟩=>Y es|_=>W)=(match cs[k]? with
  |some ⟨X,.xn es⟩=>Y es|_=>W):=by
 have a:∀o:Option AS,(match o with
  |some ⟨X,.xn es⟩=>Y es|_=>W)=(o.map AS.key).bind ABK:=by
  rintro (_|⟨_|_,t⟩)
  .rfl
  .cases t<;>rfl
  .cases t<;>rfl
 rw [a,a];have:=congrArg (λl=>l[k]?) h;simp only[v5]at this;rw[this]
def EV.like(e e2:EV):Prop:=
 e2=e\/(∃n es,(e=.tv (.list n es)/\e2=.ow (.list n es))\/(e=.ow (.list n es)/\e2=.tv (.list n es)))\/∃cs ds,e=.bx cs/\e2=.bx ds/\ds.map AS.key=cs.map AS.key
theorem EV.like.rfl'(e:EV):e.like e:=.inl rfl
variable{e e2:EV}
theorem EV.like.symm(h:e.like e2):e2.like e:=by
 rcases h with rfl|⟨n,es,⟨rfl,rfl⟩|⟨rfl,rfl⟩⟩|⟨cs,ds,rfl,rfl,h⟩
 .exact .inl rfl
 .exact .inr (.inl ⟨n,es,.inr ⟨rfl,rfl⟩⟩)
 .exact .inr (.inl ⟨n,es,.inl ⟨rfl,rfl⟩⟩)
 .exact .inr (.inr ⟨ds,cs,rfl,rfl,h.symm⟩)
theorem EV.like.wm(h:e.like e2):e2.wm=e.wm:=by
 rcases h with rfl|⟨n,es,⟨rfl,rfl⟩|⟨rfl,rfl⟩⟩|⟨cs,ds,rfl,rfl,h⟩<;>rfl
variable{q:Nat}
theorem EV.like.Abs(h:e.like e2)(hr:e.wm=Y q):e2=e:=by
 rcases h with rfl|⟨n,es,⟨rfl,rfl⟩|⟨rfl,rfl⟩⟩|⟨cs,ds,rfl,rfl,h⟩
 .rfl
 .cases hr
 .cases hr
 .cases hr
theorem EV.like.xo(h:e.like e2){n:Nat}{es:Fq}(he:e=.xo n es):e2=.xo n es:=by
 subst he;rcases h with rfl|⟨n,es,⟨h,_⟩|⟨h,_⟩⟩|⟨cs,ds,h,_⟩
 .rfl
 .cases h
 .cases h
 .cases h
theorem EV.like.val(h:e.like e2):e2.val=e.val:=by
 rcases h with rfl|⟨n,es,⟨rfl,rfl⟩|⟨rfl,rfl⟩⟩|⟨cs,ds,rfl,rfl,h⟩<;>rfl
theorem EV.like.pt(h:e.like e2){row:Fq}(he:e=.tv (.pt row)):e2=.tv (.pt row):=by
 subst he;rcases h with rfl|⟨n,es,⟨h,rfl⟩|⟨h,rfl⟩⟩|⟨cs,ds,h,rfl,a⟩
 .rfl
 .simp at h
 .cases h
 .cases h
theorem EV.like.bp(h:e.like e2){q a:Nat}(he:e=.bp q a):e2=.bp q a:=by
 subst he;rcases h with rfl|⟨n,es,⟨h,rfl⟩|⟨h,rfl⟩⟩|⟨cs,ds,h,rfl,b⟩
 .rfl
 .cases h
 .cases h
 .cases h
theorem EV.like.tp(h:e.like e2){a:Fq}(he:e=.tp a):e2=.tp a:=by
 subst he;rcases h with rfl|⟨n,es,⟨h,rfl⟩|⟨h,rfl⟩⟩|⟨cs,ds,h,rfl,b⟩
 .rfl
 .cases h
 .cases h
 .cases h
theorem EV.like.bx(h:e.like e2){cs:List AS}(he:e=.bx cs):∃ds,e2=.bx ds/\ds.map AS.key=cs.map AS.key:=by
 subst he;rcases h with rfl|⟨n,es,⟨h,rfl⟩|⟨h,rfl⟩⟩|⟨cs',ds,h,rfl,a⟩
 .exact⟨cs,rfl,rfl⟩
 .cases h
 .cases h
 .simp only[EV.bx.injEq]at h;subst h;exact⟨ds,rfl,a⟩
def AG.sl:AG->Ne
 |.s n=>[n]|.c _=>[]
def Yk:Option AG->Ne
 |some x=>x.sl|none=>[]
def G7:List AG->Ne
 |[]=>[]|x::xs=>x.sl++G7 xs
def WJ:List (Nat×Nat×AG)->Ne
 |[]=>[]|x::xs=>x.2.2.sl++WJ xs
def AE.slots:AE->Ne
 |.mv x=>x.sl|.tk s=>[s]|.Abe _=>[]|.fad x _=>x.sl|.bad s _=>[s]|.iad x i _=>x.sl++i.sl|.aad x i _ _=>x.sl++i.sl|.ld x=>x.sl|.lda x _=>x.sl|.ldb s _=>[s]|.ldt x=>x.sl|.bin _ _ x y=>x.sl++y.sl|.not x=>x.sl|.neg x=>x.sl|.pick c a b=>c.sl++(a.sl++b.sl)|.len x=>x.sl|.Abr x=>x.sl|.slc _ x lo hi=>x.sl++(Yk lo++Yk hi)|.Aaq x lo hi=>x.sl++(Yk lo++Yk hi)|.bld _ ps=>WJ ps|.lst _ ps=>G7 ps|.app _ x y=>x.sl++y.sl|.call _ xs=>G7 xs|.Aa6 x xs=>x.sl++G7 xs|.clo _ xs=>G7 xs|.ext x _=>x.sl|.cvt _ x=>x.sl|.Aam x i=>x.sl++i.sl|.Abd x=>x.sl|.Abp x=>x.sl|.mm _ x y=>x.sl++y.sl|.alc _=>[]|.st _ x v=>x.sl++v.sl|.stb _ s v=>s::v.sl|.frz s=>[s]|.Abi x _ _ _=>x.sl|.xal s=>[s]|.Abj x=>x.sl|.xia x i _=>x.sl++i.sl|.xfa x _=>x.sl|.xld x=>x.sl|.xst x v _=>x.sl++v.sl|.rel s=>[s]|.Aa4 _=>[]|.Aba _=>[]|.tkx s=>[s]|.AaY _ s y=>s::y.sl|.Aax _ xs=>G7 xs|.mkx _ _ x=>x.sl|.Aas _ x ys=>x.sl++G7 ys|.AaI _ x=>x.sl|.Aah gs=>gs.flatMap GC.sl|.stx _ s q=>[s,q]|.AaU _ xs=>G7 xs|.Aar _ xs=>G7 xs|.isn x=>x.sl|.fdv x _=>x.sl|.ldv x _=>x.sl|.lac x=>x.sl|.ctk x=>x.sl|.cpt x q=>x.sl++[q]|.cut _ s hi=>s::hi.sl|.AaE _ xs=>G7 xs|.AaW _ x=>x.sl|.Aa9 _ s _ x=>s::x.sl|.AaV _ xs=>G7 xs|.zt _ xs _=>G7 xs|.Abb q=>[q]|.AaA s q=>[s,q]|.lan x=>x.sl|.nia x i=>x.sl++i.sl|.nld x=>x.sl|.nst x v=>x.sl++v.sl|.Abk q=>[q]|.AaD _ xs _=>G7 xs|.ldg s _=>[s]|.stq _ _ x v=>x.sl++v.sl|.mkm=>[]|.mvm s=>[s]|.Aaw _ xs=>G7 xs|.mlk s m x=>s::(m.sl++x.sl)|.mup s m x v=>s::(m.sl++(x.sl++v.sl))|.sR s m=>s::m.sl|.mnx s=>[s]|.men s=>[s]
def AE.dem:AE->Ne
 |.tk s=>[s]|.app _ x _=>x.sl|_=>[]
def AE.mov:AE->Bool
 |.st ..=>T|.stb ..=>T|.frz _=>T|.xst ..=>T|.rel _=>T|.Aa4 _=>T|.Aba _=>T|.tkx _=>T|.AaY ..=>T|.Aas ..=>T|.AaI ..=>T|.Aah _=>T|.stx ..=>T|.isn _=>T|.ctk _=>T|.cpt ..=>T|.cut ..=>T|.Aa9 ..=>T|.zt ..=>T|.Abb _=>T|.AaA ..=>T|.nst ..=>T|.Abk _=>T|.AaD ..=>T|.ldg ..=>T|.stq ..=>T|.mkm=>T|.mvm _=>T|.Aaw ..=>T|.mlk ..=>T|.mup ..=>T|.sR ..=>T|.mnx _=>T|.men _=>T|_=>X
def AE.sc:AE->Bool
 |.alc _=>X|.Abp _=>X|.AaW ..=>X|.Aax ..=>X|.mkx ..=>X|_=>T
def AE.AaS:AE->Ne
 |.bad s _=>[s]|.xal s=>[s]|_=>[]
inductive BW where
 |none
 |slot (s:Nat) (t:TV)
 |cell (s off:Nat) (t:TV)
def BW.app:BW->AB->AB
 |.none,O=>O|.slot s t,O=>(s,.tv t)::O|.cell s off t,O=>match O.get s with
  |.bx cs=>(s,.bx (cs.set off ⟨T,t⟩))::O|_=>O
def BW.ok:BW->AB->Prop
 |.none,_=>True|.slot s t,O=>O.get s=.ow t|.cell s off t,O=>∃cs,O.get s=.bx cs/\cs[off]?=Y ⟨X,t⟩
structure E8(op:AE)(f:BW)(dst:Option Nat)(O env2:AB):Prop where
 sl:∀s∈op.slots,(O.get s).like (env2.get s)
 bp:∀s∈op.slots,∀q,(O.get s).wm=Y q->(O.get q).like (env2.get q)
 dem:∀s∈op.dem,(∀cs,O.get s≠.bx cs)->env2.get s=O.get s
 eff:f.ok env2
 new:op.sc=X->∀d,dst=Y d->O.f0 d=X->env2.f0 d=X
section
variable{op:AE}{f:BW}{dst:Option Nat}{O env2:AB}
variable{x:AG}
theorem E8.val(h:E8 op f dst O env2)(a:∀s∈x.sl,s∈op.slots):x.val env2=x.val O:=by
 cases x with
 |c t=>rfl|s n=>exact(h.sl n (a n e!)).val
theorem E8.ev(h:E8 op f dst O env2)(a:∀s∈x.sl,s∈op.slots):(x.ev O).like (x.ev env2):=by
 cases x with
 |c t=>exact .inl rfl|s n=>exact h.sl n (a n e!)
theorem E8.vals(h:E8 op f dst O env2):∀{xs:List AG},(∀s∈G7 xs,s∈op.slots)->Go.Sf.vals env2 xs=Go.Sf.vals O xs
 |[],_=>rfl|x::xs,b=>by
  simp only[G7,v6]at b;simp only[Go.Sf.vals,h.val (x:=x) (λs a=>b s (.inl a)),h.vals (xs:=xs) (λs a=>b s (.inr a))]
theorem E8.parts(h:E8 op f dst O env2):∀{xs:List (Nat×Nat×AG)},(∀s∈WJ xs,s∈op.slots)->Hx env2 xs=Hx O xs
 |[],_=>rfl|(i,n,x)::xs,b=>by
  simp only[WJ,v6]at b;simp only[Hx,h.val (x:=x) (λs a=>b s (.inl a)),h.parts (xs:=xs) (λs a=>b s (.inr a))]
theorem E8.bnd(h:E8 op f dst O env2){x:Option AG}{k:Int}(a:∀s∈Yk x,s∈op.slots):IQ env2 k x=IQ O k x:=by
 cases x with
 |none=>rfl|some x=>exact h.val a
theorem E8.addr(h:E8 op f dst O env2)(i:∀s∈x.sl,s∈op.slots):BS env2 (x.ev env2)=BS O (x.ev O):=by
 cases x with
 |c t=>cases t<;>rfl
 |s n=>
  have g:=i n e!;have a:=h.sl n g;have hb:=h.bp n g;simp only[AG.ev];generalize O.get n=e at a hb;generalize env2.get n=e2 at a;rcases a with rfl|⟨n,es,⟨rfl,rfl⟩|⟨rfl,rfl⟩⟩|⟨cs,ds,rfl,rfl,d⟩
  .cases e2 with
   |bp q j=>
    have b:=hb q rfl;simp only[BS];generalize O.get q=e1 at b;generalize env2.get q=e2 at b;rcases b with rfl|⟨n,es,⟨rfl,rfl⟩|⟨rfl,rfl⟩⟩|⟨cs,ds,rfl,rfl,d⟩
    .rfl
    .rfl
    .rfl
    .simp only[v_,t8 d]
   |tv t=>cases t<;>rfl
   |_=>rfl
  .rfl
  .rfl
  .simp only[BS,t8 d]
theorem E8.place(h:E8 op f dst O env2)(d:∀s∈x.sl,s∈op.slots):x.place env2=x.place O:=by
 cases x with
 |c t=>rfl|s n=>
  have g:=h.sl n (d n e!);simp only[AG.place];rcases g with a|⟨n,es,⟨a,b⟩|⟨a,b⟩⟩|⟨cs,ds,a,b,_⟩
  .rw[a]
  .rw[a,b]
  .rw[a,b]
  .rw[a,b]
variable{q:Nat}
theorem EV.like.sx{O env2:AB}(h:(O.get q).like (env2.get q))(i:Option Nat):env2.sx q i=O.sx q i:=by
 rcases h with a|⟨n,es,⟨a,b⟩|⟨a,b⟩⟩|⟨cs,ds,a,b,c⟩
 .exact AB.Aac a
 .cases i<;>simp only[AB.sx,a,b]
 .cases i<;>simp only[AB.sx,a,b]
 .cases i with
  |none=>simp only[AB.sx,a,b]|some k=>simp only[AB.sx,a,b];exact xr c k
theorem EV.like.nat{O env2:AB}(h:(O.get q).like (env2.get q))(i:Nat):env2.nat q i=O.nat q i:=by
 rcases h with a|⟨n,es,⟨a,b⟩|⟨a,b⟩⟩|⟨cs,ds,a,b,c⟩
 .exact AB.Aal a
 .simp only[AB.nat,a,b]
 .simp only[AB.nat,a,b]
 .simp only[AB.nat,a,b];exact xt c i
variable{e e2:EV}
theorem EV.like.nh(h:e.like e2){q i:Nat}{k:NK}(he:e=.nh q i k):e2=.nh q i k:=by
 subst he;exact h.Abs rfl
theorem E8.wl(h:E8 op f dst O env2)(g:∀s∈x.sl,s∈op.slots):x.wl env2=x.wl O:=by
 cases x with
 |c t=>rfl|s n=>
  have d:=g n e!;have j:=h.sl n d;have hb:=h.bp n d;simp only[AG.wl];rcases j with a|⟨m,es,⟨a,b⟩|⟨a,b⟩⟩|⟨cs,ds,a,b,_⟩
  .rw[a];cases he:O.get n with
   |la q i=>simp only[(hb q (by rw[he];rfl)).sx i]|_=>rfl
  .rw[a,b]
  .rw[a,b]
  .rw[a,b]
theorem E8.Abl(h:E8 op f dst O env2)(i:∀s∈x.sl,s∈op.slots):x.Abl env2=x.Abl O:=by
 unfold AG.Abl;rw[h.wl i];cases x.wl O with
 |some p=>rfl|none=>
  cases x with
  |c t=>cases t<;>rfl
  |s n=>
   have j:=i n e!;have k:=h.sl n j;have hb:=h.bp n j;simp only[AG.ev];rcases k with a|⟨m,es,⟨a,d⟩|⟨a,d⟩⟩|⟨cs,ds,a,d,r⟩
   .rw[a];cases he:O.get n with
    |bp q v=>
     have o:=hb q (by rw[he];rfl);simp only;rcases o with b|⟨m,es,⟨b,g⟩|⟨b,g⟩⟩|⟨cs,ds,b,g,u⟩
     .rw[b]
     .rw[b,g]
     .rw[b,g]
     .rw[b,g];have:=fU u;simp only[v_,this]
    |_=>rfl
   .rw[a,d];rfl
   .rw[a,d];rfl
   .rw[a,d];simp only[fU r]
theorem E8.Aaj(h:E8 op f dst O env2):∀{xs:List AG},(∀s∈G7 xs,s∈op.slots)->Go.Sf.Aaj env2 xs=Go.Sf.Aaj O xs
 |[],_=>rfl|x::xs,b=>by
  simp only[G7,v6]at b;simp only[Go.Sf.Aaj,h.Abl (x:=x) (λs a=>b s (.inl a)),h.Aaj (xs:=xs) (λs a=>b s (.inr a))]
end
structure nM(S:FuncId->Fq->A9->Prop)(op:AE)(dst:Option Nat)(O:AB)(e:EV)(env':AB)(f:BW):Prop where
 env':env'=f.app O
 ok:f.ok O
 slot:∀s t,f=.slot s t->s∈op.dem
 cell:∀s off t,f=.cell s off t->(s∈op.slots\/∃x∈op.slots,(O.get x).wm=Y s)
 wm:∀s,e.wm=Y s->(s∈op.AaS\/∃x∈op.slots,(O.get x).wm=Y s)
 new:op.sc=X->e.wm=W/\∀d,dst=Y d->O.f0 d=X
 xl:∀s off t,f=.cell s off t->t.AaB=T
 again:∀env2,E8 op f dst O env2->∀K2:EV->AB->Prop,K2 e (f.app env2)->op.wp S env2 dst K2
section
variable{S:FuncId->Fq->A9->Prop}{op:AE}{dst:Option Nat}{O:AB}{K:EV->AB->Prop}
variable{e:EV}
theorem BH(b:K e O)(c:op.sc=T)(hr:e.wm=W)(h:∀env2,E8 op .none dst O env2->∀a:EV->AB->Prop,a e env2->op.wp S env2 dst a):K e O/\∃f,nM S op dst O e O f:=
 ⟨b,.none,rfl,trivial,V,V,(λs he=>by rw[hr]at he;cases he),by simp[c],V,h⟩
variable{α:Type}{l m:List α}
theorem Ey{x:α}(h:x∈m):x∈l++m:=List.mem_append_right _ h
theorem EC{x:α}(h:x∈l):x∈l++m:=List.mem_append_left _ h
theorem frame(H:op.mov=X)(h:op.wp S O dst K):op.wp S O dst λe env'=>K e env'/\∃f,nM S op dst O e env' f:=by
 cases op with
 |mv x=>
  simp only[AE.wp]at h|-;have key:∀t,(x.ev O).val=Y t->∀env2,E8 (.mv x) .none dst O env2->∀E:EV->AB->Prop,E (.tv t) env2->(AE.mv x).wp S env2 dst E:=by
   intro t Z env2 w E u;have hv:=w.val (x:=x) (λs h=>h);simp only[AG.val]at hv;rw[Z]at hv;simp only[AE.wp];cases he:x.ev env2<;>rw[he]at hv<;>simp[EV.val]at hv<;>subst hv<;>exact u
  split at h
  .rename_i t A
   try simp only[A]
   exact BH h rfl rfl (key t (by rw[A];rfl))
  .rename_i t A
   try simp only[A]
   exact BH h rfl rfl (key t (by rw[A];rfl))
  .rename_i P A
   try simp only[A]
   refine BH h rfl rfl λenv2 w E u=>?_;cases x with
   |c t=>simp[AG.ev]at A|s n=>
    simp only[AG.ev]at A;have B:env2.get n=.tp P:=(w.sl n (by simp[AE.slots,AG.sl])).tp A;simp only[AE.wp,AG.ev,B];exact u
  .exact h.elim
 |tk s=>
  simp only[AE.wp]at h|-;split at h
  .rename_i t L
   try simp only[L]
   refine ⟨h,.slot s t,rfl,L,?_,V,(λs he=>o1),i_,V,λenv2 w E u=>?_⟩
   .intro s' t' he;simp only[BW.slot.injEq]at he;simp[AE.dem,he.1]
   .have:=w.eff;simp only[BW.ok]at this;simp only[AE.wp,this];exact u
  .rename_i t L
   try simp only[L]
   refine BH h rfl rfl λenv2 w E u=>?_;have:=w.dem s (by simp[AE.dem]) (by simp[L]);simp only[AE.wp,this,L];exact u
  .exact h.elim
 |Abe n=>exact BH h rfl rfl λenv2 w E u=>u|fad x k=>
  simp only[AE.wp]at h|-;split at h
  .rename_i row A
   try simp only[A]
   refine BH h rfl rfl λenv2 w E u=>?_;have:=(w.ev (x:=x) (λs h=>h)).pt A;simp only[AE.wp,this];exact u
  .rename_i s F A;split at h
   .rename_i cs L
    try simp only[A,L]
    have G:∃n∈x.sl,O.get n=.bp s F:=by
     cases x with
     |c t=>simp[AG.ev]at A|s n=>exact⟨n,e!,A⟩
    obtain ⟨n,M,hb⟩:=G;refine⟨h,.none,rfl,trivial,V,V,?_,i_,V,λenv2 w E u=>?_⟩
    .intro s' he;simp only[EV.wm,q0]at he;subst he;exact .inr ⟨n,M,h?⟩
    .have C:=(w.ev (x:=x) (λs h=>h)).bp A;have B:=w.bp n M s h?;rw[L]at B;obtain⟨ds,I,_⟩:=B.bx rfl;simp only[AE.wp,C,I];exact u
   .exact h.elim
  .exact h.elim
 |bad s k=>
  simp only[AE.wp]at h|-;split at h
  .rename_i cs L
   try simp only[L]
   refine ⟨h,.none,rfl,trivial,V,V,?_,i_,V,λenv2 w E u=>?_⟩
   .intro s' he;simp only[EV.wm,q0]at he;exact .inl (by simp[AE.AaS,he])
   .have B:=w.sl s g!;rw[L]at B;obtain⟨ds,I,_⟩:=B.bx rfl;simp only[AE.wp,I];exact u
  .rename_i row L
   try simp only[L]
   refine BH h rfl rfl λenv2 w E u=>?_;have:=(w.sl s g!).pt L;simp only[AE.wp,this];exact u
  .exact h.elim
 |iad x i n=>
  simp only[AE.wp]at h|-;split at h
  .rename_i m es k j A hi
   try simp only[A,hi]
   obtain ⟨C,B,e,I,R⟩:=h;refine⟨C,B,e,I,BH R rfl rfl λenv2 w E u=>?_⟩;simp only[AE.wp,w.val (x:=x) (λs h=>EC h),w.val (x:=i) (λs h=>Ey h),A,hi];exact⟨C,B,e,I,u⟩
  .exact h.elim
 |aad x i n k=>
  simp only[AE.wp]at h|-;split at h
  .rename_i row kk j A hi
   try simp only[A,hi]
   obtain ⟨C,B,I,R⟩:=h;refine⟨C,B,I,BH R rfl rfl λenv2 w E u=>?_⟩;have:=(w.ev (x:=x) (λs h=>EC h)).pt A;simp only[AE.wp,this,w.val (x:=i) (λs h=>Ey h),hi];exact⟨C,B,I,u⟩
  .exact h.elim
 |ld x=>
  simp only[AE.wp]at h|-;cases D:BS O (x.ev O)with
  |none=>rw[D]at h;exact h.elim|some cs=>
   rw [D]at h;simp only[Ax]at h|-;cases hf:IK cs with
   |none=>rw[hf]at h;exact h.elim|some t=>
    rw [hf]at h;refine⟨h.1,BH h.2 rfl rfl λenv2 w E u=>?_⟩;simp only[AE.wp,w.addr (x:=x) (λs h=>h),D,Ax,hf];exact⟨h.1,u⟩
 |lda x n=>
  simp only[AE.wp]at h|-;cases D:BS O (x.ev O)with
  |none=>rw[D]at h;exact h.elim|some cs=>
   rw [D]at h;simp only[Ax]at h|-;refine⟨h.1,BH h.2 rfl rfl λenv2 w E u=>?_⟩;simp only[AE.wp,w.addr (x:=x) (λs h=>h),D,Ax];exact⟨h.1,u⟩
 |ldb s n=>
  simp only[AE.wp]at h|-;split at h
  .rename_i cs D
   try simp only[D]
   refine ⟨h.1,BH h.2 rfl rfl λenv2 w E u=>?_⟩;have C:=w.addr (x:=.s s) (λs h=>h);obtain⟨ds,I,_⟩:=(w.sl s g!).bx D;simp only[AG.ev,D,I,BS,q0]at C;simp only[AE.wp,I,C];exact⟨h.1,u⟩
  .exact h.elim
 |ldt x=>
  simp only[AE.wp]at h|-;split at h
  .rename_i s F θ;split at h
   .rename_i cs L;split at h
    .rename_i n es D
     try simp only[θ,L,D]
     refine ⟨h,.cell s F (.list n es),by simp[BW.app,L],⟨cs,L,D⟩,V,?_,(λs he=>o1),i_,(λs F t he=>by cases he;rfl),λenv2 w E u=>?_⟩
     .intro s' off' t' he;simp only[BW.cell.injEq]at he;obtain⟨rfl,rfl,rfl⟩:=he;cases x with
      |c t=>simp[AG.place]at θ|s n=>
       simp only[AG.place]at θ;split at θ
       next q o J=>simp only[q0,Prod.mk.injEq]at θ;exact .inr ⟨n,by simp[AE.slots,AG.sl],by rw[J,θ.1];rfl⟩
       .simp only[q0,Prod.mk.injEq]at θ;exact .inl (by simp[AE.slots,AG.sl,θ.1])
       .cases θ
     .obtain⟨ds,C,B⟩:=w.eff;simp only[BW.app,C]at u;simp only[AE.wp,w.place (x:=x) (λs h=>h),θ,C,B];exact u
    .exact h.elim
   .exact h.elim
  .exact h.elim
 |bin k op x y=>
  simp only[AE.wp]at h|-;split at h
  .rename_i a b A ε
   try simp only[A,ε]
   cases hb:NF k op a b with
   |none=>rw[hb]at h;exact h.elim|some t=>
    rw [hb]at h;refine BH h rfl rfl λenv2 w E u=>?_;simp only[AE.wp,w.val (x:=x) (λs h=>EC h),w.val (x:=y) (λs h=>Ey h),A,ε,hb,Ax];exact u
  .exact h.elim
 |not x=>
  simp only[AE.wp]at h|-;split at h
  .rename_i b A
   try simp only[A]
   refine BH h rfl rfl λenv2 w E u=>?_;simp only[AE.wp,w.val (x:=x) (λs h=>h),A];exact u
  .exact h.elim
 |neg x=>
  simp only[AE.wp]at h|-;split at h
  .rename_i k n A
   try simp only[A]
   refine BH h rfl rfl λenv2 w E u=>?_;simp only[AE.wp,w.val (x:=x) (λs h=>h),A];exact u
  .exact h.elim
 |pick c a b=>
  simp only[AE.wp]at h|-;split at h
  .rename_i q D
   try simp only[D]
   have key:∀t,((if q=X then a else b).ev O).val=Y t->∀env2,E8 (.pick c a b) .none dst O env2->∀E:EV->AB->Prop,E (.tv t) env2->(AE.pick c a b).wp S env2 dst E:=by
    intro t Z env2 w E u;have hv:=w.val (x:=if q=X then a else b) (λs h=>by
     cases q
     .exact Ey (Ey h)
     .exact Ey (EC h))
    simp only[AG.val]at hv;rw[Z]at hv;simp only[AE.wp,w.val (x:=c) (λs h=>EC h),D];cases he:(if q=X then a else b).ev env2<;>rw[he]at hv<;>simp[EV.val]at hv<;>subst hv<;>exact u
   split at h
   .rename_i t A
    try simp only[A]
    exact BH h rfl rfl (key t (by rw[A];rfl))
   .rename_i t A
    try simp only[A]
    exact BH h rfl rfl (key t (by rw[A];rfl))
   .exact h.elim
  .exact h.elim
 |len x=>
  simp only[AE.wp]at h|-;split at h
  .rename_i n es A
   try simp only[A]
   refine BH h rfl rfl λenv2 w E u=>?_;simp only[AE.wp,w.val (x:=x) (λs h=>h),A];exact u
  .exact h.elim
 |fdv x k=>
  simp only[AE.wp]at h|-;split at h
  .rename_i row A
   try simp only[A]
   refine BH h rfl rfl λenv2 w E u=>?_;simp only[AE.wp,w.val (x:=x) (λs h=>h),A];exact u
  .exact h.elim
 |ldv x n=>
  simp only[AE.wp]at h|-;split at h
  .rename_i row A
   try simp only[A]
   refine ⟨h.1,BH h.2 rfl rfl λenv2 w E u=>?_⟩;simp only[AE.wp,w.val (x:=x) (λs h=>h),A];exact⟨h.1,u⟩
  .exact h.elim
 |Abr x=>
  simp only[AE.wp]at h|-;split at h
  .rename_i s A
   try simp only[A]
   refine BH h rfl rfl λenv2 w E u=>?_;simp only[AE.wp,w.val (x:=x) (λs h=>h),A];exact u
  .exact h.elim
 |slc n x lo hi=>
  simp only[AE.wp]at h|-;split at h
  .rename_i m es A
   try simp only[A]
   split at h
   .rename_i k1 l k2 hh C B
    try simp only[C,B]
    refine ⟨h.1,h.2.1,BH h.2.2 rfl rfl λenv2 w E u=>?_⟩;simp only[AE.wp,w.val (x:=x) (λs h=>EC h),A,w.bnd (x:=lo) (λs h=>Ey (EC h)),w.bnd (x:=hi) (λs h=>Ey (Ey h)),C,B];exact⟨h.1,h.2.1,u⟩
   .exact h.elim
  .exact h.elim
 |Aaq x lo hi=>
  simp only[AE.wp]at h|-;split at h
  .rename_i str A
   try simp only[A]
   split at h
   .rename_i k1 l k2 hh C B
    try simp only[C,B]
    refine ⟨h.1,h.2.1,h.2.2.1,BH h.2.2.2 rfl rfl λenv2 w E u=>?_⟩;simp only[AE.wp,w.val (x:=x) (λs h=>EC h),A,w.bnd (x:=lo) (λs h=>Ey (EC h)),w.bnd (x:=hi) (λs h=>Ey (Ey h)),C,B];exact⟨h.1,h.2.1,h.2.2.1,u⟩
   .exact h.elim
  .exact h.elim
 |bld zero ζ=>
  simp only[AE.wp]at h|-;cases D:Hx O ζ with
  |none=>rw[D]at h;exact h.elim|some P=>
   rw [D]at h;simp only[Ax]at h|-;cases hf:GB zero P with
   |none=>rw[hf]at h;exact h.elim|some cs=>
    rw [hf]at h;refine BH h rfl rfl λenv2 w E u=>?_;simp only[AE.wp,w.parts (xs:=ζ) (λs h=>h),D,Ax,hf];exact u
 |lst n ζ=>
  simp only[AE.wp]at h|-;cases D:Go.Sf.vals O ζ with
  |none=>rw[D]at h;exact h.elim|some P=>
   rw [D]at h;simp only[Ax]at h|-;refine⟨h.1,BH h.2 rfl rfl λenv2 w E u=>?_⟩;simp only[AE.wp,w.vals (xs:=ζ) (λs h=>h),D,Ax];exact⟨h.1,u⟩
 |app n x y=>
  simp only[AE.wp]at h|-;split at h
  .rename_i m es m' fs A ε
   try simp only[A,ε]
   obtain ⟨C,B,I,R⟩:=h;cases x with
   |c t=>simp[AG.ev]at A|s s=>
    simp only[AG.ev]at A;subst C;refine⟨rfl,B,I,R,.slot s (.list m es),rfl,A,?_,V,(λs he=>o1),i_,V,λenv2 w E u=>?_⟩
    .intro s' t' he;simp only[BW.slot.injEq]at he;simp[AE.dem,AG.sl,he.1]
    .have:=w.eff;simp only[BW.ok]at this;simp only[AE.wp,AG.ev,this,w.val (x:=y) (λs h=>Ey h),ε];exact⟨trivial,B,I,u⟩
  .exact h.elim
 |call g xs=>
  simp only[AE.wp]at h|-;cases D:Go.Sf.vals O xs with
  |none=>rw[D]at h;exact h.elim|some P=>
   rw [D]at h;simp only[Ax]at h|-;obtain⟨r,C,B⟩:=h;refine⟨r,C,λQ=>BH (B Q) rfl (by cases r<;>rfl) λenv2 w E u=>?_⟩;simp only[AE.wp,w.vals (xs:=xs) (λs h=>h),D,Ax];exact⟨r,C,λ_=>u⟩
 |Aa6 x xs=>
  simp only[AE.wp]at h|-;split at h
  .rename_i g caps P A D
   try simp only[A,D]
   obtain ⟨r,C,B⟩:=h;refine⟨r,C,λQ=>BH (B Q) rfl (by cases r<;>rfl) λenv2 w E u=>?_⟩;simp only[AE.wp,w.val (x:=x) (λs h=>EC h),w.vals (xs:=xs) (λs h=>Ey h),A,D];exact⟨r,C,λ_=>u⟩
  .exact h.elim
 |clo g xs=>
  simp only[AE.wp]at h|-;cases D:Go.Sf.vals O xs with
  |none=>rw[D]at h;exact h.elim|some P=>
   rw [D]at h;simp only[Ax]at h|-;refine BH h rfl rfl λenv2 w E u=>?_;simp only[AE.wp,w.vals (xs:=xs) (λs h=>h),D,Ax];exact u
 |ext x i=>
  simp only[AE.wp]at h|-;split at h
  .rename_i P A
   try simp only[A]
   cases hf:P[i]? with
   |none=>rw[hf]at h;exact h.elim|some t=>
    rw [hf]at h;refine BH h rfl rfl λenv2 w E u=>?_;have:=(w.ev (x:=x) (λs h=>h)).tp A;simp only[AE.wp,this,hf,Ax];exact u
  .exact h.elim
 |cvt k x=>
  simp only[AE.wp]at h|-;split at h
  .rename_i k n A
   try simp only[A]
   refine BH h rfl rfl λenv2 w E u=>?_;simp only[AE.wp,w.val (x:=x) (λs h=>h),A];exact u
  .exact h.elim
 |Aam x i=>
  simp only[AE.wp]at h|-;split at h
  .rename_i str k j A hi
   try simp only[A,hi]
   obtain ⟨C,b,B,I⟩:=h;refine⟨C,b,B,BH I rfl rfl λenv2 w E u=>?_⟩;simp only[AE.wp,w.val (x:=x) (λs h=>EC h),w.val (x:=i) (λs h=>Ey h),A,hi];exact⟨C,b,B,u⟩
  .exact h.elim
 |Abd x=>
  simp only[AE.wp]at h|-;split at h
  .rename_i t A
   try simp only[A]
   refine BH h rfl rfl λenv2 w E u=>?_;simp only[AE.wp,w.val (x:=x) (λs h=>h),A];exact u
  .exact h.elim
 |Abp x=>
  simp only[AE.wp]at h|-;split at h
  .rename_i t d A
   try simp only[A]
   refine ⟨h.1,h.2,.none,rfl,trivial,V,V,(λs he=>o1),λ_=>⟨rfl,λδ hd=>?_⟩,V,λenv2 w E u=>?_⟩
   .simp only[q0]at hd;subst hd;exact h.1
   .simp only[AE.wp,w.val (x:=x) (λs h=>h),A];exact⟨w.new rfl _ rfl h.1,u⟩
  .exact h.elim
 |mm mx x y=>
  simp only[AE.wp]at h|-;split at h
  .rename_i k a k' b A ε
   try simp only[A,ε]
   refine ⟨h.1,BH h.2 rfl rfl λenv2 w E u=>?_⟩;simp only[AE.wp,w.val (x:=x) (λs h=>EC h),w.val (x:=y) (λs h=>Ey h),A,ε];exact⟨h.1,u⟩
  .exact h.elim
 |alc cs=>
  simp only[AE.wp]at h|-;split at h
  .rename_i d;refine⟨h.1,h.2,.none,rfl,trivial,V,V,(λs he=>o1),λ_=>⟨rfl,λδ hd=>?_⟩,V,λenv2 w E u=>?_⟩
   .simp only[q0]at hd;subst hd;exact h.1
   .simp only[AE.wp];exact⟨w.new rfl _ rfl h.1,u⟩
  .exact h.elim
 |st n x v=>cases H
 |stb n s v=>cases H
 |frz s=>cases H
 |xal s=>
  simp only[AE.wp]at h|-;split at h
  .rename_i n es L
   try simp only[L]
   refine ⟨h,.none,rfl,trivial,V,V,?_,i_,V,λenv2 w E u=>?_⟩
   .intro s' he;simp only[EV.wm,q0]at he;exact .inl (by simp[AE.AaS,he])
   .have B:=(w.sl s g!).xo L;simp only[AE.wp,B];exact u
  .exact h.elim
 |Abj x=>
  simp only[AE.wp]at h|-;cases A:x.wl O with
  |none=>rw[A]at h;exact h.elim|some p=>
   rw [A]at h;simp only[Ax]at h|-;refine BH h rfl rfl λenv2 w E u=>?_;simp only[AE.wp,w.wl (x:=x) (λs h=>h),A,Ax];exact u
 |lan x=>
  simp only[AE.wp]at h|-;split at h
  .rename_i s F A;cases J:O.nat s F with
   |none=>rw[J]at h;exact h.elim|some es=>
    rw [J]at h;simp only[Ax]at h
    try simp only[A,J]
    have G:∃n∈x.sl,O.get n=.bp s F:=by
     cases x with
     |c t=>simp[AG.ev]at A|s n=>exact⟨n,e!,A⟩
    obtain ⟨n,M,hb⟩:=G;refine⟨h,.none,rfl,trivial,V,V,?_,i_,V,λenv2 w E u=>?_⟩
    .intro s' he;simp only[EV.wm,q0]at he;subst he;exact .inr ⟨n,M,h?⟩
    .have C:=(w.ev (x:=x) (λs h=>h)).bp A;have B:=(w.bp n M s h?).nat F;rw[J]at B;simp only[AE.wp,C,B,Ax];exact u
  .exact h.elim
 |nld x=>
  simp only[AE.wp]at h|-;split at h
  .rename_i s F r A;cases J:O.nat s F with
   |none=>rw[J]at h;exact h.elim|some es=>
    rw [J]at h;simp only[Ax]at h;obtain⟨η,h⟩:=h
    try simp only[A,J]
    have G:∃n∈x.sl,O.get n=.nh s F (.el r):=by
     cases x with
     |c t=>simp[AG.ev]at A|s n=>exact⟨n,e!,A⟩
    obtain ⟨n,M,hb⟩:=G;refine⟨η,h,.none,rfl,trivial,V,V,?_,i_,V,λenv2 w E u=>?_⟩
    .intro s' he;simp only[EV.wm,q0]at he;subst he;exact .inr ⟨n,M,h?⟩
    .have C:=(w.ev (x:=x) (λs h=>h)).nh A;have B:=(w.bp n M s h?).nat F;rw[J]at B;simp only[AE.wp,C,B,Ax];exact⟨η,u⟩
  .exact h.elim
 |nia x i=>
  simp only[AE.wp]at h|-;split at h
  .rename_i s F k j A κ;cases J:O.nat s F with
   |none=>rw[J]at h;exact h.elim|some es=>
    rw [J]at h;simp only[Ax]at h;obtain⟨η,I,h⟩:=h
    try simp only[A,κ,J]
    have G:∃n∈x.sl,O.get n=.nh s F .hd:=by
     cases x with
     |c t=>simp[AG.ev]at A|s n=>exact⟨n,e!,A⟩
    obtain ⟨n,M,hb⟩:=G;refine⟨η,I,h,.none,rfl,trivial,V,V,?_,i_,V,λenv2 w E u=>?_⟩
    .intro s' he;simp only[EV.wm,q0]at he;subst he;exact .inr ⟨n,EC M,h?⟩
    .have C:=(w.ev (x:=x) (λs h=>EC h)).nh A;have e2:=w.val (x:=i) (λs h=>Ey h);have B:=(w.bp n (EC M) s h?).nat F;rw[J]at B;simp only[AE.wp,C,e2,κ,B,Ax];exact⟨η,I,u⟩
  .rename_i s F r k j A κ;cases J:O.nat s F with
   |none=>rw[J]at h;exact h.elim|some es=>
    rw [J]at h;simp only[Ax]at h;obtain⟨η,fs,I,R,h⟩:=h
    try simp only[A,κ,J]
    have G:∃n∈x.sl,O.get n=.nh s F (.rw r):=by
     cases x with
     |c t=>simp[AG.ev]at A|s n=>exact⟨n,e!,A⟩
    obtain ⟨n,M,hb⟩:=G;refine⟨η,fs,I,R,h,.none,rfl,trivial,V,V,?_,i_,V,λenv2 w E u=>?_⟩
    .intro s' he;simp only[EV.wm,q0]at he;subst he;exact .inr ⟨n,EC M,h?⟩
    .have C:=(w.ev (x:=x) (λs h=>EC h)).nh A;have e2:=w.val (x:=i) (λs h=>Ey h);have B:=(w.bp n (EC M) s h?).nat F;rw[J]at B;simp only[AE.wp,C,e2,κ,B,Ax];exact⟨η,fs,I,R,u⟩
  .exact h.elim
 |lac x=>
  simp only[AE.wp]at h|-;split at h
  .rename_i s F A;split at h
   .rename_i p J
    try simp only[A,J]
    have G:∃n∈x.sl,O.get n=.bp s F:=by
     cases x with
     |c t=>simp[AG.ev]at A|s n=>exact⟨n,e!,A⟩
    obtain ⟨n,M,hb⟩:=G;refine⟨h,.none,rfl,trivial,V,V,?_,i_,V,λenv2 w E u=>?_⟩
    .intro s' he;simp only[EV.wm,q0]at he;subst he;exact .inr ⟨n,M,h?⟩
    .have C:=(w.ev (x:=x) (λs h=>h)).bp A;have B:=(w.bp n M s h?).sx (Y F);rw[J]at B;simp only[AE.wp,C,B];exact u
   .exact h.elim
  .exact h.elim
 |ctk _=>cases H
 |cpt _ _=>cases H
 |cut _ _ _=>cases H
 |Aa9 _ _ _ _=>cases H
 |AaV g xs=>
  simp only[AE.wp]at h|-;cases D:Go.Sf.vals O xs with
  |none=>rw[D]at h;exact h.elim|some P=>
   rw [D]at h;simp only[Ax]at h|-;obtain⟨r,C,B⟩:=h;refine⟨r,C,BH B rfl rfl λenv2 w E u=>?_⟩;simp only[AE.wp,w.vals (xs:=xs) (λs h=>h),D,Ax];exact⟨r,C,u⟩
 |zt _ _ _=>cases H
 |AaE g xs=>
  simp only[AE.wp]at h|-;cases D:Go.Sf.Aaj O xs with
  |none=>rw[D]at h;exact h.elim|some P=>
   rw [D]at h;simp only[Ax]at h|-;obtain⟨r,C,B⟩:=h;refine⟨r,C,λQ=>BH (B Q) rfl (by cases r<;>rfl) λenv2 w E u=>?_⟩;simp only[AE.wp,w.Aaj (xs:=xs) (λs h=>h),D,Ax];exact⟨r,C,λ_=>u⟩
 |AaW ζ x=>
  simp only[AE.wp]at h|-;split at h
  .rename_i t d A
   try simp only[A]
   cases D:FB ζ t.cells with
   |none=>rw[D]at h;exact h.elim|some cs=>
    rw [D]at h;simp only[Ax]at h|-;refine⟨h.1,h.2,.none,rfl,trivial,V,V,(λs he=>o1),λ_=>⟨rfl,λδ hd=>?_⟩,V,λenv2 w E u=>?_⟩
    .simp only[q0]at hd;subst hd;exact h.1
    .simp only[AE.wp,w.val (x:=x) (λs h=>h),A,D,Ax];exact⟨w.new rfl _ rfl h.1,u⟩
  .exact h.elim
 |xia x i n=>
  simp only[AE.wp]at h|-;cases A:x.wl O with
  |none=>rw[A]at h;exact h.elim|some p=>
   rw [A]at h;simp only[Ax]at h|-;split at h
   .rename_i ik j κ
    try simp only[κ]
    obtain ⟨⟨C,B⟩,I,R,h5⟩:=h;have G:∃n∈x.sl,(O.get n).wm=Y p.1.1:=by
     cases x with
     |c t=>simp[AG.ev,EV.wm]at C|s n=>exact⟨n,e!,C⟩
    obtain ⟨m,hm',hr⟩:=G;refine⟨⟨C,B⟩,I,R,h5,.none,rfl,trivial,V,V,?_,i_,V,λenv2 w E u=>?_⟩
    .intro s' he;simp only[EV.wm,q0]at he;subst he;exact .inr ⟨m,EC hm',hr⟩
    .have e1:=w.wl (x:=x) (λs h=>EC h);have e2:=w.val (x:=i) (λs h=>Ey h);have e3:=(w.ev (x:=x) (λs h=>EC h)).wm;simp only[AE.wp,e1,A,e2,κ,Ax,e3,C];exact⟨⟨trivial,B⟩,I,R,u⟩
   .exact h.elim
 |xfa x k=>
  simp only[AE.wp]at h|-;split at h
  .rename_i q i c A;split at h
   .rename_i p J
    try simp only[A,J]
    have G:∃n∈x.sl,O.get n=.lp q i c:=by
     cases x with
     |c t=>simp[AG.ev]at A|s n=>exact⟨n,e!,A⟩
    obtain ⟨n,M,hb⟩:=G;refine⟨h,.none,rfl,trivial,V,V,?_,i_,V,λenv2 w E u=>?_⟩
    .intro s' he;simp only[EV.wm,q0]at he;subst he;exact .inr ⟨n,M,h?⟩
    .have C:=(w.ev (x:=x) (λs h=>h)).Abs (q:=q) (by rw[A];rfl);have B:=(w.bp n M q h?).sx i;rw[J]at B;simp only[AE.wp,C,A,B];exact u
   .exact h.elim
  .exact h.elim
 |xld x=>
  simp only[AE.wp]at h|-;split at h
  .rename_i q i c A;split at h
   .rename_i p J
    try simp only[A,J]
    cases D:(p.2.flatMap TV.cells)[c]? with
    |none=>rw[D]at h;exact h.elim|some t=>
     rw [D]at h;simp only[Ax]at h|-;have G:∃n∈x.sl,O.get n=.lp q i c:=by
      cases x with
      |c t=>simp[AG.ev]at A|s n=>exact⟨n,e!,A⟩
     obtain ⟨n,M,hb⟩:=G;refine BH h rfl rfl λenv2 w E u=>?_;have C:=(w.ev (x:=x) (λs h=>h)).Abs (q:=q) (by rw[A];rfl);have B:=(w.bp n M q h?).sx i;rw[J]at B;simp only[AE.wp,C,A,B,D,Ax];exact u
   .exact h.elim
  .exact h.elim
 |xst _ _ _=>cases H
 |rel _=>cases H
 |Aa4 _=>cases H
 |tkx _=>cases H
 |AaY _ _ _=>cases H
 |Aax g xs=>
  simp only[AE.wp]at h|-;split at h
  .rename_i d;obtain⟨N,h⟩:=h;refine⟨N,?_⟩;cases D:Go.Sf.vals O xs with
   |none=>rw[D]at h;exact h.elim|some P=>
    rw [D]at h;simp only[Ax]at h|-;obtain⟨n,es,C,B⟩:=h;refine⟨n,es,C,λQ=>⟨B Q,.none,rfl,trivial,V,V,(λs he=>o1),λ_=>⟨rfl,λδ hd=>?_⟩,V,λenv2 w E u=>?_⟩⟩
    .simp only[q0]at hd;subst hd;exact N
    .simp only[AE.wp,w.vals (xs:=xs) (λs h=>h),D,Ax];exact⟨w.new rfl _ rfl N,n,es,C,λ_=>u⟩
  .exact h.elim
 |mkx n z x=>
  simp only[AE.wp]at h|-;split at h
  .rename_i d k j A
   try simp only[A]
   obtain ⟨N,C,B,I⟩:=h;refine⟨N,C,B,I,.none,rfl,trivial,V,V,(λs he=>o1),λ_=>⟨rfl,λδ hd=>?_⟩,V,λenv2 w E u=>?_⟩
   .simp only[q0]at hd;subst hd;exact N
   .simp only[AE.wp,w.val (x:=x) (λs h=>h),A];exact⟨w.new rfl _ rfl N,C,B,u⟩
  .exact h.elim
 |Aas _ _ _=>cases H
 |AaI _ _=>cases H
 |Aah _=>cases H
 |Abb _=>cases H
 |AaA _ _=>cases H
 |nst _ _=>cases H
 |Abk _=>cases H
 |AaD _ _ _=>cases H
 |ldg _ _=>cases H
 |stq _ _ _ _=>cases H
 |mkm=>cases H
 |mvm _=>cases H
 |Aaw _ _=>cases H
 |mlk _ _ _=>cases H
 |mup _ _ _ _=>cases H
 |sR _ _=>cases H
 |mnx _=>cases H
 |men _=>cases H
 |Aba _=>cases H
 |stx _ _ _=>cases H
 |isn _=>cases H
 |AaU g xs=>
  simp only[AE.wp]at h|-;cases D:Go.Sf.vals O xs with
  |none=>rw[D]at h;exact h.elim|some P=>
   rw [D]at h;simp only[Ax]at h|-;obtain⟨r,C,B⟩:=h;refine⟨r,C,λQ=>BH (B Q) rfl rfl λenv2 w E u=>?_⟩;simp only[AE.wp,w.vals (xs:=xs) (λs h=>h),D,Ax];exact⟨r,C,λ_=>u⟩
 |Aar g xs=>
  simp only[AE.wp]at h|-;cases D:Go.Sf.vals O xs with
  |none=>rw[D]at h;exact h.elim|some P=>
   rw [D]at h;simp only[Ax]at h|-;obtain⟨r,C,I,B⟩:=h;refine⟨r,C,I,λQ=>BH (B Q) rfl rfl λenv2 w E u=>?_⟩;simp only[AE.wp,w.vals (xs:=xs) (λs h=>h),D,Ax];exact⟨r,C,I,λ_=>u⟩
 |Abi x k n agg=>
  simp only[AE.wp]at h|-;split at h
  .rename_i cs A
   try simp only[A]
   obtain ⟨C,B⟩:=h;refine⟨C,?_⟩;cases agg with
   |true=>
    simp only[if_true]at B|-;refine BH B rfl rfl λenv2 w E u=>?_;simp only[AE.wp,w.val (x:=x) (λs h=>h),A,if_true];exact⟨C,u⟩
   |false=>
    simp only[Bool.false_eq_true,if_false]at B|-;cases D:IK (cs.drop k)with
    |none=>rw[D]at B;exact B.elim|some t=>
     rw [D]at B;simp only[Ax]at B|-;refine BH B rfl rfl λenv2 w E u=>?_;simp only[AE.wp,w.val (x:=x) (λs h=>h),A,Bool.false_eq_true,if_false,D,Ax];exact⟨C,u⟩
  .exact h.elim
end
end Go.Sf
