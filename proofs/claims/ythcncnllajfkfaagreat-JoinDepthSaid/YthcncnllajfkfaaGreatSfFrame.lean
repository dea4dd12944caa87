/- What an operation leans on: the slots that it reads, whether or not they own their lists. -/
import Derived.Test.YthcncnllajfkfaaGreatSfCode
set_option linter.all false
open Option renaming some->Y,none->W
open Bool renaming true->X,false->T
open List renaming map_map->w_,getElem?_map->w!,mem_append->w?,map_drop->x_
namespace Go.Sf
theorem tE{cs ds:List AR}(h:ds.map AR.key=cs.map AR.key):ds.map (·.t)=cs.map (·.t):=by
 have:=congrArg (List.map Prod.fst) h;simpa[w_,Function.comp_def,AR.key]using this
def jD(p:TV×Bool):TV:=match p with
 |(.xl n es,X)=>.list n es|p=>p.1
theorem eV{cs ds:List AR}(h:ds.map AR.key=cs.map AR.key):ds.map AR.Abq=cs.map AR.Abq:=by
 have a:∀c:AR,c.Abq=jD c.key:=by
  rintro ⟨_|_,t⟩<;>cases t<;>rfl
 have:=congrArg (List.map jD) h;simpa[w_,Function.comp_def,<-a]using this
def AAt(p:TV×Bool):Option (Nat×Fq):=match p with
 |(.xl n es,X)=>Y (n,es)|_=>W
theorem xI{cs ds:List AR}(h:ds.map AR.key=cs.map AR.key)(k:Nat):(match ds[k]? with
  |some ⟨X,.xl n es⟩=>Y (n,es)|_=>W)=(match cs[k]? with
  |some ⟨X,.xl n es⟩=>Y (n,es)|_=>W):=by
 have a:∀o:Option AR,(match o with
  |some ⟨X,.xl n es⟩=>Y (n,es)|_=>W)=(o.map AR.key).bind AAt:=by
  rintro (_|⟨_|_,t⟩)
  .rfl
  .cases t<;>rfl
  .cases t<;>rfl
 rw [a,a];have:=congrArg (λl=>l[k]?) h;simp only[w!]at this;rw[this]
def AAu(p:TV×Bool):Option Fq:=match p with
 |(.xn es,X)=>Y es|_=>W
theorem xJ{cs ds:List AR}(h:ds.map AR.key=cs.map AR.key)(k:Nat):(match ds[k]? with
  |some ⟨X,.xn es⟩=>Y es|_=>W)=(match cs[k]? with
  |some ⟨X,.xn es⟩=>Y es|_=>W):=by
 have a:∀o:Option AR,(match o with
  |some ⟨X,.xn es⟩=>Y es|_=>W)=(o.map AR.key).bind AAu:=by
  rintro (_|⟨_|_,t⟩)
  .rfl
  .cases t<;>rfl
  .cases t<;>rfl
 rw [a,a];have:=congrArg (λl=>l[k]?) h;simp only[w!]at this;rw[this]
def EV.like(e e2:EV):Prop:=
 e2=e\/(∃n es,(e=.tv (.list n es)/\e2=.ow (.list n es))\/(e=.ow (.list n es)/\e2=.tv (.list n es)))\/∃cs ds,e=.bx cs/\e2=.bx ds/\ds.map AR.key=cs.map AR.key
theorem EV.like.rfl'(e:EV):e.like e:=.inl rfl
variable{e e2:EV}
theorem EV.like.symm(h:e.like e2):e2.like e:=by
 rcases h with rfl|⟨n,es,⟨rfl,rfl⟩|⟨rfl,rfl⟩⟩|⟨cs,ds,rfl,rfl,h⟩
 .exact .inl rfl
 .exact .inr (.inl ⟨n,es,.inr ⟨rfl,rfl⟩⟩)
 .exact .inr (.inl ⟨n,es,.inl ⟨rfl,rfl⟩⟩)
 .exact .inr (.inr ⟨ds,cs,rfl,rfl,h.symm⟩)
theorem EV.like.ref(h:e.like e2):e2.ref=e.ref:=by
 rcases h with rfl|⟨n,es,⟨rfl,rfl⟩|⟨rfl,rfl⟩⟩|⟨cs,ds,rfl,rfl,h⟩<;>rfl
variable{q:Nat}
theorem EV.like.AbH(h:e.like e2)(hr:e.ref=Y q):e2=e:=by
 rcases h with rfl|⟨n,es,⟨rfl,rfl⟩|⟨rfl,rfl⟩⟩|⟨cs,ds,rfl,rfl,h⟩
 .rfl
 .cases hr
 .cases hr
 .cases hr
theorem EV.like.xo(h:e.like e2){n:Nat}{es:Fq}(he:e=.xo n es):e2=.xo n es:=by
 subst he;rcases h with rfl|⟨n,es,⟨h,_⟩|⟨h,_⟩⟩|⟨cs,ds,h,_⟩
 .rfl
 .cases h
 .cases h
 .cases h
theorem EV.like.val(h:e.like e2):e2.val=e.val:=by
 rcases h with rfl|⟨n,es,⟨rfl,rfl⟩|⟨rfl,rfl⟩⟩|⟨cs,ds,rfl,rfl,h⟩<;>rfl
theorem EV.like.pt(h:e.like e2){row:Fq}(he:e=.tv (.pt row)):e2=.tv (.pt row):=by
 subst he;rcases h with rfl|⟨n,es,⟨h,rfl⟩|⟨h,rfl⟩⟩|⟨cs,ds,h,rfl,a⟩
 .rfl
 .simp at h
 .cases h
 .cases h
theorem EV.like.bp(h:e.like e2){q a:Nat}(he:e=.bp q a):e2=.bp q a:=by
 subst he;rcases h with rfl|⟨n,es,⟨h,rfl⟩|⟨h,rfl⟩⟩|⟨cs,ds,h,rfl,b⟩
 .rfl
 .cases h
 .cases h
 .cases h
theorem EV.like.tp(h:e.like e2){a:Fq}(he:e=.tp a):e2=.tp a:=by
 subst he;rcases h with rfl|⟨n,es,⟨h,rfl⟩|⟨h,rfl⟩⟩|⟨cs,ds,h,rfl,b⟩
 .rfl
 .cases h
 .cases h
 .cases h
theorem EV.like.bx(h:e.like e2){cs:List AR}(he:e=.bx cs):∃ds,e2=.bx ds/\ds.map AR.key=cs.map AR.key:=by
 subst he;rcases h with rfl|⟨n,es,⟨h,rfl⟩|⟨h,rfl⟩⟩|⟨cs',ds,h,rfl,a⟩
 .exact⟨cs,rfl,rfl⟩
 .cases h
 .cases h
 .simp only[EV.bx.injEq]at h;subst h;exact⟨ds,rfl,a⟩
def AH.sl:AH->QQ
 |.s n=>[n]|.c _=>[]
def Ym:Option AH->QQ
 |some x=>x.sl|none=>[]
def Gm:List AH->QQ
 |[]=>[]|x::xs=>x.sl++Gm xs
def Wd:List (Nat×Nat×AH)->QQ
 |[]=>[]|x::xs=>x.2.2.sl++Wd xs
def AE.slots:AE->QQ
 |.mv x=>x.sl|.tk s=>[s]|.Abz _=>[]|.fad x _=>x.sl|.bad s _=>[s]|.iad x i _=>x.sl++i.sl|.aad x i _ _=>x.sl++i.sl|.ld x=>x.sl|.lda x _=>x.sl|.ldb s _=>[s]|.ldt x=>x.sl|.bin _ _ x y=>x.sl++y.sl|.not x=>x.sl|.neg x=>x.sl|.pick c a b=>c.sl++(a.sl++b.sl)|.len x=>x.sl|.AbL x=>x.sl|.slc _ x lo hi=>x.sl++(Ym lo++Ym hi)|.Aam x lo hi=>x.sl++(Ym lo++Ym hi)|.bld _ ps=>Wd ps|.lst _ ps=>Gm ps|.app _ x y=>x.sl++y.sl|.call _ xs=>Gm xs|.Abm x xs=>x.sl++Gm xs|.clo _ xs=>Gm xs|.ext x _=>x.sl|.cvt _ x=>x.sl|.AaB x i=>x.sl++i.sl|.Abr x=>x.sl|.AbB x=>x.sl|.mm _ x y=>x.sl++y.sl|.alc _=>[]|.st _ x v=>x.sl++v.sl|.stb _ s v=>s::v.sl|.frz s=>[s]|.AbA x _ _ _=>x.sl|.xal s=>[s]|.Abx x=>x.sl|.xia x i _=>x.sl++i.sl|.xfa x _=>x.sl|.xld x=>x.sl|.xst x v _=>x.sl++v.sl|.rel s=>[s]|.Abk _=>[]|.Abl _=>[]|.tkx s=>[s]|.Aba _ s y=>s::y.sl|.AaL _ xs=>Gm xs|.mkx _ _ x=>x.sl|.AaG _ x ys=>x.sl++Gm ys|.Aa2 _ x=>x.sl|.Aao gs=>gs.flatMap GC.sl|.stx _ s q=>[s,q]|.Aa7 _ xs=>Gm xs|.AaE _ xs=>Gm xs|.isn x=>x.sl|.fdv x _=>x.sl|.ldv x _=>x.sl|.lac x=>x.sl|.ctk x=>x.sl|.cpt x q=>x.sl++[q]|.cut _ s hi=>s::hi.sl|.AaQ _ xs=>Gm xs|.Abh _ x=>x.sl|.Abo _ s _ x=>s::x.sl|.Aa8 _ xs=>Gm xs|.AaA _ xs _=>Gm xs|.Abs q=>[q]|.AaO s q=>[s,q]|.lan x=>x.sl|.nia x i=>x.sl++i.sl|.nld x=>x.sl|.nst x v=>x.sl++v.sl|.AbG q=>[q]|.AaP _ xs _=>Gm xs|.ldg s _=>[s]|.stq _ _ x v=>x.sl++v.sl|.mkm=>[]|.mvm s=>[s]|.AaI _ xs=>Gm xs|.mlk s m x=>s::(m.sl++x.sl)|.mup s m x v=>s::(m.sl++(x.sl++v.sl))|.x6 s m=>s::m.sl|.mnx s=>[s]|.men s=>[s]
def AE.dem:AE->QQ
 |.tk s=>[s]|.app _ x _=>x.sl|_=>[]
def AE.mov:AE->Bool
 |.st ..=>T|.stb ..=>T|.frz _=>T|.xst ..=>T|.rel _=>T|.Abk _=>T|.Abl _=>T|.tkx _=>T|.Aba ..=>T|.AaG ..=>T|.Aa2 ..=>T|.Aao _=>T|.stx ..=>T|.isn _=>T|.ctk _=>T|.cpt ..=>T|.cut ..=>T|.Abo ..=>T|.AaA ..=>T|.Abs _=>T|.AaO ..=>T|.nst ..=>T|.AbG _=>T|.AaP ..=>T|.ldg ..=>T|.stq ..=>T|.mkm=>T|.mvm _=>T|.AaI ..=>T|.mlk ..=>T|.mup ..=>T|.x6 ..=>T|.mnx _=>T|.men _=>T|_=>X
def AE.t5:AE->Bool
 |.alc _=>X|.AbB _=>X|.Abh ..=>X|.AaL ..=>X|.mkx ..=>X|_=>T
def AE.Aa6:AE->QQ
 |.bad s _=>[s]|.xal s=>[s]|_=>[]
inductive BV where
 |none
 |slot (s:Nat) (t:TV)
 |cell (s off:Nat) (t:TV)
def BV.app:BV->AB->AB
 |.none,O=>O|.slot s t,O=>(s,.tv t)::O|.cell s off t,O=>match O.get s with
  |.bx cs=>(s,.bx (cs.set off ⟨T,t⟩))::O|_=>O
def BV.ok:BV->AB->Prop
 |.none,_=>True|.slot s t,O=>O.get s=.ow t|.cell s off t,O=>∃cs,O.get s=.bx cs/\cs[off]?=Y ⟨X,t⟩
structure Es(op:AE)(f:BV)(dst:Option Nat)(O env2:AB):Prop where
 sl:∀s∈op.slots,(O.get s).like (env2.get s)
 bp:∀s∈op.slots,∀q,(O.get s).ref=Y q->(O.get q).like (env2.get q)
 dem:∀s∈op.dem,(∀cs,O.get s≠.bx cs)->env2.get s=O.get s
 eff:f.ok env2
 new:op.t5=X->∀d,dst=Y d->O.ij d=X->env2.ij d=X
section
variable{op:AE}{f:BV}{dst:Option Nat}{O env2:AB}
variable{x:AH}
theorem Es.val(h:Es op f dst O env2)(a:∀s∈x.sl,s∈op.slots):x.val env2=x.val O:=by
 cases x with
 |c t=>rfl|s n=>exact(h.sl n (a n e_)).val
theorem Es.ev(h:Es op f dst O env2)(a:∀s∈x.sl,s∈op.slots):(x.ev O).like (x.ev env2):=by
 cases x with
 |c t=>exact .inl rfl|s n=>exact h.sl n (a n e_)
theorem Es.vals(h:Es op f dst O env2):∀{xs:List AH},(∀s∈Gm xs,s∈op.slots)->Go.Sf.vals env2 xs=Go.Sf.vals O xs
 |[],_=>rfl|x::xs,b=>by
  simp only[Gm,w?]at b;simp only[Go.Sf.vals,h.val (x:=x) (λs a=>b s (.inl a)),h.vals (xs:=xs) (λs a=>b s (.inr a))]
theorem Es.parts(h:Es op f dst O env2):∀{xs:List (Nat×Nat×AH)},(∀s∈Wd xs,s∈op.slots)->Hg env2 xs=Hg O xs
 |[],_=>rfl|(i,n,x)::xs,b=>by
  simp only[Wd,w?]at b;simp only[Hg,h.val (x:=x) (λs a=>b s (.inl a)),h.parts (xs:=xs) (λs a=>b s (.inr a))]
theorem Es.bnd(h:Es op f dst O env2){x:Option AH}{k:Int}(a:∀s∈Ym x,s∈op.slots):H8 env2 k x=H8 O k x:=by
 cases x with
 |none=>rfl|some x=>exact h.val a
theorem Es.addr(h:Es op f dst O env2)(i:∀s∈x.sl,s∈op.slots):BS env2 (x.ev env2)=BS O (x.ev O):=by
 cases x with
 |c t=>cases t<;>rfl
 |s n=>
  have g:=i n e_;have a:=h.sl n g;have hb:=h.bp n g;simp only[AH.ev];generalize O.get n=e at a hb;generalize env2.get n=e2 at a;rcases a with rfl|⟨n,es,⟨rfl,rfl⟩|⟨rfl,rfl⟩⟩|⟨cs,ds,rfl,rfl,d⟩
  .cases e2 with
   |bp q j=>
    have b:=hb q rfl;simp only[BS];generalize O.get q=e1 at b;generalize env2.get q=e2 at b;rcases b with rfl|⟨n,es,⟨rfl,rfl⟩|⟨rfl,rfl⟩⟩|⟨cs,ds,rfl,rfl,d⟩
    .rfl
    .rfl
    .rfl
    .simp only[x_,tE d]
   |tv t=>cases t<;>rfl
   |_=>rfl
  .rfl
  .rfl
  .simp only[BS,tE d]
theorem Es.place(h:Es op f dst O env2)(d:∀s∈x.sl,s∈op.slots):x.place env2=x.place O:=by
 cases x with
 |c t=>rfl|s n=>
  have g:=h.sl n (d n e_);simp only[AH.place];rcases g with a|⟨n,es,⟨a,b⟩|⟨a,b⟩⟩|⟨cs,ds,a,b,_⟩
  .rw[a]
  .rw[a,b]
  .rw[a,b]
  .rw[a,b]
variable{q:Nat}
theorem EV.like.wi{O env2:AB}(h:(O.get q).like (env2.get q))(i:Option Nat):env2.wi q i=O.wi q i:=by
 rcases h with a|⟨n,es,⟨a,b⟩|⟨a,b⟩⟩|⟨cs,ds,a,b,c⟩
 .exact AB.Aaq a
 .cases i<;>simp only[AB.wi,a,b]
 .cases i<;>simp only[AB.wi,a,b]
 .cases i with
  |none=>simp only[AB.wi,a,b]|some k=>simp only[AB.wi,a,b];exact xI c k
theorem EV.like.nat{O env2:AB}(h:(O.get q).like (env2.get q))(i:Nat):env2.nat q i=O.nat q i:=by
 rcases h with a|⟨n,es,⟨a,b⟩|⟨a,b⟩⟩|⟨cs,ds,a,b,c⟩
 .exact AB.Aaz a
 .simp only[AB.nat,a,b]
 .simp only[AB.nat,a,b]
 .simp only[AB.nat,a,b];exact xJ c i
variable{e e2:EV}
theorem EV.like.nh(h:e.like e2){q i:Nat}{k:NK}(he:e=.nh q i k):e2=.nh q i k:=by
 subst he;exact h.AbH rfl
theorem Es.z5(h:Es op f dst O env2)(g:∀s∈x.sl,s∈op.slots):x.z5 env2=x.z5 O:=by
 cases x with
 |c t=>rfl|s n=>
  have d:=g n e_;have j:=h.sl n d;have hb:=h.bp n d;simp only[AH.z5];rcases j with a|⟨m,es,⟨a,b⟩|⟨a,b⟩⟩|⟨cs,ds,a,b,_⟩
  .rw[a];cases he:O.get n with
   |la q i=>simp only[(hb q (by rw[he];rfl)).wi i]|_=>rfl
  .rw[a,b]
  .rw[a,b]
  .rw[a,b]
theorem Es.AbC(h:Es op f dst O env2)(i:∀s∈x.sl,s∈op.slots):x.AbC env2=x.AbC O:=by
 unfold AH.AbC;rw[h.z5 i];cases x.z5 O with
 |some p=>rfl|none=>
  cases x with
  |c t=>cases t<;>rfl
  |s n=>
   have j:=i n e_;have k:=h.sl n j;have hb:=h.bp n j;simp only[AH.ev];rcases k with a|⟨m,es,⟨a,d⟩|⟨a,d⟩⟩|⟨cs,ds,a,d,r⟩
   .rw[a];cases he:O.get n with
    |bp q v=>
     have o:=hb q (by rw[he];rfl);simp only;rcases o with b|⟨m,es,⟨b,g⟩|⟨b,g⟩⟩|⟨cs,ds,b,g,u⟩
     .rw[b]
     .rw[b,g]
     .rw[b,g]
     .rw[b,g];have:=eV u;simp only[x_,this]
    |_=>rfl
   .rw[a,d];rfl
   .rw[a,d];rfl
   .rw[a,d];simp only[eV r]
theorem Es.Aax(h:Es op f dst O env2):∀{xs:List AH},(∀s∈Gm xs,s∈op.slots)->Go.Sf.Aax env2 xs=Go.Sf.Aax O xs
 |[],_=>rfl|x::xs,b=>by
  simp only[Gm,w?]at b;simp only[Go.Sf.Aax,h.AbC (x:=x) (λs a=>b s (.inl a)),h.Aax (xs:=xs) (λs a=>b s (.inr a))]
end
structure mJ(S:FuncId->Fq->A9->Prop)(op:AE)(dst:Option Nat)(O:AB)(e:EV)(env':AB)(f:BV):Prop where
 env':env'=f.app O
 ok:f.ok O
 slot:∀s t,f=.slot s t->s∈op.dem
 cell:∀s off t,f=.cell s off t->(s∈op.slots\/∃x∈op.slots,(O.get x).ref=Y s)
 ref:∀s,e.ref=Y s->(s∈op.Aa6\/∃x∈op.slots,(O.get x).ref=Y s)
 new:op.t5=X->e.ref=W/\∀d,dst=Y d->O.ij d=X
 xl:∀s off t,f=.cell s off t->t.AaN=T
 again:∀env2,Es op f dst O env2->∀K2:EV->AB->Prop,K2 e (f.app env2)->op.wp S env2 dst K2
section
variable{S:FuncId->Fq->A9->Prop}{op:AE}{dst:Option Nat}{O:AB}{K:EV->AB->Prop}
variable{e:EV}
theorem BJ(b:K e O)(c:op.t5=T)(hr:e.ref=W)(h:∀env2,Es op .none dst O env2->∀a:EV->AB->Prop,a e env2->op.wp S env2 dst a):K e O/\∃f,mJ S op dst O e O f:=
 ⟨b,.none,rfl,trivial,V,V,(λs he=>by rw[hr]at he;cases he),by simp[c],V,h⟩
variable{α:Type}{l m:List α}
theorem Eg{x:α}(h:x∈m):x∈l++m:=List.mem_append_right _ h
theorem D4{x:α}(h:x∈l):x∈l++m:=List.mem_append_left _ h
theorem frame(H:op.mov=X)(h:op.wp S O dst K):op.wp S O dst λe env'=>K e env'/\∃f,mJ S op dst O e env' f:=by
 cases op with
 |mv x=>
  simp only[AE.wp]at h|-;have key:∀t,(x.ev O).val=Y t->∀env2,Es (.mv x) .none dst O env2->∀E:EV->AB->Prop,E (.tv t) env2->(AE.mv x).wp S env2 dst E:=by
   intro t Z env2 w E u;have hv:=w.val (x:=x) (λs h=>h);simp only[AH.val]at hv;rw[Z]at hv;simp only[AE.wp];cases he:x.ev env2<;>rw[he]at hv<;>simp[EV.val]at hv<;>subst hv<;>exact u
  split at h
  .rename_i t A
   try simp only[A]
   exact BJ h rfl rfl (key t (by rw[A];rfl))
  .rename_i t A
   try simp only[A]
   exact BJ h rfl rfl (key t (by rw[A];rfl))
  .rename_i P A
   try simp only[A]
   refine BJ h rfl rfl λenv2 w E u=>?_;cases x with
   |c t=>simp[AH.ev]at A|s n=>
    simp only[AH.ev]at A;have B:env2.get n=.tp P:=(w.sl n (by simp[AE.slots,AH.sl])).tp A;simp only[AE.wp,AH.ev,B];exact u
  .exact h.elim
 |tk s=>
  simp only[AE.wp]at h|-;split at h
  .rename_i t L
   try simp only[L]
   refine ⟨h,.slot s t,rfl,L,?_,V,(λs he=>o_),h!,V,λenv2 w E u=>?_⟩
   .intro s' t' he;simp only[BV.slot.injEq]at he;simp[AE.dem,he.1]
   .have:=w.eff;simp only[BV.ok]at this;simp only[AE.wp,this];exact u
  .rename_i t L
   try simp only[L]
   refine BJ h rfl rfl λenv2 w E u=>?_;have:=w.dem s (by simp[AE.dem]) (by simp[L]);simp only[AE.wp,this,L];exact u
  .exact h.elim
 |Abz n=>exact BJ h rfl rfl λenv2 w E u=>u|fad x k=>
  simp only[AE.wp]at h|-;split at h
  .rename_i row A
   try simp only[A]
   refine BJ h rfl rfl λenv2 w E u=>?_;have:=(w.ev (x:=x) (λs h=>h)).pt A;simp only[AE.wp,this];exact u
  .rename_i s F A;split at h
   .rename_i cs L
    try simp only[A,L]
    have G:∃n∈x.sl,O.get n=.bp s F:=by
     cases x with
     |c t=>simp[AH.ev]at A|s n=>exact⟨n,e_,A⟩
    obtain ⟨n,M,hb⟩:=G;refine⟨h,.none,rfl,trivial,V,V,?_,h!,V,λenv2 w E u=>?_⟩
    .intro s' he;simp only[EV.ref,tl]at he;subst he;exact .inr ⟨n,M,h_⟩
    .have C:=(w.ev (x:=x) (λs h=>h)).bp A;have B:=w.bp n M s h_;rw[L]at B;obtain⟨ds,I,_⟩:=B.bx rfl;simp only[AE.wp,C,I];exact u
   .exact h.elim
  .exact h.elim
 |bad s k=>
  simp only[AE.wp]at h|-;split at h
  .rename_i cs L
   try simp only[L]
   refine ⟨h,.none,rfl,trivial,V,V,?_,h!,V,λenv2 w E u=>?_⟩
   .intro s' he;simp only[EV.ref,tl]at he;exact .inl (by simp[AE.Aa6,he])
   .have B:=w.sl s f?;rw[L]at B;obtain⟨ds,I,_⟩:=B.bx rfl;simp only[AE.wp,I];exact u
  .rename_i row L
   try simp only[L]
   refine BJ h rfl rfl λenv2 w E u=>?_;have:=(w.sl s f?).pt L;simp only[AE.wp,this];exact u
  .exact h.elim
 |iad x i n=>
  simp only[AE.wp]at h|-;split at h
  .rename_i m es k j A hi
   try simp only[A,hi]
   obtain ⟨C,B,e,I,R⟩:=h;refine⟨C,B,e,I,BJ R rfl rfl λenv2 w E u=>?_⟩;simp only[AE.wp,w.val (x:=x) (λs h=>D4 h),w.val (x:=i) (λs h=>Eg h),A,hi];exact⟨C,B,e,I,u⟩
  .exact h.elim
 |aad x i n k=>
  simp only[AE.wp]at h|-;split at h
  .rename_i row kk j A hi
   try simp only[A,hi]
   obtain ⟨C,B,I,R⟩:=h;refine⟨C,B,I,BJ R rfl rfl λenv2 w E u=>?_⟩;have:=(w.ev (x:=x) (λs h=>D4 h)).pt A;simp only[AE.wp,this,w.val (x:=i) (λs h=>Eg h),hi];exact⟨C,B,I,u⟩
  .exact h.elim
 |ld x=>
  simp only[AE.wp]at h|-;cases D:BS O (x.ev O)with
  |none=>rw[D]at h;exact h.elim|some cs=>
   rw [D]at h;simp only[Ay]at h|-;cases hf:Hy cs with
   |none=>rw[hf]at h;exact h.elim|some t=>
    rw [hf]at h;refine⟨h.1,BJ h.2 rfl rfl λenv2 w E u=>?_⟩;simp only[AE.wp,w.addr (x:=x) (λs h=>h),D,Ay,hf];exact⟨h.1,u⟩
 |lda x n=>
  simp only[AE.wp]at h|-;cases D:BS O (x.ev O)with
  |none=>rw[D]at h;exact h.elim|some cs=>
   rw [D]at h;simp only[Ay]at h|-;refine⟨h.1,BJ h.2 rfl rfl λenv2 w E u=>?_⟩;simp only[AE.wp,w.addr (x:=x) (λs h=>h),D,Ay];exact⟨h.1,u⟩
 |ldb s n=>
  simp only[AE.wp]at h|-;split at h
  .rename_i cs D
   try simp only[D]
   refine ⟨h.1,BJ h.2 rfl rfl λenv2 w E u=>?_⟩;have C:=w.addr (x:=.s s) (λs h=>h);obtain⟨ds,I,_⟩:=(w.sl s f?).bx D;simp only[AH.ev,D,I,BS,tl]at C;simp only[AE.wp,I,C];exact⟨h.1,u⟩
  .exact h.elim
 |ldt x=>
  simp only[AE.wp]at h|-;split at h
  .rename_i s F θ;split at h
   .rename_i cs L;split at h
    .rename_i n es D
     try simp only[θ,L,D]
     refine ⟨h,.cell s F (.list n es),by simp[BV.app,L],⟨cs,L,D⟩,V,?_,(λs he=>o_),h!,(λs F t he=>by cases he;rfl),λenv2 w E u=>?_⟩
     .intro s' off' t' he;simp only[BV.cell.injEq]at he;obtain⟨rfl,rfl,rfl⟩:=he;cases x with
      |c t=>simp[AH.place]at θ|s n=>
       simp only[AH.place]at θ;split at θ
       next q o J=>simp only[tl,Prod.mk.injEq]at θ;exact .inr ⟨n,by simp[AE.slots,AH.sl],by rw[J,θ.1];rfl⟩
       .simp only[tl,Prod.mk.injEq]at θ;exact .inl (by simp[AE.slots,AH.sl,θ.1])
       .cases θ
     .obtain⟨ds,C,B⟩:=w.eff;simp only[BV.app,C]at u;simp only[AE.wp,w.place (x:=x) (λs h=>h),θ,C,B];exact u
    .exact h.elim
   .exact h.elim
  .exact h.elim
 |bin k op x y=>
  simp only[AE.wp]at h|-;split at h
  .rename_i a b A ε
   try simp only[A,ε]
   cases hb:NE k op a b with
   |none=>rw[hb]at h;exact h.elim|some t=>
    rw [hb]at h;refine BJ h rfl rfl λenv2 w E u=>?_;simp only[AE.wp,w.val (x:=x) (λs h=>D4 h),w.val (x:=y) (λs h=>Eg h),A,ε,hb,Ay];exact u
  .exact h.elim
 |not x=>
  simp only[AE.wp]at h|-;split at h
  .rename_i b A
   try simp only[A]
   refine BJ h rfl rfl λenv2 w E u=>?_;simp only[AE.wp,w.val (x:=x) (λs h=>h),A];exact u
  .exact h.elim
 |neg x=>
  simp only[AE.wp]at h|-;split at h
  .rename_i k n A
   try simp only[A]
   refine BJ h rfl rfl λenv2 w E u=>?_;simp only[AE.wp,w.val (x:=x) (λs h=>h),A];exact u
  .exact h.elim
 |pick c a b=>
  simp only[AE.wp]at h|-;split at h
  .rename_i q D
   try simp only[D]
   have key:∀t,((if q=X then a else b).ev O).val=Y t->∀env2,Es (.pick c a b) .none dst O env2->∀E:EV->AB->Prop,E (.tv t) env2->(AE.pick c a b).wp S env2 dst E:=by
    intro t Z env2 w E u;have hv:=w.val (x:=if q=X then a else b) (λs h=>by
     cases q
     .exact Eg (Eg h)
     .exact Eg (D4 h))
    simp only[AH.val]at hv;rw[Z]at hv;simp only[AE.wp,w.val (x:=c) (λs h=>D4 h),D];cases he:(if q=X then a else b).ev env2<;>rw[he]at hv<;>simp[EV.val]at hv<;>subst hv<;>exact u
   split at h
   .rename_i t A
    try simp only[A]
    exact BJ h rfl rfl (key t (by rw[A];rfl))
   .rename_i t A
    try simp only[A]
    exact BJ h rfl rfl (key t (by rw[A];rfl))
   .exact h.elim
  .exact h.elim
 |len x=>
  simp only[AE.wp]at h|-;split at h
  .rename_i n es A
   try simp only[A]
   refine BJ h rfl rfl λenv2 w E u=>?_;simp only[AE.wp,w.val (x:=x) (λs h=>h),A];exact u
  .exact h.elim
 |fdv x k=>
  simp only[AE.wp]at h|-;split at h
  .rename_i row A
   try simp only[A]
   refine BJ h rfl rfl λenv2 w E u=>?_;simp only[AE.wp,w.val (x:=x) (λs h=>h),A];exact u
  .exact h.elim
 |ldv x n=>
  simp only[AE.wp]at h|-;split at h
  .rename_i row A
   try simp only[A]
   refine ⟨h.1,BJ h.2 rfl rfl λenv2 w E u=>?_⟩;simp only[AE.wp,w.val (x:=x) (λs h=>h),A];exact⟨h.1,u⟩
  .exact h.elim
 |AbL x=>
  simp only[AE.wp]at h|-;split at h
  .rename_i s A
   try simp only[A]
   refine BJ h rfl rfl λenv2 w E u=>?_;simp only[AE.wp,w.val (x:=x) (λs h=>h),A];exact u
  .exact h.elim
 |slc n x lo hi=>
  simp only[AE.wp]at h|-;split at h
  .rename_i m es A
   try simp only[A]
   split at h
   .rename_i k1 l k2 hh C B
    try simp only[C,B]
    refine ⟨h.1,h.2.1,BJ h.2.2 rfl rfl λenv2 w E u=>?_⟩;simp only[AE.wp,w.val (x:=x) (λs h=>D4 h),A,w.bnd (x:=lo) (λs h=>Eg (D4 h)),w.bnd (x:=hi) (λs h=>Eg (Eg h)),C,B];exact⟨h.1,h.2.1,u⟩
   .exact h.elim
  .exact h.elim
 |Aam x lo hi=>
  simp only[AE.wp]at h|-;split at h
  .rename_i str A
   try simp only[A]
   split at h
   .rename_i k1 l k2 hh C B
    try simp only[C,B]
    refine ⟨h.1,h.2.1,h.2.2.1,BJ h.2.2.2 rfl rfl λenv2 w E u=>?_⟩;simp only[AE.wp,w.val (x:=x) (λs h=>D4 h),A,w.bnd (x:=lo) (λs h=>Eg (D4 h)),w.bnd (x:=hi) (λs h=>Eg (Eg h)),C,B];exact⟨h.1,h.2.1,h.2.2.1,u⟩
   .exact h.elim
  .exact h.elim
 |bld zero ζ=>
  simp only[AE.wp]at h|-;cases D:Hg O ζ with
  |none=>rw[D]at h;exact h.elim|some P=>
   rw [D]at h;simp only[Ay]at h|-;cases hf:Fm zero P with
   |none=>rw[hf]at h;exact h.elim|some cs=>
    rw [hf]at h;refine BJ h rfl rfl λenv2 w E u=>?_;simp only[AE.wp,w.parts (xs:=ζ) (λs h=>h),D,Ay,hf];exact u
 |lst n ζ=>
  simp only[AE.wp]at h|-;cases D:Go.Sf.vals O ζ with
  |none=>rw[D]at h;exact h.elim|some P=>
   rw [D]at h;simp only[Ay]at h|-;refine⟨h.1,BJ h.2 rfl rfl λenv2 w E u=>?_⟩;simp only[AE.wp,w.vals (xs:=ζ) (λs h=>h),D,Ay];exact⟨h.1,u⟩
 |app n x y=>
  simp only[AE.wp]at h|-;split at h
  .rename_i m es m' fs A ε
   try simp only[A,ε]
   obtain ⟨C,B,I,R⟩:=h;cases x with
   |c t=>simp[AH.ev]at A|s s=>
    simp only[AH.ev]at A;subst C;refine⟨rfl,B,I,R,.slot s (.list m es),rfl,A,?_,V,(λs he=>o_),h!,V,λenv2 w E u=>?_⟩
    .intro s' t' he;simp only[BV.slot.injEq]at he;simp[AE.dem,AH.sl,he.1]
    .have:=w.eff;simp only[BV.ok]at this;simp only[AE.wp,AH.ev,this,w.val (x:=y) (λs h=>Eg h),ε];exact⟨trivial,B,I,u⟩
  .exact h.elim
 |call g xs=>
  simp only[AE.wp]at h|-;cases D:Go.Sf.vals O xs with
  |none=>rw[D]at h;exact h.elim|some P=>
   rw [D]at h;simp only[Ay]at h|-;obtain⟨r,C,B⟩:=h;refine⟨r,C,λQ=>BJ (B Q) rfl (by cases r<;>rfl) λenv2 w E u=>?_⟩;simp only[AE.wp,w.vals (xs:=xs) (λs h=>h),D,Ay];exact⟨r,C,λ_=>u⟩
 |Abm x xs=>
  simp only[AE.wp]at h|-;split at h
  .rename_i g caps P A D
   try simp only[A,D]
   obtain ⟨r,C,B⟩:=h;refine⟨r,C,λQ=>BJ (B Q) rfl (by cases r<;>rfl) λenv2 w E u=>?_⟩;simp only[AE.wp,w.val (x:=x) (λs h=>D4 h),w.vals (xs:=xs) (λs h=>Eg h),A,D];exact⟨r,C,λ_=>u⟩
  .exact h.elim
 |clo g xs=>
  simp only[AE.wp]at h|-;cases D:Go.Sf.vals O xs with
  |none=>rw[D]at h;exact h.elim|some P=>
   rw [D]at h;simp only[Ay]at h|-;refine BJ h rfl rfl λenv2 w E u=>?_;simp only[AE.wp,w.vals (xs:=xs) (λs h=>h),D,Ay];exact u
 |ext x i=>
  simp only[AE.wp]at h|-;split at h
  .rename_i P A
   try simp only[A]
   cases hf:P[i]? with
   |none=>rw[hf]at h;exact h.elim|some t=>
    rw [hf]at h;refine BJ h rfl rfl λenv2 w E u=>?_;have:=(w.ev (x:=x) (λs h=>h)).tp A;simp only[AE.wp,this,hf,Ay];exact u
  .exact h.elim
 |cvt k x=>
  simp only[AE.wp]at h|-;split at h
  .rename_i k n A
   try simp only[A]
   refine BJ h rfl rfl λenv2 w E u=>?_;simp only[AE.wp,w.val (x:=x) (λs h=>h),A];exact u
  .exact h.elim
 |AaB x i=>
  simp only[AE.wp]at h|-;split at h
  .rename_i str k j A hi
   try simp only[A,hi]
   obtain ⟨C,b,B,I⟩:=h;refine⟨C,b,B,BJ I rfl rfl λenv2 w E u=>?_⟩;simp only[AE.wp,w.val (x:=x) (λs h=>D4 h),w.val (x:=i) (λs h=>Eg h),A,hi];exact⟨C,b,B,u⟩
  .exact h.elim
 |Abr x=>
  simp only[AE.wp]at h|-;split at h
  .rename_i t A
   try simp only[A]
   refine BJ h rfl rfl λenv2 w E u=>?_;simp only[AE.wp,w.val (x:=x) (λs h=>h),A];exact u
  .exact h.elim
 |AbB x=>
  simp only[AE.wp]at h|-;split at h
  .rename_i t d A
   try simp only[A]
   refine ⟨h.1,h.2,.none,rfl,trivial,V,V,(λs he=>o_),λ_=>⟨rfl,λδ hd=>?_⟩,V,λenv2 w E u=>?_⟩
   .simp only[tl]at hd;subst hd;exact h.1
   .simp only[AE.wp,w.val (x:=x) (λs h=>h),A];exact⟨w.new rfl _ rfl h.1,u⟩
  .exact h.elim
 |mm mx x y=>
  simp only[AE.wp]at h|-;split at h
  .rename_i k a k' b A ε
   try simp only[A,ε]
   refine ⟨h.1,BJ h.2 rfl rfl λenv2 w E u=>?_⟩;simp only[AE.wp,w.val (x:=x) (λs h=>D4 h),w.val (x:=y) (λs h=>Eg h),A,ε];exact⟨h.1,u⟩
  .exact h.elim
 |alc cs=>
  simp only[AE.wp]at h|-;split at h
  .rename_i d;refine⟨h.1,h.2,.none,rfl,trivial,V,V,(λs he=>o_),λ_=>⟨rfl,λδ hd=>?_⟩,V,λenv2 w E u=>?_⟩
   .simp only[tl]at hd;subst hd;exact h.1
   .simp only[AE.wp];exact⟨w.new rfl _ rfl h.1,u⟩
  .exact h.elim
 |st n x v=>cases H
 |stb n s v=>cases H
 |frz s=>cases H
 |xal s=>
  simp only[AE.wp]at h|-;split at h
  .rename_i n es L
   try simp only[L]
   refine ⟨h,.none,rfl,trivial,V,V,?_,h!,V,λenv2 w E u=>?_⟩
   .intro s' he;simp only[EV.ref,tl]at he;exact .inl (by simp[AE.Aa6,he])
   .have B:=(w.sl s f?).xo L;simp only[AE.wp,B];exact u
  .exact h.elim
 |Abx x=>
  simp only[AE.wp]at h|-;cases A:x.z5 O with
  |none=>rw[A]at h;exact h.elim|some p=>
   rw [A]at h;simp only[Ay]at h|-;refine BJ h rfl rfl λenv2 w E u=>?_;simp only[AE.wp,w.z5 (x:=x) (λs h=>h),A,Ay];exact u
 |lan x=>
  simp only[AE.wp]at h|-;split at h
  .rename_i s F A;cases J:O.nat s F with
   |none=>rw[J]at h;exact h.elim|some es=>
    rw [J]at h;simp only[Ay]at h
    try simp only[A,J]
    have G:∃n∈x.sl,O.get n=.bp s F:=by
     cases x with
     |c t=>simp[AH.ev]at A|s n=>exact⟨n,e_,A⟩
    obtain ⟨n,M,hb⟩:=G;refine⟨h,.none,rfl,trivial,V,V,?_,h!,V,λenv2 w E u=>?_⟩
    .intro s' he;simp only[EV.ref,tl]at he;subst he;exact .inr ⟨n,M,h_⟩
    .have C:=(w.ev (x:=x) (λs h=>h)).bp A;have B:=(w.bp n M s h_).nat F;rw[J]at B;simp only[AE.wp,C,B,Ay];exact u
  .exact h.elim
 |nld x=>
  simp only[AE.wp]at h|-;split at h
  .rename_i s F r A;cases J:O.nat s F with
   |none=>rw[J]at h;exact h.elim|some es=>
    rw [J]at h;simp only[Ay]at h;obtain⟨η,h⟩:=h
    try simp only[A,J]
    have G:∃n∈x.sl,O.get n=.nh s F (.el r):=by
     cases x with
     |c t=>simp[AH.ev]at A|s n=>exact⟨n,e_,A⟩
    obtain ⟨n,M,hb⟩:=G;refine⟨η,h,.none,rfl,trivial,V,V,?_,h!,V,λenv2 w E u=>?_⟩
    .intro s' he;simp only[EV.ref,tl]at he;subst he;exact .inr ⟨n,M,h_⟩
    .have C:=(w.ev (x:=x) (λs h=>h)).nh A;have B:=(w.bp n M s h_).nat F;rw[J]at B;simp only[AE.wp,C,B,Ay];exact⟨η,u⟩
  .exact h.elim
 |nia x i=>
  simp only[AE.wp]at h|-;split at h
  .rename_i s F k j A κ;cases J:O.nat s F with
   |none=>rw[J]at h;exact h.elim|some es=>
    rw [J]at h;simp only[Ay]at h;obtain⟨η,I,h⟩:=h
    try simp only[A,κ,J]
    have G:∃n∈x.sl,O.get n=.nh s F .hd:=by
     cases x with
     |c t=>simp[AH.ev]at A|s n=>exact⟨n,e_,A⟩
    obtain ⟨n,M,hb⟩:=G;refine⟨η,I,h,.none,rfl,trivial,V,V,?_,h!,V,λenv2 w E u=>?_⟩
    .intro s' he;simp only[EV.ref,tl]at he;subst he;exact .inr ⟨n,D4 M,h_⟩
    .have C:=(w.ev (x:=x) (λs h=>D4 h)).nh A;have e2:=w.val (x:=i) (λs h=>Eg h);have B:=(w.bp n (D4 M) s h_).nat F;rw[J]at B;simp only[AE.wp,C,e2,κ,B,Ay];exact⟨η,I,u⟩
  .rename_i s F r k j A κ;cases J:O.nat s F with
   |none=>rw[J]at h;exact h.elim|some es=>
    rw [J]at h;simp only[Ay]at h;obtain⟨η,fs,I,R,h⟩:=h
    try simp only[A,κ,J]
    have G:∃n∈x.sl,O.get n=.nh s F (.rw r):=by
     cases x with
     |c t=>simp[AH.ev]at A|s n=>exact⟨n,e_,A⟩
    obtain ⟨n,M,hb⟩:=G;refine⟨η,fs,I,R,h,.none,rfl,trivial,V,V,?_,h!,V,λenv2 w E u=>?_⟩
    .intro s' he;simp only[EV.ref,tl]at he;subst he;exact .inr ⟨n,D4 M,h_⟩
    .have C:=(w.ev (x:=x) (λs h=>D4 h)).nh A;have e2:=w.val (x:=i) (λs h=>Eg h);have B:=(w.bp n (D4 M) s h_).nat F;rw[J]at B;simp only[AE.wp,C,e2,κ,B,Ay];exact⟨η,fs,I,R,u⟩
  .exact h.elim
 |lac x=>
  simp only[AE.wp]at h|-;split at h
  .rename_i s F A;split at h
   .rename_i p J
    try simp only[A,J]
    have G:∃n∈x.sl,O.get n=.bp s F:=by
     cases x with
     |c t=>simp[AH.ev]at A|s n=>exact⟨n,e_,A⟩
    obtain ⟨n,M,hb⟩:=G;refine⟨h,.none,rfl,trivial,V,V,?_,h!,V,λenv2 w E u=>?_⟩
    .intro s' he;simp only[EV.ref,tl]at he;subst he;exact .inr ⟨n,M,h_⟩
    .have C:=(w.ev (x:=x) (λs h=>h)).bp A;have B:=(w.bp n M s h_).wi (Y F);rw[J]at B;simp only[AE.wp,C,B];exact u
   .exact h.elim
  .exact h.elim
 |ctk _=>cases H
 |cpt _ _=>cases H
 |cut _ _ _=>cases H
 |Abo _ _ _ _=>cases H
 |Aa8 g xs=>
  simp only[AE.wp]at h|-;cases D:Go.Sf.vals O xs with
  |none=>rw[D]at h;exact h.elim|some P=>
   rw [D]at h;simp only[Ay]at h|-;obtain⟨r,C,B⟩:=h;refine⟨r,C,BJ B rfl rfl λenv2 w E u=>?_⟩;simp only[AE.wp,w.vals (xs:=xs) (λs h=>h),D,Ay];exact⟨r,C,u⟩
 |AaA _ _ _=>cases H
 |AaQ g xs=>
  simp only[AE.wp]at h|-;cases D:Go.Sf.Aax O xs with
  |none=>rw[D]at h;exact h.elim|some P=>
   rw [D]at h;simp only[Ay]at h|-;obtain⟨r,C,B⟩:=h;refine⟨r,C,λQ=>BJ (B Q) rfl (by cases r<;>rfl) λenv2 w E u=>?_⟩;simp only[AE.wp,w.Aax (xs:=xs) (λs h=>h),D,Ay];exact⟨r,C,λ_=>u⟩
 |Abh ζ x=>
  simp only[AE.wp]at h|-;split at h
  .rename_i t d A
   try simp only[A]
   cases D:Ew ζ t.cells with
   |none=>rw[D]at h;exact h.elim|some cs=>
    rw [D]at h;simp only[Ay]at h|-;refine⟨h.1,h.2,.none,rfl,trivial,V,V,(λs he=>o_),λ_=>⟨rfl,λδ hd=>?_⟩,V,λenv2 w E u=>?_⟩
    .simp only[tl]at hd;subst hd;exact h.1
    .simp only[AE.wp,w.val (x:=x) (λs h=>h),A,D,Ay];exact⟨w.new rfl _ rfl h.1,u⟩
  .exact h.elim
 |xia x i n=>
  simp only[AE.wp]at h|-;cases A:x.z5 O with
  |none=>rw[A]at h;exact h.elim|some p=>
   rw [A]at h;simp only[Ay]at h|-;split at h
   .rename_i ik j κ
    try simp only[κ]
    obtain ⟨⟨C,B⟩,I,R,h5⟩:=h;have G:∃n∈x.sl,(O.get n).ref=Y p.1.1:=by
     cases x with
     |c t=>simp[AH.ev,EV.ref]at C|s n=>exact⟨n,e_,C⟩
    obtain ⟨m,hm',hr⟩:=G;refine⟨⟨C,B⟩,I,R,h5,.none,rfl,trivial,V,V,?_,h!,V,λenv2 w E u=>?_⟩
    .intro s' he;simp only[EV.ref,tl]at he;subst he;exact .inr ⟨m,D4 hm',hr⟩
    .have e1:=w.z5 (x:=x) (λs h=>D4 h);have e2:=w.val (x:=i) (λs h=>Eg h);have e3:=(w.ev (x:=x) (λs h=>D4 h)).ref;simp only[AE.wp,e1,A,e2,κ,Ay,e3,C];exact⟨⟨trivial,B⟩,I,R,u⟩
   .exact h.elim
 |xfa x k=>
  simp only[AE.wp]at h|-;split at h
  .rename_i q i c A;split at h
   .rename_i p J
    try simp only[A,J]
    have G:∃n∈x.sl,O.get n=.lp q i c:=by
     cases x with
     |c t=>simp[AH.ev]at A|s n=>exact⟨n,e_,A⟩
    obtain ⟨n,M,hb⟩:=G;refine⟨h,.none,rfl,trivial,V,V,?_,h!,V,λenv2 w E u=>?_⟩
    .intro s' he;simp only[EV.ref,tl]at he;subst he;exact .inr ⟨n,M,h_⟩
    .have C:=(w.ev (x:=x) (λs h=>h)).AbH (q:=q) (by rw[A];rfl);have B:=(w.bp n M q h_).wi i;rw[J]at B;simp only[AE.wp,C,A,B];exact u
   .exact h.elim
  .exact h.elim
 |xld x=>
  simp only[AE.wp]at h|-;split at h
  .rename_i q i c A;split at h
   .rename_i p J
    try simp only[A,J]
    cases D:(p.2.flatMap TV.cells)[c]? with
    |none=>rw[D]at h;exact h.elim|some t=>
     rw [D]at h;simp only[Ay]at h|-;have G:∃n∈x.sl,O.get n=.lp q i c:=by
      cases x with
      |c t=>simp[AH.ev]at A|s n=>exact⟨n,e_,A⟩
     obtain ⟨n,M,hb⟩:=G;refine BJ h rfl rfl λenv2 w E u=>?_;have C:=(w.ev (x:=x) (λs h=>h)).AbH (q:=q) (by rw[A];rfl);have B:=(w.bp n M q h_).wi i;rw[J]at B;simp only[AE.wp,C,A,B,D,Ay];exact u
   .exact h.elim
  .exact h.elim
 |xst _ _ _=>cases H
 |rel _=>cases H
 |Abk _=>cases H
 |tkx _=>cases H
 |Aba _ _ _=>cases H
 |AaL g xs=>
  simp only[AE.wp]at h|-;split at h
  .rename_i d;obtain⟨N,h⟩:=h;refine⟨N,?_⟩;cases D:Go.Sf.vals O xs with
   |none=>rw[D]at h;exact h.elim|some P=>
    rw [D]at h;simp only[Ay]at h|-;obtain⟨n,es,C,B⟩:=h;refine⟨n,es,C,λQ=>⟨B Q,.none,rfl,trivial,V,V,(λs he=>o_),λ_=>⟨rfl,λδ hd=>?_⟩,V,λenv2 w E u=>?_⟩⟩
    .simp only[tl]at hd;subst hd;exact N
    .simp only[AE.wp,w.vals (xs:=xs) (λs h=>h),D,Ay];exact⟨w.new rfl _ rfl N,n,es,C,λ_=>u⟩
  .exact h.elim
 |mkx n z x=>
  simp only[AE.wp]at h|-;split at h
  .rename_i d k j A
   try simp only[A]
   obtain ⟨N,C,B,I⟩:=h;refine⟨N,C,B,I,.none,rfl,trivial,V,V,(λs he=>o_),λ_=>⟨rfl,λδ hd=>?_⟩,V,λenv2 w E u=>?_⟩
   .simp only[tl]at hd;subst hd;exact N
   .simp only[AE.wp,w.val (x:=x) (λs h=>h),A];exact⟨w.new rfl _ rfl N,C,B,u⟩
  .exact h.elim
 |AaG _ _ _=>cases H
 |Aa2 _ _=>cases H
 |Aao _=>cases H
 |Abs _=>cases H
 |AaO _ _=>cases H
 |nst _ _=>cases H
 |AbG _=>cases H
 |AaP _ _ _=>cases H
 |ldg _ _=>cases H
 |stq _ _ _ _=>cases H
 |mkm=>cases H
 |mvm _=>cases H
 |AaI _ _=>cases H
 |mlk _ _ _=>cases H
 |mup _ _ _ _=>cases H
 |x6 _ _=>cases H
 |mnx _=>cases H
 |men _=>cases H
 |Abl _=>cases H
 |stx _ _ _=>cases H
 |isn _=>cases H
 |Aa7 g xs=>
  simp only[AE.wp]at h|-;cases D:Go.Sf.vals O xs with
  |none=>rw[D]at h;exact h.elim|some P=>
   rw [D]at h;simp only[Ay]at h|-;obtain⟨r,C,B⟩:=h;refine⟨r,C,λQ=>BJ (B Q) rfl rfl λenv2 w E u=>?_⟩;simp only[AE.wp,w.vals (xs:=xs) (λs h=>h),D,Ay];exact⟨r,C,λ_=>u⟩
 |AaE g xs=>
  simp only[AE.wp]at h|-;cases D:Go.Sf.vals O xs with
  |none=>rw[D]at h;exact h.elim|some P=>
   rw [D]at h;simp only[Ay]at h|-;obtain⟨r,C,I,B⟩:=h;refine⟨r,C,I,λQ=>BJ (B Q) rfl rfl λenv2 w E u=>?_⟩;simp only[AE.wp,w.vals (xs:=xs) (λs h=>h),D,Ay];exact⟨r,C,I,λ_=>u⟩
 |AbA x k n agg=>
  simp only[AE.wp]at h|-;split at h
  .rename_i cs A
   try simp only[A]
   obtain ⟨C,B⟩:=h;refine⟨C,?_⟩;cases agg with
   |true=>
    simp only[if_true]at B|-;refine BJ B rfl rfl λenv2 w E u=>?_;simp only[AE.wp,w.val (x:=x) (λs h=>h),A,if_true];exact⟨C,u⟩
   |false=>
    simp only[Bool.false_eq_true,if_false]at B|-;cases D:Hy (cs.drop k)with
    |none=>rw[D]at B;exact B.elim|some t=>
     rw [D]at B;simp only[Ay]at B|-;refine BJ B rfl rfl λenv2 w E u=>?_;simp only[AE.wp,w.val (x:=x) (λs h=>h),A,Bool.false_eq_true,if_false,D,Ay];exact⟨C,u⟩
  .exact h.elim
end
end Go.Sf
