/- What an operation leans on: the slots that it reads, whether or not they own their lists. -/
import Derived.Test.YthcncnllajfkfaaGreatSfCode
set_option linter.all false
open Option renaming some->Y,none->W
open Bool renaming true->X,false->T
open List renaming map_map->v5,getElem?_map->v6,mem_append->v_,map_drop->v!
namespace Go.Sf
theorem tf{cs ds:List AS}(h:ds.map AS.key=cs.map AS.key):ds.map (·.t)=cs.map (·.t):=by
 have:=congrArg (List.map Prod.fst) h;simpa[v5,Function.comp_def,AS.key]using this
def jo(p:TV×Bool):TV:=match p with
 |(.xl n es,X)=>.list n es|p=>p.1
theorem fO{cs ds:List AS}(h:ds.map AS.key=cs.map AS.key):ds.map AS.Abb=cs.map AS.Abb:=by
 have a:∀c:AS,c.Abb=jo c.key:=by
  rintro ⟨_|_,t⟩<;>cases t<;>rfl
 have:=congrArg (List.map jo) h;simpa[v5,Function.comp_def,<-a]using this
def ABA(p:TV×Bool):Option (Nat×Fq):=match p with
 |(.xl n es,X)=>Y (n,es)|_=>W
theorem xb{cs ds:List AS}(h:ds.map AS.key=cs.map AS.key)(k:Nat):(match ds[k]? with
  |some ⟨X,.xl n es⟩=>Y (n,es)|_=>W)=(match cs[k]? with
  |some ⟨X,.xl n es⟩=>Y (n,es)|_=>W):=by
 have a:∀o:Option AS,(match o with
  |some ⟨X,.xl n es⟩=>Y (n,es)|_=>W)=(o.map AS.key).bind ABA:=by
  rintro (_|⟨_|_,t⟩)
  .rfl
  .cases t<;>rfl
  .cases t<;>rfl
 rw [a,a];have:=congrArg (λl=>l[k]?) h;simp only[v6]at this;rw[this]
def ABB(p:TV×Bool):Option Fq:=match p with
 |(.xn es,X)=>Y es|_=>W
theorem xc{cs ds:List AS}(h:ds.map AS.key=cs.map AS.key)(k:Nat):(match ds[k]? with
  |some ⟨X,.xn es⟩=>Y es|_=>W)=(match cs[k]? with
  |some ⟨X,.xn es⟩=>Y es|_=>W):=by
 have a:∀o:Option AS,(match o with
  |some ⟨X,.xn es⟩=>Y es|_=>W)=(o.map AS.key).bind ABB:=by
  rintro (_|⟨_|_,t⟩)
  .rfl
  .cases t<;>rfl
  .cases t<;>rfl
 rw [a,a];have:=congrArg (λl=>l[k]?) h;simp only[v6]at this;rw[this]
def EV.like(e e2:EV):Prop:=
 e2=e\/(∃n es,(e=.tv (.list n es)/\e2=.ow (.list n es))\/(e=.ow (.list n es)/\e2=.tv (.list n es)))\/∃cs ds,e=.bx cs/\e2=.bx ds/\ds.map AS.key=cs.map AS.key
theorem EV.like.rfl'(e:EV):e.like e:=.inl rfl
variable{e e2:EV}
theorem EV.like.symm(h:e.like e2):e2.like e:=by
 rcases h with rfl|⟨n,es,⟨rfl,rfl⟩|⟨rfl,rfl⟩⟩|⟨cs,ds,rfl,rfl,h⟩
 .exact .inl rfl
 .exact .inr (.inl ⟨n,es,.inr ⟨rfl,rfl⟩⟩)
 .exact .inr (.inl ⟨n,es,.inl ⟨rfl,rfl⟩⟩)
 .exact .inr (.inr ⟨ds,cs,rfl,rfl,h.symm⟩)
theorem EV.like.wm(h:e.like e2):e2.wm=e.wm:=by
 rcases h with rfl|⟨n,es,⟨rfl,rfl⟩|⟨rfl,rfl⟩⟩|⟨cs,ds,rfl,rfl,h⟩<;>rfl
variable{q:Nat}
theorem EV.like.Abv(h:e.like e2)(hr:e.wm=Y q):e2=e:=by
 rcases h with rfl|⟨n,es,⟨rfl,rfl⟩|⟨rfl,rfl⟩⟩|⟨cs,ds,rfl,rfl,h⟩
 .rfl
 .cases hr
 .cases hr
 .cases hr
theorem EV.like.xo(h:e.like e2){n:Nat}{es:Fq}(he:e=.xo n es):e2=.xo n es:=by
 subst he;rcases h with rfl|⟨n,es,⟨h,_⟩|⟨h,_⟩⟩|⟨cs,ds,h,_⟩
 .rfl
 .cases h
 .cases h
 .cases h
theorem EV.like.val(h:e.like e2):e2.val=e.val:=by
 rcases h with rfl|⟨n,es,⟨rfl,rfl⟩|⟨rfl,rfl⟩⟩|⟨cs,ds,rfl,rfl,h⟩<;>rfl
theorem EV.like.pt(h:e.like e2){row:Fq}(he:e=.tv (.pt row)):e2=.tv (.pt row):=by
 subst he;rcases h with rfl|⟨n,es,⟨h,rfl⟩|⟨h,rfl⟩⟩|⟨cs,ds,h,rfl,a⟩
 .rfl
 .simp at h
 .cases h
 .cases h
theorem EV.like.bp(h:e.like e2){q a:Nat}(he:e=.bp q a):e2=.bp q a:=by
 subst he;rcases h with rfl|⟨n,es,⟨h,rfl⟩|⟨h,rfl⟩⟩|⟨cs,ds,h,rfl,b⟩
 .rfl
 .cases h
 .cases h
 .cases h
theorem EV.like.tp(h:e.like e2){a:Fq}(he:e=.tp a):e2=.tp a:=by
 subst he;rcases h with rfl|⟨n,es,⟨h,rfl⟩|⟨h,rfl⟩⟩|⟨cs,ds,h,rfl,b⟩
 .rfl
 .cases h
 .cases h
 .cases h
theorem EV.like.bx(h:e.like e2){cs:List AS}(he:e=.bx cs):∃ds,e2=.bx ds/\ds.map AS.key=cs.map AS.key:=by
 subst he;rcases h with rfl|⟨n,es,⟨h,rfl⟩|⟨h,rfl⟩⟩|⟨cs',ds,h,rfl,a⟩
 .exact⟨cs,rfl,rfl⟩
 .cases h
 .cases h
 .simp only[EV.bx.injEq]at h;subst h;exact⟨ds,rfl,a⟩
def AG.sl:AG->Ne
 |.s n=>[n]|.c _=>[]
def Yf:Option AG->Ne
 |some x=>x.sl|none=>[]
def Gx:List AG->Ne
 |[]=>[]|x::xs=>x.sl++Gx xs
def WB:List (Nat×Nat×AG)->Ne
 |[]=>[]|x::xs=>x.2.2.sl++WB xs
def AE.slots:AE->Ne
 |.mv x=>x.sl|.tk s=>[s]|.Abe _=>[]|.fad x _=>x.sl|.bad s _=>[s]|.iad x i _=>x.sl++i.sl|.aad x i _ _=>x.sl++i.sl|.ld x=>x.sl|.lda x _=>x.sl|.ldb s _=>[s]|.ldt x=>x.sl|.bin _ _ x y=>x.sl++y.sl|.not x=>x.sl|.neg x=>x.sl|.pick c a b=>c.sl++(a.sl++b.sl)|.len x=>x.sl|.Abr x=>x.sl|.slc _ x lo hi=>x.sl++(Yf lo++Yf hi)|.Aaq x lo hi=>x.sl++(Yf lo++Yf hi)|.bld _ ps=>WB ps|.lst _ ps=>Gx ps|.app _ x y=>x.sl++y.sl|.call _ xs=>Gx xs|.Aa8 x xs=>x.sl++Gx xs|.clo _ xs=>Gx xs|.ext x _=>x.sl|.cvt _ x=>x.sl|.Aam x i=>x.sl++i.sl|.Abc x=>x.sl|.Abp x=>x.sl|.mm _ x y=>x.sl++y.sl|.alc _=>[]|.st _ x v=>x.sl++v.sl|.stb _ s v=>s::v.sl|.frz s=>[s]|.Abj x _ _ _=>x.sl|.xal s=>[s]|.Abi x=>x.sl|.xia x i _=>x.sl++i.sl|.xfa x _=>x.sl|.xld x=>x.sl|.xst x v _=>x.sl++v.sl|.rel s=>[s]|.Aa5 _=>[]|.Aa9 _=>[]|.tkx s=>[s]|.AaX _ s y=>s::y.sl|.Aaw _ xs=>Gx xs|.mkx _ _ x=>x.sl|.Aat _ x ys=>x.sl++Gx ys|.AaH _ x=>x.sl|.Aag gs=>gs.flatMap GC.sl|.stx _ s q=>[s,q]|.AaV _ xs=>Gx xs|.Aap _ xs=>Gx xs|.isn x=>x.sl|.fdv x _=>x.sl|.ldv x _=>x.sl|.lac x=>x.sl|.ctk x=>x.sl|.cpt x q=>x.sl++[q]|.cut _ s hi=>s::hi.sl|.AaE _ xs=>Gx xs|.AaY _ x=>x.sl|.Aa7 _ s _ x=>s::x.sl|.AaU _ xs=>Gx xs|.Aaf _ xs _=>Gx xs|.Abd q=>[q]|.AaB s q=>[s,q]|.lan x=>x.sl|.nia x i=>x.sl++i.sl|.nld x=>x.sl|.nst x v=>x.sl++v.sl|.Abk q=>[q]|.AaC _ xs _=>Gx xs|.ldg s _=>[s]|.stq _ _ x v=>x.sl++v.sl|.mkm=>[]|.mvm s=>[s]|.Aau _ xs=>Gx xs|.mlk s m x=>s::(m.sl++x.sl)|.mup s m x v=>s::(m.sl++(x.sl++v.sl))|.sB s m=>s::m.sl|.mnx s=>[s]|.men s=>[s]
def AE.dem:AE->Ne
 |.tk s=>[s]|.app _ x _=>x.sl|_=>[]
def AE.mov:AE->Bool
 |.st ..=>T|.stb ..=>T|.frz _=>T|.xst ..=>T|.rel _=>T|.Aa5 _=>T|.Aa9 _=>T|.tkx _=>T|.AaX ..=>T|.Aat ..=>T|.AaH ..=>T|.Aag _=>T|.stx ..=>T|.isn _=>T|.ctk _=>T|.cpt ..=>T|.cut ..=>T|.Aa7 ..=>T|.Aaf ..=>T|.Abd _=>T|.AaB ..=>T|.nst ..=>T|.Abk _=>T|.AaC ..=>T|.ldg ..=>T|.stq ..=>T|.mkm=>T|.mvm _=>T|.Aau ..=>T|.mlk ..=>T|.mup ..=>T|.sB ..=>T|.mnx _=>T|.men _=>T|_=>X
def AE.rr:AE->Bool
 |.alc _=>X|.Abp _=>X|.AaY ..=>X|.Aaw ..=>X|.mkx ..=>X|_=>T
def AE.AaS:AE->Ne
 |.bad s _=>[s]|.xal s=>[s]|_=>[]
inductive BM where
 |none
 |slot (s:Nat) (t:TV)
 |cell (s off:Nat) (t:TV)
def BM.app:BM->AB->AB
 |.none,O=>O|.slot s t,O=>(s,.tv t)::O|.cell s off t,O=>match O.get s with
  |.bx cs=>(s,.bx (cs.set off ⟨T,t⟩))::O|_=>O
def BM.ok:BM->AB->Prop
 |.none,_=>True|.slot s t,O=>O.get s=.ow t|.cell s off t,O=>∃cs,O.get s=.bx cs/\cs[off]?=Y ⟨X,t⟩
structure Ey(op:AE)(f:BM)(dst:Option Nat)(O env2:AB):Prop where
 sl:∀s∈op.slots,(O.get s).like (env2.get s)
 bp:∀s∈op.slots,∀q,(O.get s).wm=Y q->(O.get q).like (env2.get q)
 dem:∀s∈op.dem,(∀cs,O.get s≠.bx cs)->env2.get s=O.get s
 eff:f.ok env2
 new:op.rr=X->∀d,dst=Y d->O.f0 d=X->env2.f0 d=X
section
variable{op:AE}{f:BM}{dst:Option Nat}{O env2:AB}
variable{x:AG}
theorem Ey.val(h:Ey op f dst O env2)(a:∀s∈x.sl,s∈op.slots):x.val env2=x.val O:=by
 cases x with
 |c t=>rfl|s n=>exact(h.sl n (a n e?)).val
theorem Ey.ev(h:Ey op f dst O env2)(a:∀s∈x.sl,s∈op.slots):(x.ev O).like (x.ev env2):=by
 cases x with
 |c t=>exact .inl rfl|s n=>exact h.sl n (a n e?)
theorem Ey.vals(h:Ey op f dst O env2):∀{xs:List AG},(∀s∈Gx xs,s∈op.slots)->Go.Sf.vals env2 xs=Go.Sf.vals O xs
 |[],_=>rfl|x::xs,b=>by
  simp only[Gx,v_]at b;simp only[Go.Sf.vals,h.val (x:=x) (λs a=>b s (.inl a)),h.vals (xs:=xs) (λs a=>b s (.inr a))]
theorem Ey.parts(h:Ey op f dst O env2):∀{xs:List (Nat×Nat×AG)},(∀s∈WB xs,s∈op.slots)->Hn env2 xs=Hn O xs
 |[],_=>rfl|(i,n,x)::xs,b=>by
  simp only[WB,v_]at b;simp only[Hn,h.val (x:=x) (λs a=>b s (.inl a)),h.parts (xs:=xs) (λs a=>b s (.inr a))]
theorem Ey.bnd(h:Ey op f dst O env2){x:Option AG}{k:Int}(a:∀s∈Yf x,s∈op.slots):IF env2 k x=IF O k x:=by
 cases x with
 |none=>rfl|some x=>exact h.val a
theorem Ey.addr(h:Ey op f dst O env2)(i:∀s∈x.sl,s∈op.slots):BH env2 (x.ev env2)=BH O (x.ev O):=by
 cases x with
 |c t=>cases t<;>rfl
 |s n=>
  have g:=i n e?;have a:=h.sl n g;have hb:=h.bp n g;simp only[AG.ev];generalize O.get n=e at a hb;generalize env2.get n=e2 at a;rcases a with rfl|⟨n,es,⟨rfl,rfl⟩|⟨rfl,rfl⟩⟩|⟨cs,ds,rfl,rfl,d⟩
  .cases e2 with
   |bp q j=>
    have b:=hb q rfl;simp only[BH];generalize O.get q=e1 at b;generalize env2.get q=e2 at b;rcases b with rfl|⟨n,es,⟨rfl,rfl⟩|⟨rfl,rfl⟩⟩|⟨cs,ds,rfl,rfl,d⟩
    .rfl
    .rfl
    .rfl
    .simp only[v!,tf d]
   |tv t=>cases t<;>rfl
   |_=>rfl
  .rfl
  .rfl
  .simp only[BH,tf d]
theorem Ey.place(h:Ey op f dst O env2)(d:∀s∈x.sl,s∈op.slots):x.place env2=x.place O:=by
 cases x with
 |c t=>rfl|s n=>
  have g:=h.sl n (d n e?);simp only[AG.place];rcases g with a|⟨n,es,⟨a,b⟩|⟨a,b⟩⟩|⟨cs,ds,a,b,_⟩
  .rw[a]
  .rw[a,b]
  .rw[a,b]
  .rw[a,b]
variable{q:Nat}
theorem EV.like.sx{O env2:AB}(h:(O.get q).like (env2.get q))(i:Option Nat):env2.sx q i=O.sx q i:=by
 rcases h with a|⟨n,es,⟨a,b⟩|⟨a,b⟩⟩|⟨cs,ds,a,b,c⟩
 .exact AB.Aab a
 .cases i<;>simp only[AB.sx,a,b]
 .cases i<;>simp only[AB.sx,a,b]
 .cases i with
  |none=>simp only[AB.sx,a,b]|some k=>simp only[AB.sx,a,b];exact xb c k
theorem EV.like.nat{O env2:AB}(h:(O.get q).like (env2.get q))(i:Nat):env2.nat q i=O.nat q i:=by
 rcases h with a|⟨n,es,⟨a,b⟩|⟨a,b⟩⟩|⟨cs,ds,a,b,c⟩
 .exact AB.Aaj a
 .simp only[AB.nat,a,b]
 .simp only[AB.nat,a,b]
 .simp only[AB.nat,a,b];exact xc c i
variable{e e2:EV}
theorem EV.like.nh(h:e.like e2){q i:Nat}{k:NK}(he:e=.nh q i k):e2=.nh q i k:=by
 subst he;exact h.Abv rfl
theorem Ey.wi(h:Ey op f dst O env2)(g:∀s∈x.sl,s∈op.slots):x.wi env2=x.wi O:=by
 cases x with
 |c t=>rfl|s n=>
  have d:=g n e?;have j:=h.sl n d;have hb:=h.bp n d;simp only[AG.wi];rcases j with a|⟨m,es,⟨a,b⟩|⟨a,b⟩⟩|⟨cs,ds,a,b,_⟩
  .rw[a];cases he:O.get n with
   |la q i=>simp only[(hb q (by rw[he];rfl)).sx i]|_=>rfl
  .rw[a,b]
  .rw[a,b]
  .rw[a,b]
theorem Ey.Abn(h:Ey op f dst O env2)(i:∀s∈x.sl,s∈op.slots):x.Abn env2=x.Abn O:=by
 unfold AG.Abn;rw[h.wi i];cases x.wi O with
 |some p=>rfl|none=>
  cases x with
  |c t=>cases t<;>rfl
  |s n=>
   have j:=i n e?;have k:=h.sl n j;have hb:=h.bp n j;simp only[AG.ev];rcases k with a|⟨m,es,⟨a,d⟩|⟨a,d⟩⟩|⟨cs,ds,a,d,r⟩
   .rw[a];cases he:O.get n with
    |bp q v=>
     have o:=hb q (by rw[he];rfl);simp only;rcases o with b|⟨m,es,⟨b,g⟩|⟨b,g⟩⟩|⟨cs,ds,b,g,u⟩
     .rw[b]
     .rw[b,g]
     .rw[b,g]
     .rw[b,g];have:=fO u;simp only[v!,this]
    |_=>rfl
   .rw[a,d];rfl
   .rw[a,d];rfl
   .rw[a,d];simp only[fO r]
theorem Ey.Aak(h:Ey op f dst O env2):∀{xs:List AG},(∀s∈Gx xs,s∈op.slots)->Go.Sf.Aak env2 xs=Go.Sf.Aak O xs
 |[],_=>rfl|x::xs,b=>by
  simp only[Gx,v_]at b;simp only[Go.Sf.Aak,h.Abn (x:=x) (λs a=>b s (.inl a)),h.Aak (xs:=xs) (λs a=>b s (.inr a))]
end
structure nD(S:FuncId->Fq->Az->Prop)(op:AE)(dst:Option Nat)(O:AB)(e:EV)(env':AB)(f:BM):Prop where
 env':env'=f.app O
 ok:f.ok O
 slot:∀s t,f=.slot s t->s∈op.dem
 cell:∀s off t,f=.cell s off t->(s∈op.slots\/∃x∈op.slots,(O.get x).wm=Y s)
 wm:∀s,e.wm=Y s->(s∈op.AaS\/∃x∈op.slots,(O.get x).wm=Y s)
 new:op.rr=X->e.wm=W/\∀d,dst=Y d->O.f0 d=X
 xl:∀s off t,f=.cell s off t->t.AaA=T
 again:∀env2,Ey op f dst O env2->∀K2:EV->AB->Prop,K2 e (f.app env2)->op.wp S env2 dst K2
section
variable{S:FuncId->Fq->Az->Prop}{op:AE}{dst:Option Nat}{O:AB}{K:EV->AB->Prop}
variable{e:EV}
theorem A7(b:K e O)(c:op.rr=T)(hr:e.wm=W)(h:∀env2,Ey op .none dst O env2->∀a:EV->AB->Prop,a e env2->op.wp S env2 dst a):K e O/\∃f,nD S op dst O e O f:=
 ⟨b,.none,rfl,trivial,V,V,(λs he=>by rw[hr]at he;cases he),by simp[c],V,h⟩
variable{α:Type}{l m:List α}
theorem El{x:α}(h:x∈m):x∈l++m:=List.mem_append_right _ h
theorem D2{x:α}(h:x∈l):x∈l++m:=List.mem_append_left _ h
theorem frame(H:op.mov=X)(h:op.wp S O dst K):op.wp S O dst λe env'=>K e env'/\∃f,nD S op dst O e env' f:=by
 cases op with
 |mv x=>
  simp only[AE.wp]at h|-;have key:∀t,(x.ev O).val=Y t->∀env2,Ey (.mv x) .none dst O env2->∀E:EV->AB->Prop,E (.tv t) env2->(AE.mv x).wp S env2 dst E:=by
   intro t Z env2 w E u;have hv:=w.val (x:=x) (λs h=>h);simp only[AG.val]at hv;rw[Z]at hv;simp only[AE.wp];cases he:x.ev env2<;>rw[he]at hv<;>simp[EV.val]at hv<;>subst hv<;>exact u
  split at h
  .rename_i t A
   try simp only[A]
   exact A7 h rfl rfl (key t (by rw[A];rfl))
  .rename_i t A
   try simp only[A]
   exact A7 h rfl rfl (key t (by rw[A];rfl))
  .rename_i P A
   try simp only[A]
   refine A7 h rfl rfl λenv2 w E u=>?_;cases x with
   |c t=>simp[AG.ev]at A|s n=>
    simp only[AG.ev]at A;have B:env2.get n=.tp P:=(w.sl n (by simp[AE.slots,AG.sl])).tp A;simp only[AE.wp,AG.ev,B];exact u
  .exact h.elim
 |tk s=>
  simp only[AE.wp]at h|-;split at h
  .rename_i t L
   try simp only[L]
   refine ⟨h,.slot s t,rfl,L,?_,V,(λs he=>o2),i_,V,λenv2 w E u=>?_⟩
   .intro s' t' he;simp only[BM.slot.injEq]at he;simp[AE.dem,he.1]
   .have:=w.eff;simp only[BM.ok]at this;simp only[AE.wp,this];exact u
  .rename_i t L
   try simp only[L]
   refine A7 h rfl rfl λenv2 w E u=>?_;have:=w.dem s (by simp[AE.dem]) (by simp[L]);simp only[AE.wp,this,L];exact u
  .exact h.elim
 |Abe n=>exact A7 h rfl rfl λenv2 w E u=>u|fad x k=>
  simp only[AE.wp]at h|-;split at h
  .rename_i row A
   try simp only[A]
   refine A7 h rfl rfl λenv2 w E u=>?_;have:=(w.ev (x:=x) (λs h=>h)).pt A;simp only[AE.wp,this];exact u
  .rename_i s F A;split at h
   .rename_i cs L
    try simp only[A,L]
    have G:∃n∈x.sl,O.get n=.bp s F:=by
     cases x with
     |c t=>simp[AG.ev]at A|s n=>exact⟨n,e?,A⟩
    obtain ⟨n,M,hb⟩:=G;refine⟨h,.none,rfl,trivial,V,V,?_,i_,V,λenv2 w E u=>?_⟩
    .intro s' he;simp only[EV.wm,q0]at he;subst he;exact .inr ⟨n,M,h!⟩
    .have C:=(w.ev (x:=x) (λs h=>h)).bp A;have B:=w.bp n M s h!;rw[L]at B;obtain⟨ds,I,_⟩:=B.bx rfl;simp only[AE.wp,C,I];exact u
   .exact h.elim
  .exact h.elim
 |bad s k=>
  simp only[AE.wp]at h|-;split at h
  .rename_i cs L
   try simp only[L]
   refine ⟨h,.none,rfl,trivial,V,V,?_,i_,V,λenv2 w E u=>?_⟩
   .intro s' he;simp only[EV.wm,q0]at he;exact .inl (by simp[AE.AaS,he])
   .have B:=w.sl s g!;rw[L]at B;obtain⟨ds,I,_⟩:=B.bx rfl;simp only[AE.wp,I];exact u
  .rename_i row L
   try simp only[L]
   refine A7 h rfl rfl λenv2 w E u=>?_;have:=(w.sl s g!).pt L;simp only[AE.wp,this];exact u
  .exact h.elim
 |iad x i n=>
  simp only[AE.wp]at h|-;split at h
  .rename_i m es k j A hi
   try simp only[A,hi]
   obtain ⟨C,B,e,I,R⟩:=h;refine⟨C,B,e,I,A7 R rfl rfl λenv2 w E u=>?_⟩;simp only[AE.wp,w.val (x:=x) (λs h=>D2 h),w.val (x:=i) (λs h=>El h),A,hi];exact⟨C,B,e,I,u⟩
  .exact h.elim
 |aad x i n k=>
  simp only[AE.wp]at h|-;split at h
  .rename_i row kk j A hi
   try simp only[A,hi]
   obtain ⟨C,B,I,R⟩:=h;refine⟨C,B,I,A7 R rfl rfl λenv2 w E u=>?_⟩;have:=(w.ev (x:=x) (λs h=>D2 h)).pt A;simp only[AE.wp,this,w.val (x:=i) (λs h=>El h),hi];exact⟨C,B,I,u⟩
  .exact h.elim
 |ld x=>
  simp only[AE.wp]at h|-;cases D:BH O (x.ev O)with
  |none=>rw[D]at h;exact h.elim|some cs=>
   rw [D]at h;simp only[An]at h|-;cases hf:IA cs with
   |none=>rw[hf]at h;exact h.elim|some t=>
    rw [hf]at h;refine⟨h.1,A7 h.2 rfl rfl λenv2 w E u=>?_⟩;simp only[AE.wp,w.addr (x:=x) (λs h=>h),D,An,hf];exact⟨h.1,u⟩
 |lda x n=>
  simp only[AE.wp]at h|-;cases D:BH O (x.ev O)with
  |none=>rw[D]at h;exact h.elim|some cs=>
   rw [D]at h;simp only[An]at h|-;refine⟨h.1,A7 h.2 rfl rfl λenv2 w E u=>?_⟩;simp only[AE.wp,w.addr (x:=x) (λs h=>h),D,An];exact⟨h.1,u⟩
 |ldb s n=>
  simp only[AE.wp]at h|-;split at h
  .rename_i cs D
   try simp only[D]
   refine ⟨h.1,A7 h.2 rfl rfl λenv2 w E u=>?_⟩;have C:=w.addr (x:=.s s) (λs h=>h);obtain⟨ds,I,_⟩:=(w.sl s g!).bx D;simp only[AG.ev,D,I,BH,q0]at C;simp only[AE.wp,I,C];exact⟨h.1,u⟩
  .exact h.elim
 |ldt x=>
  simp only[AE.wp]at h|-;split at h
  .rename_i s F θ;split at h
   .rename_i cs L;split at h
    .rename_i n es D
     try simp only[θ,L,D]
     refine ⟨h,.cell s F (.list n es),by simp[BM.app,L],⟨cs,L,D⟩,V,?_,(λs he=>o2),i_,(λs F t he=>by cases he;rfl),λenv2 w E u=>?_⟩
     .intro s' off' t' he;simp only[BM.cell.injEq]at he;obtain⟨rfl,rfl,rfl⟩:=he;cases x with
      |c t=>simp[AG.place]at θ|s n=>
       simp only[AG.place]at θ;split at θ
       next q o J=>simp only[q0,Prod.mk.injEq]at θ;exact .inr ⟨n,by simp[AE.slots,AG.sl],by rw[J,θ.1];rfl⟩
       .simp only[q0,Prod.mk.injEq]at θ;exact .inl (by simp[AE.slots,AG.sl,θ.1])
       .cases θ
     .obtain⟨ds,C,B⟩:=w.eff;simp only[BM.app,C]at u;simp only[AE.wp,w.place (x:=x) (λs h=>h),θ,C,B];exact u
    .exact h.elim
   .exact h.elim
  .exact h.elim
 |bin k op x y=>
  simp only[AE.wp]at h|-;split at h
  .rename_i a b A ε
   try simp only[A,ε]
   cases hb:M6 k op a b with
   |none=>rw[hb]at h;exact h.elim|some t=>
    rw [hb]at h;refine A7 h rfl rfl λenv2 w E u=>?_;simp only[AE.wp,w.val (x:=x) (λs h=>D2 h),w.val (x:=y) (λs h=>El h),A,ε,hb,An];exact u
  .exact h.elim
 |not x=>
  simp only[AE.wp]at h|-;split at h
  .rename_i b A
   try simp only[A]
   refine A7 h rfl rfl λenv2 w E u=>?_;simp only[AE.wp,w.val (x:=x) (λs h=>h),A];exact u
  .exact h.elim
 |neg x=>
  simp only[AE.wp]at h|-;split at h
  .rename_i k n A
   try simp only[A]
   refine A7 h rfl rfl λenv2 w E u=>?_;simp only[AE.wp,w.val (x:=x) (λs h=>h),A];exact u
  .exact h.elim
 |pick c a b=>
  simp only[AE.wp]at h|-;split at h
  .rename_i q D
   try simp only[D]
   have key:∀t,((if q=X then a else b).ev O).val=Y t->∀env2,Ey (.pick c a b) .none dst O env2->∀E:EV->AB->Prop,E (.tv t) env2->(AE.pick c a b).wp S env2 dst E:=by
    intro t Z env2 w E u;have hv:=w.val (x:=if q=X then a else b) (λs h=>by
     cases q
     .exact El (El h)
     .exact El (D2 h))
    simp only[AG.val]at hv;rw[Z]at hv;simp only[AE.wp,w.val (x:=c) (λs h=>D2 h),D];cases he:(if q=X then a else b).ev env2<;>rw[he]at hv<;>simp[EV.val]at hv<;>subst hv<;>exact u
   split at h
   .rename_i t A
    try simp only[A]
    exact A7 h rfl rfl (key t (by rw[A];rfl))
   .rename_i t A
    try simp only[A]
    exact A7 h rfl rfl (key t (by rw[A];rfl))
   .exact h.elim
  .exact h.elim
 |len x=>
  simp only[AE.wp]at h|-;split at h
  .rename_i n es A
   try simp only[A]
   refine A7 h rfl rfl λenv2 w E u=>?_;simp only[AE.wp,w.val (x:=x) (λs h=>h),A];exact u
  .exact h.elim
 |fdv x k=>
  simp only[AE.wp]at h|-;split at h
  .rename_i row A
   try simp only[A]
   refine A7 h rfl rfl λenv2 w E u=>?_;simp only[AE.wp,w.val (x:=x) (λs h=>h),A];exact u
  .exact h.elim
 |ldv x n=>
  simp only[AE.wp]at h|-;split at h
  .rename_i row A
   try simp only[A]
   refine ⟨h.1,A7 h.2 rfl rfl λenv2 w E u=>?_⟩;simp only[AE.wp,w.val (x:=x) (λs h=>h),A];exact⟨h.1,u⟩
  .exact h.elim
 |Abr x=>
  simp only[AE.wp]at h|-;split at h
  .rename_i s A
   try simp only[A]
   refine A7 h rfl rfl λenv2 w E u=>?_;simp only[AE.wp,w.val (x:=x) (λs h=>h),A];exact u
  .exact h.elim
 |slc n x lo hi=>
  simp only[AE.wp]at h|-;split at h
  .rename_i m es A
   try simp only[A]
   split at h
   .rename_i k1 l k2 hh C B
    try simp only[C,B]
    refine ⟨h.1,h.2.1,A7 h.2.2 rfl rfl λenv2 w E u=>?_⟩;simp only[AE.wp,w.val (x:=x) (λs h=>D2 h),A,w.bnd (x:=lo) (λs h=>El (D2 h)),w.bnd (x:=hi) (λs h=>El (El h)),C,B];exact⟨h.1,h.2.1,u⟩
   .exact h.elim
  .exact h.elim
 |Aaq x lo hi=>
  simp only[AE.wp]at h|-;split at h
  .rename_i str A
   try simp only[A]
   split at h
   .rename_i k1 l k2 hh C B
    try simp only[C,B]
    refine ⟨h.1,h.2.1,h.2.2.1,A7 h.2.2.2 rfl rfl λenv2 w E u=>?_⟩;simp only[AE.wp,w.val (x:=x) (λs h=>D2 h),A,w.bnd (x:=lo) (λs h=>El (D2 h)),w.bnd (x:=hi) (λs h=>El (El h)),C,B];exact⟨h.1,h.2.1,h.2.2.1,u⟩
   .exact h.elim
  .exact h.elim
 |bld zero ζ=>
  simp only[AE.wp]at h|-;cases D:Hn O ζ with
  |none=>rw[D]at h;exact h.elim|some P=>
   rw [D]at h;simp only[An]at h|-;cases hf:F2 zero P with
   |none=>rw[hf]at h;exact h.elim|some cs=>
    rw [hf]at h;refine A7 h rfl rfl λenv2 w E u=>?_;simp only[AE.wp,w.parts (xs:=ζ) (λs h=>h),D,An,hf];exact u
 |lst n ζ=>
  simp only[AE.wp]at h|-;cases D:Go.Sf.vals O ζ with
  |none=>rw[D]at h;exact h.elim|some P=>
   rw [D]at h;simp only[An]at h|-;refine⟨h.1,A7 h.2 rfl rfl λenv2 w E u=>?_⟩;simp only[AE.wp,w.vals (xs:=ζ) (λs h=>h),D,An];exact⟨h.1,u⟩
 |app n x y=>
  simp only[AE.wp]at h|-;split at h
  .rename_i m es m' fs A ε
   try simp only[A,ε]
   obtain ⟨C,B,I,R⟩:=h;cases x with
   |c t=>simp[AG.ev]at A|s s=>
    simp only[AG.ev]at A;subst C;refine⟨rfl,B,I,R,.slot s (.list m es),rfl,A,?_,V,(λs he=>o2),i_,V,λenv2 w E u=>?_⟩
    .intro s' t' he;simp only[BM.slot.injEq]at he;simp[AE.dem,AG.sl,he.1]
    .have:=w.eff;simp only[BM.ok]at this;simp only[AE.wp,AG.ev,this,w.val (x:=y) (λs h=>El h),ε];exact⟨trivial,B,I,u⟩
  .exact h.elim
 |call g xs=>
  simp only[AE.wp]at h|-;cases D:Go.Sf.vals O xs with
  |none=>rw[D]at h;exact h.elim|some P=>
   rw [D]at h;simp only[An]at h|-;obtain⟨r,C,B⟩:=h;refine⟨r,C,λQ=>A7 (B Q) rfl (by cases r<;>rfl) λenv2 w E u=>?_⟩;simp only[AE.wp,w.vals (xs:=xs) (λs h=>h),D,An];exact⟨r,C,λ_=>u⟩
 |Aa8 x xs=>
  simp only[AE.wp]at h|-;split at h
  .rename_i g caps P A D
   try simp only[A,D]
   obtain ⟨r,C,B⟩:=h;refine⟨r,C,λQ=>A7 (B Q) rfl (by cases r<;>rfl) λenv2 w E u=>?_⟩;simp only[AE.wp,w.val (x:=x) (λs h=>D2 h),w.vals (xs:=xs) (λs h=>El h),A,D];exact⟨r,C,λ_=>u⟩
  .exact h.elim
 |clo g xs=>
  simp only[AE.wp]at h|-;cases D:Go.Sf.vals O xs with
  |none=>rw[D]at h;exact h.elim|some P=>
   rw [D]at h;simp only[An]at h|-;refine A7 h rfl rfl λenv2 w E u=>?_;simp only[AE.wp,w.vals (xs:=xs) (λs h=>h),D,An];exact u
 |ext x i=>
  simp only[AE.wp]at h|-;split at h
  .rename_i P A
   try simp only[A]
   cases hf:P[i]? with
   |none=>rw[hf]at h;exact h.elim|some t=>
    rw [hf]at h;refine A7 h rfl rfl λenv2 w E u=>?_;have:=(w.ev (x:=x) (λs h=>h)).tp A;simp only[AE.wp,this,hf,An];exact u
  .exact h.elim
 |cvt k x=>
  simp only[AE.wp]at h|-;split at h
  .rename_i k n A
   try simp only[A]
   refine A7 h rfl rfl λenv2 w E u=>?_;simp only[AE.wp,w.val (x:=x) (λs h=>h),A];exact u
  .exact h.elim
 |Aam x i=>
  simp only[AE.wp]at h|-;split at h
  .rename_i str k j A hi
   try simp only[A,hi]
   obtain ⟨C,b,B,I⟩:=h;refine⟨C,b,B,A7 I rfl rfl λenv2 w E u=>?_⟩;simp only[AE.wp,w.val (x:=x) (λs h=>D2 h),w.val (x:=i) (λs h=>El h),A,hi];exact⟨C,b,B,u⟩
  .exact h.elim
 |Abc x=>
  simp only[AE.wp]at h|-;split at h
  .rename_i t A
   try simp only[A]
   refine A7 h rfl rfl λenv2 w E u=>?_;simp only[AE.wp,w.val (x:=x) (λs h=>h),A];exact u
  .exact h.elim
 |Abp x=>
  simp only[AE.wp]at h|-;split at h
  .rename_i t d A
   try simp only[A]
   refine ⟨h.1,h.2,.none,rfl,trivial,V,V,(λs he=>o2),λ_=>⟨rfl,λδ hd=>?_⟩,V,λenv2 w E u=>?_⟩
   .simp only[q0]at hd;subst hd;exact h.1
   .simp only[AE.wp,w.val (x:=x) (λs h=>h),A];exact⟨w.new rfl _ rfl h.1,u⟩
  .exact h.elim
 |mm mx x y=>
  simp only[AE.wp]at h|-;split at h
  .rename_i k a k' b A ε
   try simp only[A,ε]
   refine ⟨h.1,A7 h.2 rfl rfl λenv2 w E u=>?_⟩;simp only[AE.wp,w.val (x:=x) (λs h=>D2 h),w.val (x:=y) (λs h=>El h),A,ε];exact⟨h.1,u⟩
  .exact h.elim
 |alc cs=>
  simp only[AE.wp]at h|-;split at h
  .rename_i d;refine⟨h.1,h.2,.none,rfl,trivial,V,V,(λs he=>o2),λ_=>⟨rfl,λδ hd=>?_⟩,V,λenv2 w E u=>?_⟩
   .simp only[q0]at hd;subst hd;exact h.1
   .simp only[AE.wp];exact⟨w.new rfl _ rfl h.1,u⟩
  .exact h.elim
 |st n x v=>cases H
 |stb n s v=>cases H
 |frz s=>cases H
 |xal s=>
  simp only[AE.wp]at h|-;split at h
  .rename_i n es L
   try simp only[L]
   refine ⟨h,.none,rfl,trivial,V,V,?_,i_,V,λenv2 w E u=>?_⟩
   .intro s' he;simp only[EV.wm,q0]at he;exact .inl (by simp[AE.AaS,he])
   .have B:=(w.sl s g!).xo L;simp only[AE.wp,B];exact u
  .exact h.elim
 |Abi x=>
  simp only[AE.wp]at h|-;cases A:x.wi O with
  |none=>rw[A]at h;exact h.elim|some p=>
   rw [A]at h;simp only[An]at h|-;refine A7 h rfl rfl λenv2 w E u=>?_;simp only[AE.wp,w.wi (x:=x) (λs h=>h),A,An];exact u
 |lan x=>
  simp only[AE.wp]at h|-;split at h
  .rename_i s F A;cases J:O.nat s F with
   |none=>rw[J]at h;exact h.elim|some es=>
    rw [J]at h;simp only[An]at h
    try simp only[A,J]
    have G:∃n∈x.sl,O.get n=.bp s F:=by
     cases x with
     |c t=>simp[AG.ev]at A|s n=>exact⟨n,e?,A⟩
    obtain ⟨n,M,hb⟩:=G;refine⟨h,.none,rfl,trivial,V,V,?_,i_,V,λenv2 w E u=>?_⟩
    .intro s' he;simp only[EV.wm,q0]at he;subst he;exact .inr ⟨n,M,h!⟩
    .have C:=(w.ev (x:=x) (λs h=>h)).bp A;have B:=(w.bp n M s h!).nat F;rw[J]at B;simp only[AE.wp,C,B,An];exact u
  .exact h.elim
 |nld x=>
  simp only[AE.wp]at h|-;split at h
  .rename_i s F r A;cases J:O.nat s F with
   |none=>rw[J]at h;exact h.elim|some es=>
    rw [J]at h;simp only[An]at h;obtain⟨η,h⟩:=h
    try simp only[A,J]
    have G:∃n∈x.sl,O.get n=.nh s F (.el r):=by
     cases x with
     |c t=>simp[AG.ev]at A|s n=>exact⟨n,e?,A⟩
    obtain ⟨n,M,hb⟩:=G;refine⟨η,h,.none,rfl,trivial,V,V,?_,i_,V,λenv2 w E u=>?_⟩
    .intro s' he;simp only[EV.wm,q0]at he;subst he;exact .inr ⟨n,M,h!⟩
    .have C:=(w.ev (x:=x) (λs h=>h)).nh A;have B:=(w.bp n M s h!).nat F;rw[J]at B;simp only[AE.wp,C,B,An];exact⟨η,u⟩
  .exact h.elim
 |nia x i=>
  simp only[AE.wp]at h|-;split at h
  .rename_i s F k j A κ;cases J:O.nat s F with
   |none=>rw[J]at h;exact h.elim|some es=>
    rw [J]at h;simp only[An]at h;obtain⟨η,I,h⟩:=h
    try simp only[A,κ,J]
    have G:∃n∈x.sl,O.get n=.nh s F .hd:=by
     cases x with
     |c t=>simp[AG.ev]at A|s n=>exact⟨n,e?,A⟩
    obtain ⟨n,M,hb⟩:=G;refine⟨η,I,h,.none,rfl,trivial,V,V,?_,i_,V,λenv2 w E u=>?_⟩
    .intro s' he;simp only[EV.wm,q0]at he;subst he;exact .inr ⟨n,D2 M,h!⟩
    .have C:=(w.ev (x:=x) (λs h=>D2 h)).nh A;have e2:=w.val (x:=i) (λs h=>El h);have B:=(w.bp n (D2 M) s h!).nat F;rw[J]at B;simp only[AE.wp,C,e2,κ,B,An];exact⟨η,I,u⟩
  .rename_i s F r k j A κ;cases J:O.nat s F with
   |none=>rw[J]at h;exact h.elim|some es=>
    rw [J]at h;simp only[An]at h;obtain⟨η,fs,I,R,h⟩:=h
    try simp only[A,κ,J]
    have G:∃n∈x.sl,O.get n=.nh s F (.rw r):=by
     cases x with
     |c t=>simp[AG.ev]at A|s n=>exact⟨n,e?,A⟩
    obtain ⟨n,M,hb⟩:=G;refine⟨η,fs,I,R,h,.none,rfl,trivial,V,V,?_,i_,V,λenv2 w E u=>?_⟩
    .intro s' he;simp only[EV.wm,q0]at he;subst he;exact .inr ⟨n,D2 M,h!⟩
    .have C:=(w.ev (x:=x) (λs h=>D2 h)).nh A;have e2:=w.val (x:=i) (λs h=>El h);have B:=(w.bp n (D2 M) s h!).nat F;rw[J]at B;simp only[AE.wp,C,e2,κ,B,An];exact⟨η,fs,I,R,u⟩
  .exact h.elim
 |lac x=>
  simp only[AE.wp]at h|-;split at h
  .rename_i s F A;split at h
   .rename_i p J
    try simp only[A,J]
    have G:∃n∈x.sl,O.get n=.bp s F:=by
     cases x with
     |c t=>simp[AG.ev]at A|s n=>exact⟨n,e?,A⟩
    obtain ⟨n,M,hb⟩:=G;refine⟨h,.none,rfl,trivial,V,V,?_,i_,V,λenv2 w E u=>?_⟩
    .intro s' he;simp only[EV.wm,q0]at he;subst he;exact .inr ⟨n,M,h!⟩
    .have C:=(w.ev (x:=x) (λs h=>h)).bp A;have B:=(w.bp n M s h!).sx (Y F);rw[J]at B;simp only[AE.wp,C,B];exact u
   .exact h.elim
  .exact h.elim
 |ctk _=>cases H
 |cpt _ _=>cases H
 |cut _ _ _=>cases H
 |Aa7 _ _ _ _=>cases H
 |AaU g xs=>
  simp only[AE.wp]at h|-;cases D:Go.Sf.vals O xs with
  |none=>rw[D]at h;exact h.elim|some P=>
   rw [D]at h;simp only[An]at h|-;obtain⟨r,C,B⟩:=h;refine⟨r,C,A7 B rfl rfl λenv2 w E u=>?_⟩;simp only[AE.wp,w.vals (xs:=xs) (λs h=>h),D,An];exact⟨r,C,u⟩
 |Aaf _ _ _=>cases H
 |AaE g xs=>
  simp only[AE.wp]at h|-;cases D:Go.Sf.Aak O xs with
  |none=>rw[D]at h;exact h.elim|some P=>
   rw [D]at h;simp only[An]at h|-;obtain⟨r,C,B⟩:=h;refine⟨r,C,λQ=>A7 (B Q) rfl (by cases r<;>rfl) λenv2 w E u=>?_⟩;simp only[AE.wp,w.Aak (xs:=xs) (λs h=>h),D,An];exact⟨r,C,λ_=>u⟩
 |AaY ζ x=>
  simp only[AE.wp]at h|-;split at h
  .rename_i t d A
   try simp only[A]
   cases D:E1 ζ t.cells with
   |none=>rw[D]at h;exact h.elim|some cs=>
    rw [D]at h;simp only[An]at h|-;refine⟨h.1,h.2,.none,rfl,trivial,V,V,(λs he=>o2),λ_=>⟨rfl,λδ hd=>?_⟩,V,λenv2 w E u=>?_⟩
    .simp only[q0]at hd;subst hd;exact h.1
    .simp only[AE.wp,w.val (x:=x) (λs h=>h),A,D,An];exact⟨w.new rfl _ rfl h.1,u⟩
  .exact h.elim
 |xia x i n=>
  simp only[AE.wp]at h|-;cases A:x.wi O with
  |none=>rw[A]at h;exact h.elim|some p=>
   rw [A]at h;simp only[An]at h|-;split at h
   .rename_i ik j κ
    try simp only[κ]
    obtain ⟨⟨C,B⟩,I,R,h5⟩:=h;have G:∃n∈x.sl,(O.get n).wm=Y p.1.1:=by
     cases x with
     |c t=>simp[AG.ev,EV.wm]at C|s n=>exact⟨n,e?,C⟩
    obtain ⟨m,hm',hr⟩:=G;refine⟨⟨C,B⟩,I,R,h5,.none,rfl,trivial,V,V,?_,i_,V,λenv2 w E u=>?_⟩
    .intro s' he;simp only[EV.wm,q0]at he;subst he;exact .inr ⟨m,D2 hm',hr⟩
    .have e1:=w.wi (x:=x) (λs h=>D2 h);have e2:=w.val (x:=i) (λs h=>El h);have e3:=(w.ev (x:=x) (λs h=>D2 h)).wm;simp only[AE.wp,e1,A,e2,κ,An,e3,C];exact⟨⟨trivial,B⟩,I,R,u⟩
   .exact h.elim
 |xfa x k=>
  simp only[AE.wp]at h|-;split at h
  .rename_i q i c A;split at h
   .rename_i p J
    try simp only[A,J]
    have G:∃n∈x.sl,O.get n=.lp q i c:=by
     cases x with
     |c t=>simp[AG.ev]at A|s n=>exact⟨n,e?,A⟩
    obtain ⟨n,M,hb⟩:=G;refine⟨h,.none,rfl,trivial,V,V,?_,i_,V,λenv2 w E u=>?_⟩
    .intro s' he;simp only[EV.wm,q0]at he;subst he;exact .inr ⟨n,M,h!⟩
    .have C:=(w.ev (x:=x) (λs h=>h)).Abv (q:=q) (by rw[A];rfl);have B:=(w.bp n M q h!).sx i;rw[J]at B;simp only[AE.wp,C,A,B];exact u
   .exact h.elim
  .exact h.elim
 |xld x=>
  simp only[AE.wp]at h|-;split at h
  .rename_i q i c A;split at h
   .rename_i p J
    try simp only[A,J]
    cases D:(p.2.flatMap TV.cells)[c]? with
    |none=>rw[D]at h;exact h.elim|some t=>
     rw [D]at h;simp only[An]at h|-;have G:∃n∈x.sl,O.get n=.lp q i c:=by
      cases x with
      |c t=>simp[AG.ev]at A|s n=>exact⟨n,e?,A⟩
     obtain ⟨n,M,hb⟩:=G;refine A7 h rfl rfl λenv2 w E u=>?_;have C:=(w.ev (x:=x) (λs h=>h)).Abv (q:=q) (by rw[A];rfl);have B:=(w.bp n M q h!).sx i;rw[J]at B;simp only[AE.wp,C,A,B,D,An];exact u
   .exact h.elim
  .exact h.elim
 |xst _ _ _=>cases H
 |rel _=>cases H
 |Aa5 _=>cases H
 |tkx _=>cases H
 |AaX _ _ _=>cases H
 |Aaw g xs=>
  simp only[AE.wp]at h|-;split at h
  .rename_i d;obtain⟨N,h⟩:=h;refine⟨N,?_⟩;cases D:Go.Sf.vals O xs with
   |none=>rw[D]at h;exact h.elim|some P=>
    rw [D]at h;simp only[An]at h|-;obtain⟨n,es,C,B⟩:=h;refine⟨n,es,C,λQ=>⟨B Q,.none,rfl,trivial,V,V,(λs he=>o2),λ_=>⟨rfl,λδ hd=>?_⟩,V,λenv2 w E u=>?_⟩⟩
    .simp only[q0]at hd;subst hd;exact N
    .simp only[AE.wp,w.vals (xs:=xs) (λs h=>h),D,An];exact⟨w.new rfl _ rfl N,n,es,C,λ_=>u⟩
  .exact h.elim
 |mkx n z x=>
  simp only[AE.wp]at h|-;split at h
  .rename_i d k j A
   try simp only[A]
   obtain ⟨N,C,B,I⟩:=h;refine⟨N,C,B,I,.none,rfl,trivial,V,V,(λs he=>o2),λ_=>⟨rfl,λδ hd=>?_⟩,V,λenv2 w E u=>?_⟩
   .simp only[q0]at hd;subst hd;exact N
   .simp only[AE.wp,w.val (x:=x) (λs h=>h),A];exact⟨w.new rfl _ rfl N,C,B,u⟩
  .exact h.elim
 |Aat _ _ _=>cases H
 |AaH _ _=>cases H
 |Aag _=>cases H
 |Abd _=>cases H
 |AaB _ _=>cases H
 |nst _ _=>cases H
 |Abk _=>cases H
 |AaC _ _ _=>cases H
 |ldg _ _=>cases H
 |stq _ _ _ _=>cases H
 |mkm=>cases H
 |mvm _=>cases H
 |Aau _ _=>cases H
 |mlk _ _ _=>cases H
 |mup _ _ _ _=>cases H
 |sB _ _=>cases H
 |mnx _=>cases H
 |men _=>cases H
 |Aa9 _=>cases H
 |stx _ _ _=>cases H
 |isn _=>cases H
 |AaV g xs=>
  simp only[AE.wp]at h|-;cases D:Go.Sf.vals O xs with
  |none=>rw[D]at h;exact h.elim|some P=>
   rw [D]at h;simp only[An]at h|-;obtain⟨r,C,B⟩:=h;refine⟨r,C,λQ=>A7 (B Q) rfl rfl λenv2 w E u=>?_⟩;simp only[AE.wp,w.vals (xs:=xs) (λs h=>h),D,An];exact⟨r,C,λ_=>u⟩
 |Aap g xs=>
  simp only[AE.wp]at h|-;cases D:Go.Sf.vals O xs with
  |none=>rw[D]at h;exact h.elim|some P=>
   rw [D]at h;simp only[An]at h|-;obtain⟨r,C,I,B⟩:=h;refine⟨r,C,I,λQ=>A7 (B Q) rfl rfl λenv2 w E u=>?_⟩;simp only[AE.wp,w.vals (xs:=xs) (λs h=>h),D,An];exact⟨r,C,I,λ_=>u⟩
 |Abj x k n agg=>
  simp only[AE.wp]at h|-;split at h
  .rename_i cs A
   try simp only[A]
   obtain ⟨C,B⟩:=h;refine⟨C,?_⟩;cases agg with
   |true=>
    simp only[if_true]at B|-;refine A7 B rfl rfl λenv2 w E u=>?_;simp only[AE.wp,w.val (x:=x) (λs h=>h),A,if_true];exact⟨C,u⟩
   |false=>
    simp only[Bool.false_eq_true,if_false]at B|-;cases D:IA (cs.drop k)with
    |none=>rw[D]at B;exact B.elim|some t=>
     rw [D]at B;simp only[An]at B|-;refine A7 B rfl rfl λenv2 w E u=>?_;simp only[AE.wp,w.val (x:=x) (λs h=>h),A,Bool.false_eq_true,if_false,D,An];exact⟨C,u⟩
  .exact h.elim
end
end Go.Sf
