/- What an operation leans on: the slots that it reads, whether or not they own their lists. -/
import Derived.Test.YtfcfkigfmofniaaGreatSfCode
set_option linter.all false
open Option renaming some->Y,none->W
open Bool renaming true->X,false->T
open List renaming map_map->u!,getElem?_map->u?,mem_append->v1,map_drop->v5
namespace Go.Sf
theorem ng{cs ds:List AR}(h:ds.map AR.key=cs.map AR.key):ds.map (·.t)=cs.map (·.t):=by
 have:=congrArg (List.map Prod.fst) h;simpa[u!,Function.comp_def,AR.key]using this
def dG(p:TV×Bool):TV:=match p with
 |(.xl n es,X)=>.list n es|p=>p.1
theorem aQ{cs ds:List AR}(h:ds.map AR.key=cs.map AR.key):ds.map AR.Aax=cs.map AR.Aax:=by
 have a:∀c:AR,c.Aax=dG c.key:=by
  rintro ⟨_|_,t⟩<;>cases t<;>rfl
 have:=congrArg (List.map dG) h;simpa[u!,Function.comp_def,<-a]using this
def vS(p:TV×Bool):Option (Nat×Fq):=match p with
 |(.xl n es,X)=>Y (n,es)|_=>W
theorem ri{cs ds:List AR}(h:ds.map AR.key=cs.map AR.key)(k:Nat):(match ds[k]? with
  |some ⟨X,.xl n es⟩=>Y (n,es)|_=>W)=(match cs[k]? with
  |some ⟨X,.xl n es⟩=>Y (n,es)|_=>W):=by
 have a:∀o:Option AR,(match o with
  |some ⟨X,.xl n es⟩=>Y (n,es)|_=>W)=(o.map AR.key).bind vS:=by
  rintro (_|⟨_|_,t⟩)
  .rfl
  .cases t<;>rfl
  .cases t<;>rfl
 rw [a,a];have:=congrArg (λl=>l[k]?) h;simp only[u?]at this;rw[this]
def vT(p:TV×Bool):Option Fq:=match p with
 |(.xn es,X)=>Y es|_=>W
theorem rj{cs ds:List AR}(h:ds.map AR.key=cs.map AR.key)(k:Nat):(match ds[k]? with
  |some ⟨X,.xn es⟩=>Y es|_=>W)=(match cs[k]? with
  |some ⟨X,.xn es⟩=>Y es|_=>W):=by
 have a:∀o:Option AR,(match o with
  |some ⟨X,.xn es⟩=>Y es|_=>W)=(o.map AR.key).bind vT:=by
  rintro (_|⟨_|_,t⟩)
  .rfl
  .cases t<;>rfl
  .cases t<;>rfl
 rw [a,a];have:=congrArg (λl=>l[k]?) h;simp only[u?]at this;rw[this]
def EV.like(e e2:EV):Prop:=
 e2=e\/(∃n es,(e=.tv (.list n es)/\e2=.ow (.list n es))\/(e=.ow (.list n es)/\e2=.tv (.list n es)))\/∃cs ds,e=.bx cs/\e2=.bx ds/\ds.map AR.key=cs.map AR.key
theorem EV.like.rfl'(e:EV):e.like e:=.inl rfl
variable{e e2:EV}
theorem EV.like.symm(h:e.like e2):e2.like e:=by
 rcases h with rfl|⟨n,es,⟨rfl,rfl⟩|⟨rfl,rfl⟩⟩|⟨cs,ds,rfl,rfl,h⟩
 .exact .inl rfl
 .exact .inr (.inl ⟨n,es,.inr ⟨rfl,rfl⟩⟩)
 .exact .inr (.inl ⟨n,es,.inl ⟨rfl,rfl⟩⟩)
 .exact .inr (.inr ⟨ds,cs,rfl,rfl,h.symm⟩)
theorem EV.like.yi(h:e.like e2):e2.yi=e.yi:=by
 rcases h with rfl|⟨n,es,⟨rfl,rfl⟩|⟨rfl,rfl⟩⟩|⟨cs,ds,rfl,rfl,h⟩<;>rfl
variable{q:Nat}
theorem EV.like.AaS(h:e.like e2)(a:e.yi=Y q):e2=e:=by
 rcases h with rfl|⟨n,es,⟨rfl,rfl⟩|⟨rfl,rfl⟩⟩|⟨cs,ds,rfl,rfl,h⟩
 .rfl
 .cases a
 .cases a
 .cases a
theorem EV.like.xo(h:e.like e2){n:Nat}{es:Fq}(he:e=.xo n es):e2=.xo n es:=by
 subst he;rcases h with rfl|⟨n,es,⟨h,_⟩|⟨h,_⟩⟩|⟨cs,ds,h,_⟩
 .rfl
 .cases h
 .cases h
 .cases h
theorem EV.like.val(h:e.like e2):e2.val=e.val:=by
 rcases h with rfl|⟨n,es,⟨rfl,rfl⟩|⟨rfl,rfl⟩⟩|⟨cs,ds,rfl,rfl,h⟩<;>rfl
theorem EV.like.pt(h:e.like e2){row:Fq}(he:e=.tv (.pt row)):e2=.tv (.pt row):=by
 subst he;rcases h with rfl|⟨n,es,⟨h,rfl⟩|⟨h,rfl⟩⟩|⟨cs,ds,h,rfl,a⟩
 .rfl
 .simp at h
 .cases h
 .cases h
theorem EV.like.bp(h:e.like e2){q a:Nat}(he:e=.bp q a):e2=.bp q a:=by
 subst he;rcases h with rfl|⟨n,es,⟨h,rfl⟩|⟨h,rfl⟩⟩|⟨cs,ds,h,rfl,b⟩
 .rfl
 .cases h
 .cases h
 .cases h
theorem EV.like.tp(h:e.like e2){a:Fq}(he:e=.tp a):e2=.tp a:=by
 subst he;rcases h with rfl|⟨n,es,⟨h,rfl⟩|⟨h,rfl⟩⟩|⟨cs,ds,h,rfl,b⟩
 .rfl
 .cases h
 .cases h
 .cases h
theorem EV.like.bx(h:e.like e2){cs:List AR}(he:e=.bx cs):∃ds,e2=.bx ds/\ds.map AR.key=cs.map AR.key:=by
 subst he;rcases h with rfl|⟨n,es,⟨h,rfl⟩|⟨h,rfl⟩⟩|⟨cs',ds,h,rfl,a⟩
 .exact⟨cs,rfl,rfl⟩
 .cases h
 .cases h
 .simp only[EV.bx.injEq]at h;subst h;exact⟨ds,rfl,a⟩
def AE.sl:AE->QQ
 |.s n=>[n]|.c _=>[]
def Wx:Option AE->QQ
 |some x=>x.sl|none=>[]
def Fh:List AE->QQ
 |[]=>[]|x::xs=>x.sl++Fh xs
def VA:List (Nat×Nat×AE)->QQ
 |[]=>[]|x::xs=>x.2.2.sl++VA xs
def AD.slots:AD->QQ
 |.mv x=>x.sl|.tk s=>[s]|.AaG _=>[]|.zj x _=>x.sl|.bad s _=>[s]|.iad x i _=>x.sl++i.sl|.zJ x i _ _=>x.sl++i.sl|.ld x=>x.sl|.lda x _=>x.sl|.ldb s _=>[s]|.ldt x=>x.sl|.bin _ _ x y=>x.sl++y.sl|.not x=>x.sl|.neg x=>x.sl|.pick c a b=>c.sl++(a.sl++b.sl)|.len x=>x.sl|.AaO x=>x.sl|.zq _ x lo hi=>x.sl++(Wx lo++Wx hi)|.y6 x lo hi=>x.sl++(Wx lo++Wx hi)|.bld _ ps=>VA ps|.lst _ ps=>Fh ps|.app _ x y=>x.sl++y.sl|.call _ xs=>Fh xs|.Aas x xs=>x.sl++Fh xs|.zv _ xs=>Fh xs|.ext x _=>x.sl|.zp _ x=>x.sl|.zr x i=>x.sl++i.sl|.Aaz x=>x.sl|.AaF x=>x.sl|.mm _ x y=>x.sl++y.sl|.alc _=>[]|.st _ x v=>x.sl++v.sl|.stb _ s v=>s::v.sl|.frz s=>[s]|.AaN x _ _ _=>x.sl|.xal s=>[s]|.AaH x=>x.sl|.xia x i _=>x.sl++i.sl|.xfa x _=>x.sl|.xld x=>x.sl|.xst x v _=>x.sl++v.sl|.rel s=>[s]|.Aau _=>[]|.Aav _=>[]|.tkx s=>[s]|.Aah _ s y=>s::y.sl|.zH _ xs=>Fh xs|.mkx _ _ x=>x.sl|.zC _ x ys=>x.sl++Fh ys|.z8 _ x=>x.sl|.yz gs=>gs.flatMap GC.sl|.stx _ s q=>[s,q]|.Aag _ xs=>Fh xs|.zy _ xs=>Fh xs|.isn x=>x.sl|.fdv x _=>x.sl|.ldv x _=>x.sl|.lac x=>x.sl|.ctk x=>x.sl|.cpt x q=>x.sl++[q]|.cut _ s hi=>s::hi.sl|.zR _ xs=>Fh xs|.Aay _ x=>x.sl|.Aat _ s _ x=>s::x.sl|.Aaf _ xs=>Fh xs|.zi _ xs _=>Fh xs|.AaA q=>[q]|.zL s q=>[s,q]|.lan x=>x.sl|.nia x i=>x.sl++i.sl|.nld x=>x.sl|.nst x v=>x.sl++v.sl|.AaI q=>[q]|.zT _ xs _=>Fh xs|.ldg s _=>[s]|.stq _ _ x v=>x.sl++v.sl|.mkm=>[]|.mvm s=>[s]|.zE _ xs=>Fh xs|.mlk s m x=>s::(m.sl++x.sl)|.mup s m x v=>s::(m.sl++(x.sl++v.sl))|.x7 s m=>s::m.sl|.mnx s=>[s]|.men s=>[s]
def AD.dem:AD->QQ
 |.tk s=>[s]|.app _ x _=>x.sl|_=>[]
def AD.mov:AD->Bool
 |.st ..=>T|.stb ..=>T|.frz _=>T|.xst ..=>T|.rel _=>T|.Aau _=>T|.Aav _=>T|.tkx _=>T|.Aah ..=>T|.zC ..=>T|.z8 ..=>T|.yz _=>T|.stx ..=>T|.isn _=>T|.ctk _=>T|.cpt ..=>T|.cut ..=>T|.Aat ..=>T|.zi ..=>T|.AaA _=>T|.zL ..=>T|.nst ..=>T|.AaI _=>T|.zT ..=>T|.ldg ..=>T|.stq ..=>T|.mkm=>T|.mvm _=>T|.zE ..=>T|.mlk ..=>T|.mup ..=>T|.x7 ..=>T|.mnx _=>T|.men _=>T|_=>X
def AD.x3:AD->Bool
 |.alc _=>X|.AaF _=>X|.Aay ..=>X|.zH ..=>X|.mkx ..=>X|_=>T
def AD.Aae:AD->QQ
 |.bad s _=>[s]|.xal s=>[s]|_=>[]
inductive A7 where
 |none
 |slot (s:Nat) (t:TV)
 |cell (s off:Nat) (t:TV)
def A7.app:A7->AB->AB
 |.none,O=>O|.slot s t,O=>(s,.tv t)::O|.cell s off t,O=>match O.get s with
  |.bx cs=>(s,.bx (cs.set off ⟨T,t⟩))::O|_=>O
def A7.ok:A7->AB->Prop
 |.none,_=>True|.slot s t,O=>O.get s=.ow t|.cell s off t,O=>∃cs,O.get s=.bx cs/\cs[off]?=Y ⟨X,t⟩
structure D6(op:AD)(f:A7)(dst:Option Nat)(O env2:AB):Prop where
 sl:∀s∈op.slots,(O.get s).like (env2.get s)
 bp:∀s∈op.slots,∀q,(O.get s).yi=Y q->(O.get q).like (env2.get q)
 dem:∀s∈op.dem,(∀cs,O.get s≠.bx cs)->env2.get s=O.get s
 eff:f.ok env2
 new:op.x3=X->∀d,dst=Y d->O.jj d=X->env2.jj d=X
section
variable{op:AD}{f:A7}{dst:Option Nat}{O env2:AB}
variable{x:AE}
theorem D6.val(h:D6 op f dst O env2)(a:∀s∈x.sl,s∈op.slots):x.val env2=x.val O:=by
 cases x with
 |c t=>rfl|s n=>exact(h.sl n (a n e?)).val
theorem D6.ev(h:D6 op f dst O env2)(a:∀s∈x.sl,s∈op.slots):(x.ev O).like (x.ev env2):=by
 cases x with
 |c t=>exact .inl rfl|s n=>exact h.sl n (a n e?)
theorem D6.vals(h:D6 op f dst O env2):∀{xs:List AE},(∀s∈Fh xs,s∈op.slots)->Go.Sf.vals env2 xs=Go.Sf.vals O xs
 |[],_=>rfl|x::xs,b=>by
  simp only[Fh,v1]at b;simp only[Go.Sf.vals,h.val (x:=x) (λs a=>b s (.inl a)),h.vals (xs:=xs) (λs a=>b s (.inr a))]
theorem D6.parts(h:D6 op f dst O env2):∀{xs:List (Nat×Nat×AE)},(∀s∈VA xs,s∈op.slots)->GT env2 xs=GT O xs
 |[],_=>rfl|(i,n,x)::xs,b=>by
  simp only[VA,v1]at b;simp only[GT,h.val (x:=x) (λs a=>b s (.inl a)),h.parts (xs:=xs) (λs a=>b s (.inr a))]
theorem D6.bnd(h:D6 op f dst O env2){x:Option AE}{k:Int}(a:∀s∈Wx x,s∈op.slots):Gk env2 k x=Gk O k x:=by
 cases x with
 |none=>rfl|some x=>exact h.val a
theorem D6.addr(h:D6 op f dst O env2)(j:∀s∈x.sl,s∈op.slots):A4 env2 (x.ev env2)=A4 O (x.ev O):=by
 cases x with
 |c t=>cases t<;>rfl
 |s n=>
  have g:=j n e?;have a:=h.sl n g;have i:=h.bp n g;simp only[AE.ev];generalize O.get n=e at a i;generalize env2.get n=e2 at a;rcases a with rfl|⟨n,es,⟨rfl,rfl⟩|⟨rfl,rfl⟩⟩|⟨cs,ds,rfl,rfl,d⟩
  .cases e2 with
   |bp q k=>
    have b:=i q rfl;simp only[A4];generalize O.get q=e1 at b;generalize env2.get q=e2 at b;rcases b with rfl|⟨n,es,⟨rfl,rfl⟩|⟨rfl,rfl⟩⟩|⟨cs,ds,rfl,rfl,d⟩
    .rfl
    .rfl
    .rfl
    .simp only[v5,ng d]
   |tv t=>cases t<;>rfl
   |_=>rfl
  .rfl
  .rfl
  .simp only[A4,ng d]
theorem D6.place(h:D6 op f dst O env2)(d:∀s∈x.sl,s∈op.slots):x.place env2=x.place O:=by
 cases x with
 |c t=>rfl|s n=>
  have g:=h.sl n (d n e?);simp only[AE.place];rcases g with a|⟨n,es,⟨a,b⟩|⟨a,b⟩⟩|⟨cs,ds,a,b,_⟩
  .rw[a]
  .rw[a,b]
  .rw[a,b]
  .rw[a,b]
variable{q:Nat}
theorem EV.like.x5{O env2:AB}(h:(O.get q).like (env2.get q))(i:Option Nat):env2.x5 q i=O.x5 q i:=by
 rcases h with a|⟨n,es,⟨a,b⟩|⟨a,b⟩⟩|⟨cs,ds,a,b,c⟩
 .exact AB.y9 a
 .cases i<;>simp only[AB.x5,a,b]
 .cases i<;>simp only[AB.x5,a,b]
 .cases i with
  |none=>simp only[AB.x5,a,b]|some k=>simp only[AB.x5,a,b];exact ri c k
theorem EV.like.nat{O env2:AB}(h:(O.get q).like (env2.get q))(i:Nat):env2.nat q i=O.nat q i:=by
 rcases h with a|⟨n,es,⟨a,b⟩|⟨a,b⟩⟩|⟨cs,ds,a,b,c⟩
 .exact AB.zk a
 .simp only[AB.nat,a,b]
 .simp only[AB.nat,a,b]
 .simp only[AB.nat,a,b];exact rj c i
variable{e e2:EV}
theorem EV.like.nh(h:e.like e2){q i:Nat}{k:NK}(he:e=.nh q i k):e2=.nh q i k:=by
 subst he;exact h.AaS rfl
theorem D6.yg(h:D6 op f dst O env2)(g:∀s∈x.sl,s∈op.slots):x.yg env2=x.yg O:=by
 cases x with
 |c t=>rfl|s n=>
  have d:=g n e?;have j:=h.sl n d;have k:=h.bp n d;simp only[AE.yg];rcases j with a|⟨m,es,⟨a,b⟩|⟨a,b⟩⟩|⟨cs,ds,a,b,_⟩
  .rw[a];cases he:O.get n with
   |la q i=>simp only[(k q (by rw[he];rfl)).x5 i]|_=>rfl
  .rw[a,b]
  .rw[a,b]
  .rw[a,b]
theorem D6.AaJ(h:D6 op f dst O env2)(i:∀s∈x.sl,s∈op.slots):x.AaJ env2=x.AaJ O:=by
 unfold AE.AaJ;rw[h.yg i];cases x.yg O with
 |some p=>rfl|none=>
  cases x with
  |c t=>cases t<;>rfl
  |s n=>
   have j:=i n e?;have k:=h.sl n j;have o:=h.bp n j;simp only[AE.ev];rcases k with a|⟨m,es,⟨a,d⟩|⟨a,d⟩⟩|⟨cs,ds,a,d,u⟩
   .rw[a];cases he:O.get n with
    |bp q w=>
     have r:=o q (by rw[he];rfl);simp only;rcases r with b|⟨m,es,⟨b,g⟩|⟨b,g⟩⟩|⟨cs,ds,b,g,v⟩
     .rw[b]
     .rw[b,g]
     .rw[b,g]
     .rw[b,g];have:=aQ v;simp only[v5,this]
    |_=>rfl
   .rw[a,d];rfl
   .rw[a,d];rfl
   .rw[a,d];simp only[aQ u]
theorem D6.zm(h:D6 op f dst O env2):∀{xs:List AE},(∀s∈Fh xs,s∈op.slots)->Go.Sf.zm env2 xs=Go.Sf.zm O xs
 |[],_=>rfl|x::xs,b=>by
  simp only[Fh,v1]at b;simp only[Go.Sf.zm,h.AaJ (x:=x) (λs a=>b s (.inl a)),h.zm (xs:=xs) (λs a=>b s (.inr a))]
end
structure gU(S:FuncId->Fq->Al->Prop)(op:AD)(dst:Option Nat)(O:AB)(e:EV)(env':AB)(f:A7):Prop where
 env':env'=f.app O
 ok:f.ok O
 slot:∀s t,f=.slot s t->s∈op.dem
 cell:∀s off t,f=.cell s off t->(s∈op.slots\/∃x∈op.slots,(O.get x).yi=Y s)
 yi:∀s,e.yi=Y s->(s∈op.Aae\/∃x∈op.slots,(O.get x).yi=Y s)
 new:op.x3=X->e.yi=W/\∀d,dst=Y d->O.jj d=X
 xl:∀s off t,f=.cell s off t->t.zK=T
 again:∀env2,D6 op f dst O env2->∀K2:EV->AB->Prop,K2 e (f.app env2)->op.wp S env2 dst K2
section
variable{S:FuncId->Fq->Al->Prop}{op:AD}{dst:Option Nat}{O:AB}{K:EV->AB->Prop}
variable{e:EV}
theorem Au(b:K e O)(c:op.x3=T)(d:e.yi=W)(h:∀env2,D6 op .none dst O env2->∀a:EV->AB->Prop,a e env2->op.wp S env2 dst a):K e O/\∃f,gU S op dst O e O f:=
 ⟨b,.none,rfl,trivial,V,V,(λs he=>by rw[d]at he;cases he),by simp[c],V,h⟩
variable{α:Type}{l m:List α}
theorem Dw{x:α}(h:x∈m):x∈l++m:=List.mem_append_right _ h
theorem DI{x:α}(h:x∈l):x∈l++m:=List.mem_append_left _ h
theorem frame(H:op.mov=X)(h:op.wp S O dst K):op.wp S O dst λe env'=>K e env'/\∃f,gU S op dst O e env' f:=by
 cases op with
 |mv x=>
  simp only[AD.wp]at h|-;have key:∀t,(x.ev O).val=Y t->∀env2,D6 (.mv x) .none dst O env2->∀E:EV->AB->Prop,E (.tv t) env2->(AD.mv x).wp S env2 dst E:=by
   intro t ht env2 w E u;have hv:=w.val (x:=x) (λs h=>h);simp only[AE.val]at hv;rw[ht]at hv;simp only[AD.wp];cases he:x.ev env2<;>rw[he]at hv<;>simp[EV.val]at hv<;>subst hv<;>exact u
  split at h
  .rename_i t A
   try simp only[A]
   exact Au h rfl rfl (key t (by rw[A];rfl))
  .rename_i t A
   try simp only[A]
   exact Au h rfl rfl (key t (by rw[A];rfl))
  .rename_i Q A
   try simp only[A]
   refine Au h rfl rfl λenv2 w E u=>?_;cases x with
   |c t=>simp[AE.ev]at A|s n=>
    simp only[AE.ev]at A;have B:env2.get n=.tp Q:=(w.sl n (by simp[AD.slots,AE.sl])).tp A;simp only[AD.wp,AE.ev,B];exact u
  .exact h.elim
 |tk s=>
  simp only[AD.wp]at h|-;split at h
  .rename_i t M
   try simp only[M]
   refine ⟨h,.slot s t,rfl,M,?_,V,(λs he=>m?),g?,V,λenv2 w E u=>?_⟩
   .intro s' t' he;simp only[A7.slot.injEq]at he;simp[AD.dem,he.1]
   .have:=w.eff;simp only[A7.ok]at this;simp only[AD.wp,this];exact u
  .rename_i t M
   try simp only[M]
   refine Au h rfl rfl λenv2 w E u=>?_;have:=w.dem s (by simp[AD.dem]) (by simp[M]);simp only[AD.wp,this,M];exact u
  .exact h.elim
 |AaG n=>exact Au h rfl rfl λenv2 w E u=>u|zj x k=>
  simp only[AD.wp]at h|-;split at h
  .rename_i row A
   try simp only[A]
   refine Au h rfl rfl λenv2 w E u=>?_;have:=(w.ev (x:=x) (λs h=>h)).pt A;simp only[AD.wp,this];exact u
  .rename_i s F A;split at h
   .rename_i cs M
    try simp only[A,M]
    have G:∃n∈x.sl,O.get n=.bp s F:=by
     cases x with
     |c t=>simp[AE.ev]at A|s n=>exact⟨n,e?,A⟩
    obtain ⟨n,N,L⟩:=G;refine⟨h,.none,rfl,trivial,V,V,?_,g?,V,λenv2 w E u=>?_⟩
    .intro s' he;simp only[EV.yi,t5]at he;subst he;exact .inr ⟨n,N,h!⟩
    .have C:=(w.ev (x:=x) (λs h=>h)).bp A;have B:=w.bp n N s h!;rw[M]at B;obtain⟨ds,I,_⟩:=B.bx rfl;simp only[AD.wp,C,I];exact u
   .exact h.elim
  .exact h.elim
 |bad s k=>
  simp only[AD.wp]at h|-;split at h
  .rename_i cs M
   try simp only[M]
   refine ⟨h,.none,rfl,trivial,V,V,?_,g?,V,λenv2 w E u=>?_⟩
   .intro s' he;simp only[EV.yi,t5]at he;exact .inl (by simp[AD.Aae,he])
   .have B:=w.sl s f?;rw[M]at B;obtain⟨ds,I,_⟩:=B.bx rfl;simp only[AD.wp,I];exact u
  .rename_i row M
   try simp only[M]
   refine Au h rfl rfl λenv2 w E u=>?_;have:=(w.sl s f?).pt M;simp only[AD.wp,this];exact u
  .exact h.elim
 |iad x i n=>
  simp only[AD.wp]at h|-;split at h
  .rename_i m es k j A hi
   try simp only[A,hi]
   obtain ⟨C,B,e,I,θ⟩:=h;refine⟨C,B,e,I,Au θ rfl rfl λenv2 w E u=>?_⟩;simp only[AD.wp,w.val (x:=x) (λs h=>DI h),w.val (x:=i) (λs h=>Dw h),A,hi];exact⟨C,B,e,I,u⟩
  .exact h.elim
 |zJ x i n k=>
  simp only[AD.wp]at h|-;split at h
  .rename_i row kk j A hi
   try simp only[A,hi]
   obtain ⟨C,B,I,θ⟩:=h;refine⟨C,B,I,Au θ rfl rfl λenv2 w E u=>?_⟩;have:=(w.ev (x:=x) (λs h=>DI h)).pt A;simp only[AD.wp,this,w.val (x:=i) (λs h=>Dw h),hi];exact⟨C,B,I,u⟩
  .exact h.elim
 |ld x=>
  simp only[AD.wp]at h|-;cases D:A4 O (x.ev O)with
  |none=>rw[D]at h;exact h.elim|some cs=>
   rw [D]at h;simp only[Ad]at h|-;cases hf:Gf cs with
   |none=>rw[hf]at h;exact h.elim|some t=>
    rw [hf]at h;refine⟨h.1,Au h.2 rfl rfl λenv2 w E u=>?_⟩;simp only[AD.wp,w.addr (x:=x) (λs h=>h),D,Ad,hf];exact⟨h.1,u⟩
 |lda x n=>
  simp only[AD.wp]at h|-;cases D:A4 O (x.ev O)with
  |none=>rw[D]at h;exact h.elim|some cs=>
   rw [D]at h;simp only[Ad]at h|-;refine⟨h.1,Au h.2 rfl rfl λenv2 w E u=>?_⟩;simp only[AD.wp,w.addr (x:=x) (λs h=>h),D,Ad];exact⟨h.1,u⟩
 |ldb s n=>
  simp only[AD.wp]at h|-;split at h
  .rename_i cs D
   try simp only[D]
   refine ⟨h.1,Au h.2 rfl rfl λenv2 w E u=>?_⟩;have C:=w.addr (x:=.s s) (λs h=>h);obtain⟨ds,I,_⟩:=(w.sl s f?).bx D;simp only[AE.ev,D,I,A4,t5]at C;simp only[AD.wp,I,C];exact⟨h.1,u⟩
  .exact h.elim
 |ldt x=>
  simp only[AD.wp]at h|-;split at h
  .rename_i s F ε;split at h
   .rename_i cs M;split at h
    .rename_i n es D
     try simp only[ε,M,D]
     refine ⟨h,.cell s F (.list n es),by simp[A7.app,M],⟨cs,M,D⟩,V,?_,(λs he=>m?),g?,(λs F t he=>by cases he;rfl),λenv2 w E u=>?_⟩
     .intro s' off' t' he;simp only[A7.cell.injEq]at he;obtain⟨rfl,rfl,rfl⟩:=he;cases x with
      |c t=>simp[AE.place]at ε|s n=>
       simp only[AE.place]at ε;split at ε
       next q o J=>simp only[t5,Prod.mk.injEq]at ε;exact .inr ⟨n,by simp[AD.slots,AE.sl],by rw[J,ε.1];rfl⟩
       .simp only[t5,Prod.mk.injEq]at ε;exact .inl (by simp[AD.slots,AE.sl,ε.1])
       .cases ε
     .obtain⟨ds,C,B⟩:=w.eff;simp only[A7.app,C]at u;simp only[AD.wp,w.place (x:=x) (λs h=>h),ε,C,B];exact u
    .exact h.elim
   .exact h.elim
  .exact h.elim
 |bin k op x y=>
  simp only[AD.wp]at h|-;split at h
  .rename_i a b A κ
   try simp only[A,κ]
   cases L:LZ k op a b with
   |none=>rw[L]at h;exact h.elim|some t=>
    rw [L]at h;refine Au h rfl rfl λenv2 w E u=>?_;simp only[AD.wp,w.val (x:=x) (λs h=>DI h),w.val (x:=y) (λs h=>Dw h),A,κ,L,Ad];exact u
  .exact h.elim
 |not x=>
  simp only[AD.wp]at h|-;split at h
  .rename_i b A
   try simp only[A]
   refine Au h rfl rfl λenv2 w E u=>?_;simp only[AD.wp,w.val (x:=x) (λs h=>h),A];exact u
  .exact h.elim
 |neg x=>
  simp only[AD.wp]at h|-;split at h
  .rename_i k n A
   try simp only[A]
   refine Au h rfl rfl λenv2 w E u=>?_;simp only[AD.wp,w.val (x:=x) (λs h=>h),A];exact u
  .exact h.elim
 |pick c a b=>
  simp only[AD.wp]at h|-;split at h
  .rename_i q D
   try simp only[D]
   have key:∀t,((if q=X then a else b).ev O).val=Y t->∀env2,D6 (.pick c a b) .none dst O env2->∀E:EV->AB->Prop,E (.tv t) env2->(AD.pick c a b).wp S env2 dst E:=by
    intro t ht env2 w E u;have hv:=w.val (x:=if q=X then a else b) (λs h=>by
     cases q
     .exact Dw (Dw h)
     .exact Dw (DI h))
    simp only[AE.val]at hv;rw[ht]at hv;simp only[AD.wp,w.val (x:=c) (λs h=>DI h),D];cases he:(if q=X then a else b).ev env2<;>rw[he]at hv<;>simp[EV.val]at hv<;>subst hv<;>exact u
   split at h
   .rename_i t A
    try simp only[A]
    exact Au h rfl rfl (key t (by rw[A];rfl))
   .rename_i t A
    try simp only[A]
    exact Au h rfl rfl (key t (by rw[A];rfl))
   .exact h.elim
  .exact h.elim
 |len x=>
  simp only[AD.wp]at h|-;split at h
  .rename_i n es A
   try simp only[A]
   refine Au h rfl rfl λenv2 w E u=>?_;simp only[AD.wp,w.val (x:=x) (λs h=>h),A];exact u
  .exact h.elim
 |fdv x k=>
  simp only[AD.wp]at h|-;split at h
  .rename_i row A
   try simp only[A]
   refine Au h rfl rfl λenv2 w E u=>?_;simp only[AD.wp,w.val (x:=x) (λs h=>h),A];exact u
  .exact h.elim
 |ldv x n=>
  simp only[AD.wp]at h|-;split at h
  .rename_i row A
   try simp only[A]
   refine ⟨h.1,Au h.2 rfl rfl λenv2 w E u=>?_⟩;simp only[AD.wp,w.val (x:=x) (λs h=>h),A];exact⟨h.1,u⟩
  .exact h.elim
 |AaO x=>
  simp only[AD.wp]at h|-;split at h
  .rename_i s A
   try simp only[A]
   refine Au h rfl rfl λenv2 w E u=>?_;simp only[AD.wp,w.val (x:=x) (λs h=>h),A];exact u
  .exact h.elim
 |zq n x lo hi=>
  simp only[AD.wp]at h|-;split at h
  .rename_i m es A
   try simp only[A]
   split at h
   .rename_i k1 l k2 hh C B
    try simp only[C,B]
    refine ⟨h.1,h.2.1,Au h.2.2 rfl rfl λenv2 w E u=>?_⟩;simp only[AD.wp,w.val (x:=x) (λs h=>DI h),A,w.bnd (x:=lo) (λs h=>Dw (DI h)),w.bnd (x:=hi) (λs h=>Dw (Dw h)),C,B];exact⟨h.1,h.2.1,u⟩
   .exact h.elim
  .exact h.elim
 |y6 x lo hi=>
  simp only[AD.wp]at h|-;split at h
  .rename_i str A
   try simp only[A]
   split at h
   .rename_i k1 l k2 hh C B
    try simp only[C,B]
    refine ⟨h.1,h.2.1,h.2.2.1,Au h.2.2.2 rfl rfl λenv2 w E u=>?_⟩;simp only[AD.wp,w.val (x:=x) (λs h=>DI h),A,w.bnd (x:=lo) (λs h=>Dw (DI h)),w.bnd (x:=hi) (λs h=>Dw (Dw h)),C,B];exact⟨h.1,h.2.1,h.2.2.1,u⟩
   .exact h.elim
  .exact h.elim
 |bld zero δ=>
  simp only[AD.wp]at h|-;cases D:GT O δ with
  |none=>rw[D]at h;exact h.elim|some Q=>
   rw [D]at h;simp only[Ad]at h|-;cases hf:Ek zero Q with
   |none=>rw[hf]at h;exact h.elim|some cs=>
    rw [hf]at h;refine Au h rfl rfl λenv2 w E u=>?_;simp only[AD.wp,w.parts (xs:=δ) (λs h=>h),D,Ad,hf];exact u
 |lst n δ=>
  simp only[AD.wp]at h|-;cases D:Go.Sf.vals O δ with
  |none=>rw[D]at h;exact h.elim|some Q=>
   rw [D]at h;simp only[Ad]at h|-;refine⟨h.1,Au h.2 rfl rfl λenv2 w E u=>?_⟩;simp only[AD.wp,w.vals (xs:=δ) (λs h=>h),D,Ad];exact⟨h.1,u⟩
 |app n x y=>
  simp only[AD.wp]at h|-;split at h
  .rename_i m es m' fs A κ
   try simp only[A,κ]
   obtain ⟨C,B,I,θ⟩:=h;cases x with
   |c t=>simp[AE.ev]at A|s s=>
    simp only[AE.ev]at A;subst C;refine⟨rfl,B,I,θ,.slot s (.list m es),rfl,A,?_,V,(λs he=>m?),g?,V,λenv2 w E u=>?_⟩
    .intro s' t' he;simp only[A7.slot.injEq]at he;simp[AD.dem,AE.sl,he.1]
    .have:=w.eff;simp only[A7.ok]at this;simp only[AD.wp,AE.ev,this,w.val (x:=y) (λs h=>Dw h),κ];exact⟨trivial,B,I,u⟩
  .exact h.elim
 |call g xs=>
  simp only[AD.wp]at h|-;cases D:Go.Sf.vals O xs with
  |none=>rw[D]at h;exact h.elim|some Q=>
   rw [D]at h;simp only[Ad]at h|-;obtain⟨r,C,B⟩:=h;refine⟨r,C,λR=>Au (B R) rfl (by cases r<;>rfl) λenv2 w E u=>?_⟩;simp only[AD.wp,w.vals (xs:=xs) (λs h=>h),D,Ad];exact⟨r,C,λ_=>u⟩
 |Aas x xs=>
  simp only[AD.wp]at h|-;split at h
  .rename_i g caps Q A D
   try simp only[A,D]
   obtain ⟨r,C,B⟩:=h;refine⟨r,C,λR=>Au (B R) rfl (by cases r<;>rfl) λenv2 w E u=>?_⟩;simp only[AD.wp,w.val (x:=x) (λs h=>DI h),w.vals (xs:=xs) (λs h=>Dw h),A,D];exact⟨r,C,λ_=>u⟩
  .exact h.elim
 |zv g xs=>
  simp only[AD.wp]at h|-;cases D:Go.Sf.vals O xs with
  |none=>rw[D]at h;exact h.elim|some Q=>
   rw [D]at h;simp only[Ad]at h|-;refine Au h rfl rfl λenv2 w E u=>?_;simp only[AD.wp,w.vals (xs:=xs) (λs h=>h),D,Ad];exact u
 |ext x i=>
  simp only[AD.wp]at h|-;split at h
  .rename_i Q A
   try simp only[A]
   cases hf:Q[i]? with
   |none=>rw[hf]at h;exact h.elim|some t=>
    rw [hf]at h;refine Au h rfl rfl λenv2 w E u=>?_;have:=(w.ev (x:=x) (λs h=>h)).tp A;simp only[AD.wp,this,hf,Ad];exact u
  .exact h.elim
 |zp k x=>
  simp only[AD.wp]at h|-;split at h
  .rename_i k n A
   try simp only[A]
   refine Au h rfl rfl λenv2 w E u=>?_;simp only[AD.wp,w.val (x:=x) (λs h=>h),A];exact u
  .exact h.elim
 |zr x i=>
  simp only[AD.wp]at h|-;split at h
  .rename_i str k j A hi
   try simp only[A,hi]
   obtain ⟨C,b,B,I⟩:=h;refine⟨C,b,B,Au I rfl rfl λenv2 w E u=>?_⟩;simp only[AD.wp,w.val (x:=x) (λs h=>DI h),w.val (x:=i) (λs h=>Dw h),A,hi];exact⟨C,b,B,u⟩
  .exact h.elim
 |Aaz x=>
  simp only[AD.wp]at h|-;split at h
  .rename_i t A
   try simp only[A]
   refine Au h rfl rfl λenv2 w E u=>?_;simp only[AD.wp,w.val (x:=x) (λs h=>h),A];exact u
  .exact h.elim
 |AaF x=>
  simp only[AD.wp]at h|-;split at h
  .rename_i t d A
   try simp only[A]
   refine ⟨h.1,h.2,.none,rfl,trivial,V,V,(λs he=>m?),λ_=>⟨rfl,λZ hd=>?_⟩,V,λenv2 w E u=>?_⟩
   .simp only[t5]at hd;subst hd;exact h.1
   .simp only[AD.wp,w.val (x:=x) (λs h=>h),A];exact⟨w.new rfl _ rfl h.1,u⟩
  .exact h.elim
 |mm mx x y=>
  simp only[AD.wp]at h|-;split at h
  .rename_i k a k' b A κ
   try simp only[A,κ]
   refine ⟨h.1,Au h.2 rfl rfl λenv2 w E u=>?_⟩;simp only[AD.wp,w.val (x:=x) (λs h=>DI h),w.val (x:=y) (λs h=>Dw h),A,κ];exact⟨h.1,u⟩
  .exact h.elim
 |alc cs=>
  simp only[AD.wp]at h|-;split at h
  .rename_i d;refine⟨h.1,h.2,.none,rfl,trivial,V,V,(λs he=>m?),λ_=>⟨rfl,λZ hd=>?_⟩,V,λenv2 w E u=>?_⟩
   .simp only[t5]at hd;subst hd;exact h.1
   .simp only[AD.wp];exact⟨w.new rfl _ rfl h.1,u⟩
  .exact h.elim
 |st n x v=>cases H
 |stb n s v=>cases H
 |frz s=>cases H
 |xal s=>
  simp only[AD.wp]at h|-;split at h
  .rename_i n es M
   try simp only[M]
   refine ⟨h,.none,rfl,trivial,V,V,?_,g?,V,λenv2 w E u=>?_⟩
   .intro s' he;simp only[EV.yi,t5]at he;exact .inl (by simp[AD.Aae,he])
   .have B:=(w.sl s f?).xo M;simp only[AD.wp,B];exact u
  .exact h.elim
 |AaH x=>
  simp only[AD.wp]at h|-;cases A:x.yg O with
  |none=>rw[A]at h;exact h.elim|some p=>
   rw [A]at h;simp only[Ad]at h|-;refine Au h rfl rfl λenv2 w E u=>?_;simp only[AD.wp,w.yg (x:=x) (λs h=>h),A,Ad];exact u
 |lan x=>
  simp only[AD.wp]at h|-;split at h
  .rename_i s F A;cases J:O.nat s F with
   |none=>rw[J]at h;exact h.elim|some es=>
    rw [J]at h;simp only[Ad]at h
    try simp only[A,J]
    have G:∃n∈x.sl,O.get n=.bp s F:=by
     cases x with
     |c t=>simp[AE.ev]at A|s n=>exact⟨n,e?,A⟩
    obtain ⟨n,N,L⟩:=G;refine⟨h,.none,rfl,trivial,V,V,?_,g?,V,λenv2 w E u=>?_⟩
    .intro s' he;simp only[EV.yi,t5]at he;subst he;exact .inr ⟨n,N,h!⟩
    .have C:=(w.ev (x:=x) (λs h=>h)).bp A;have B:=(w.bp n N s h!).nat F;rw[J]at B;simp only[AD.wp,C,B,Ad];exact u
  .exact h.elim
 |nld x=>
  simp only[AD.wp]at h|-;split at h
  .rename_i s F r A;cases J:O.nat s F with
   |none=>rw[J]at h;exact h.elim|some es=>
    rw [J]at h;simp only[Ad]at h;obtain⟨ζ,h⟩:=h
    try simp only[A,J]
    have G:∃n∈x.sl,O.get n=.nh s F (.el r):=by
     cases x with
     |c t=>simp[AE.ev]at A|s n=>exact⟨n,e?,A⟩
    obtain ⟨n,N,L⟩:=G;refine⟨ζ,h,.none,rfl,trivial,V,V,?_,g?,V,λenv2 w E u=>?_⟩
    .intro s' he;simp only[EV.yi,t5]at he;subst he;exact .inr ⟨n,N,h!⟩
    .have C:=(w.ev (x:=x) (λs h=>h)).nh A;have B:=(w.bp n N s h!).nat F;rw[J]at B;simp only[AD.wp,C,B,Ad];exact⟨ζ,u⟩
  .exact h.elim
 |nia x i=>
  simp only[AD.wp]at h|-;split at h
  .rename_i s F k j A η;cases J:O.nat s F with
   |none=>rw[J]at h;exact h.elim|some es=>
    rw [J]at h;simp only[Ad]at h;obtain⟨ζ,I,h⟩:=h
    try simp only[A,η,J]
    have G:∃n∈x.sl,O.get n=.nh s F .hd:=by
     cases x with
     |c t=>simp[AE.ev]at A|s n=>exact⟨n,e?,A⟩
    obtain ⟨n,N,L⟩:=G;refine⟨ζ,I,h,.none,rfl,trivial,V,V,?_,g?,V,λenv2 w E u=>?_⟩
    .intro s' he;simp only[EV.yi,t5]at he;subst he;exact .inr ⟨n,DI N,h!⟩
    .have C:=(w.ev (x:=x) (λs h=>DI h)).nh A;have e2:=w.val (x:=i) (λs h=>Dw h);have B:=(w.bp n (DI N) s h!).nat F;rw[J]at B;simp only[AD.wp,C,e2,η,B,Ad];exact⟨ζ,I,u⟩
  .rename_i s F r k j A η;cases J:O.nat s F with
   |none=>rw[J]at h;exact h.elim|some es=>
    rw [J]at h;simp only[Ad]at h;obtain⟨ζ,fs,I,θ,h⟩:=h
    try simp only[A,η,J]
    have G:∃n∈x.sl,O.get n=.nh s F (.rw r):=by
     cases x with
     |c t=>simp[AE.ev]at A|s n=>exact⟨n,e?,A⟩
    obtain ⟨n,N,L⟩:=G;refine⟨ζ,fs,I,θ,h,.none,rfl,trivial,V,V,?_,g?,V,λenv2 w E u=>?_⟩
    .intro s' he;simp only[EV.yi,t5]at he;subst he;exact .inr ⟨n,DI N,h!⟩
    .have C:=(w.ev (x:=x) (λs h=>DI h)).nh A;have e2:=w.val (x:=i) (λs h=>Dw h);have B:=(w.bp n (DI N) s h!).nat F;rw[J]at B;simp only[AD.wp,C,e2,η,B,Ad];exact⟨ζ,fs,I,θ,u⟩
  .exact h.elim
 |lac x=>
  simp only[AD.wp]at h|-;split at h
  .rename_i s F A;split at h
   .rename_i p J
    try simp only[A,J]
    have G:∃n∈x.sl,O.get n=.bp s F:=by
     cases x with
     |c t=>simp[AE.ev]at A|s n=>exact⟨n,e?,A⟩
    obtain ⟨n,N,L⟩:=G;refine⟨h,.none,rfl,trivial,V,V,?_,g?,V,λenv2 w E u=>?_⟩
    .intro s' he;simp only[EV.yi,t5]at he;subst he;exact .inr ⟨n,N,h!⟩
    .have C:=(w.ev (x:=x) (λs h=>h)).bp A;have B:=(w.bp n N s h!).x5 (Y F);rw[J]at B;simp only[AD.wp,C,B];exact u
   .exact h.elim
  .exact h.elim
 |ctk _=>cases H
 |cpt _ _=>cases H
 |cut _ _ _=>cases H
 |Aat _ _ _ _=>cases H
 |Aaf g xs=>
  simp only[AD.wp]at h|-;cases D:Go.Sf.vals O xs with
  |none=>rw[D]at h;exact h.elim|some Q=>
   rw [D]at h;simp only[Ad]at h|-;obtain⟨r,C,B⟩:=h;refine⟨r,C,Au B rfl rfl λenv2 w E u=>?_⟩;simp only[AD.wp,w.vals (xs:=xs) (λs h=>h),D,Ad];exact⟨r,C,u⟩
 |zi _ _ _=>cases H
 |zR g xs=>
  simp only[AD.wp]at h|-;cases D:Go.Sf.zm O xs with
  |none=>rw[D]at h;exact h.elim|some Q=>
   rw [D]at h;simp only[Ad]at h|-;obtain⟨r,C,B⟩:=h;refine⟨r,C,λR=>Au (B R) rfl (by cases r<;>rfl) λenv2 w E u=>?_⟩;simp only[AD.wp,w.zm (xs:=xs) (λs h=>h),D,Ad];exact⟨r,C,λ_=>u⟩
 |Aay δ x=>
  simp only[AD.wp]at h|-;split at h
  .rename_i t d A
   try simp only[A]
   cases D:D8 δ t.cells with
   |none=>rw[D]at h;exact h.elim|some cs=>
    rw [D]at h;simp only[Ad]at h|-;refine⟨h.1,h.2,.none,rfl,trivial,V,V,(λs he=>m?),λ_=>⟨rfl,λZ hd=>?_⟩,V,λenv2 w E u=>?_⟩
    .simp only[t5]at hd;subst hd;exact h.1
    .simp only[AD.wp,w.val (x:=x) (λs h=>h),A,D,Ad];exact⟨w.new rfl _ rfl h.1,u⟩
  .exact h.elim
 |xia x i n=>
  simp only[AD.wp]at h|-;cases A:x.yg O with
  |none=>rw[A]at h;exact h.elim|some p=>
   rw [A]at h;simp only[Ad]at h|-;split at h
   .rename_i ik j η
    try simp only[η]
    obtain ⟨⟨C,B⟩,I,θ,h5⟩:=h;have G:∃n∈x.sl,(O.get n).yi=Y p.1.1:=by
     cases x with
     |c t=>simp[AE.ev,EV.yi]at C|s n=>exact⟨n,e?,C⟩
    obtain ⟨m,hm',hr⟩:=G;refine⟨⟨C,B⟩,I,θ,h5,.none,rfl,trivial,V,V,?_,g?,V,λenv2 w E u=>?_⟩
    .intro s' he;simp only[EV.yi,t5]at he;subst he;exact .inr ⟨m,DI hm',hr⟩
    .have e1:=w.yg (x:=x) (λs h=>DI h);have e2:=w.val (x:=i) (λs h=>Dw h);have e3:=(w.ev (x:=x) (λs h=>DI h)).yi;simp only[AD.wp,e1,A,e2,η,Ad,e3,C];exact⟨⟨trivial,B⟩,I,θ,u⟩
   .exact h.elim
 |xfa x k=>
  simp only[AD.wp]at h|-;split at h
  .rename_i q i c A;split at h
   .rename_i p J
    try simp only[A,J]
    have G:∃n∈x.sl,O.get n=.lp q i c:=by
     cases x with
     |c t=>simp[AE.ev]at A|s n=>exact⟨n,e?,A⟩
    obtain ⟨n,N,L⟩:=G;refine⟨h,.none,rfl,trivial,V,V,?_,g?,V,λenv2 w E u=>?_⟩
    .intro s' he;simp only[EV.yi,t5]at he;subst he;exact .inr ⟨n,N,h!⟩
    .have C:=(w.ev (x:=x) (λs h=>h)).AaS (q:=q) (by rw[A];rfl);have B:=(w.bp n N q h!).x5 i;rw[J]at B;simp only[AD.wp,C,A,B];exact u
   .exact h.elim
  .exact h.elim
 |xld x=>
  simp only[AD.wp]at h|-;split at h
  .rename_i q i c A;split at h
   .rename_i p J
    try simp only[A,J]
    cases D:(p.2.flatMap TV.cells)[c]? with
    |none=>rw[D]at h;exact h.elim|some t=>
     rw [D]at h;simp only[Ad]at h|-;have G:∃n∈x.sl,O.get n=.lp q i c:=by
      cases x with
      |c t=>simp[AE.ev]at A|s n=>exact⟨n,e?,A⟩
     obtain ⟨n,N,L⟩:=G;refine Au h rfl rfl λenv2 w E u=>?_;have C:=(w.ev (x:=x) (λs h=>h)).AaS (q:=q) (by rw[A];rfl);have B:=(w.bp n N q h!).x5 i;rw[J]at B;simp only[AD.wp,C,A,B,D,Ad];exact u
   .exact h.elim
  .exact h.elim
 |xst _ _ _=>cases H
 |rel _=>cases H
 |Aau _=>cases H
 |tkx _=>cases H
 |Aah _ _ _=>cases H
 |zH g xs=>
  simp only[AD.wp]at h|-;split at h
  .rename_i d;obtain⟨P,h⟩:=h;refine⟨P,?_⟩;cases D:Go.Sf.vals O xs with
   |none=>rw[D]at h;exact h.elim|some Q=>
    rw [D]at h;simp only[Ad]at h|-;obtain⟨n,es,C,B⟩:=h;refine⟨n,es,C,λR=>⟨B R,.none,rfl,trivial,V,V,(λs he=>m?),λ_=>⟨rfl,λZ hd=>?_⟩,V,λenv2 w E u=>?_⟩⟩
    .simp only[t5]at hd;subst hd;exact P
    .simp only[AD.wp,w.vals (xs:=xs) (λs h=>h),D,Ad];exact⟨w.new rfl _ rfl P,n,es,C,λ_=>u⟩
  .exact h.elim
 |mkx n z x=>
  simp only[AD.wp]at h|-;split at h
  .rename_i d k j A
   try simp only[A]
   obtain ⟨P,C,B,I⟩:=h;refine⟨P,C,B,I,.none,rfl,trivial,V,V,(λs he=>m?),λ_=>⟨rfl,λZ hd=>?_⟩,V,λenv2 w E u=>?_⟩
   .simp only[t5]at hd;subst hd;exact P
   .simp only[AD.wp,w.val (x:=x) (λs h=>h),A];exact⟨w.new rfl _ rfl P,C,B,u⟩
  .exact h.elim
 |zC _ _ _=>cases H
 |z8 _ _=>cases H
 |yz _=>cases H
 |AaA _=>cases H
 |zL _ _=>cases H
 |nst _ _=>cases H
 |AaI _=>cases H
 |zT _ _ _=>cases H
 |ldg _ _=>cases H
 |stq _ _ _ _=>cases H
 |mkm=>cases H
 |mvm _=>cases H
 |zE _ _=>cases H
 |mlk _ _ _=>cases H
 |mup _ _ _ _=>cases H
 |x7 _ _=>cases H
 |mnx _=>cases H
 |men _=>cases H
 |Aav _=>cases H
 |stx _ _ _=>cases H
 |isn _=>cases H
 |Aag g xs=>
  simp only[AD.wp]at h|-;cases D:Go.Sf.vals O xs with
  |none=>rw[D]at h;exact h.elim|some Q=>
   rw [D]at h;simp only[Ad]at h|-;obtain⟨r,C,B⟩:=h;refine⟨r,C,λR=>Au (B R) rfl rfl λenv2 w E u=>?_⟩;simp only[AD.wp,w.vals (xs:=xs) (λs h=>h),D,Ad];exact⟨r,C,λ_=>u⟩
 |zy g xs=>
  simp only[AD.wp]at h|-;cases D:Go.Sf.vals O xs with
  |none=>rw[D]at h;exact h.elim|some Q=>
   rw [D]at h;simp only[Ad]at h|-;obtain⟨r,C,I,B⟩:=h;refine⟨r,C,I,λR=>Au (B R) rfl rfl λenv2 w E u=>?_⟩;simp only[AD.wp,w.vals (xs:=xs) (λs h=>h),D,Ad];exact⟨r,C,I,λ_=>u⟩
 |AaN x k n agg=>
  simp only[AD.wp]at h|-;split at h
  .rename_i cs A
   try simp only[A]
   obtain ⟨C,B⟩:=h;refine⟨C,?_⟩;cases agg with
   |true=>
    simp only[if_true]at B|-;refine Au B rfl rfl λenv2 w E u=>?_;simp only[AD.wp,w.val (x:=x) (λs h=>h),A,if_true];exact⟨C,u⟩
   |false=>
    simp only[Bool.false_eq_true,if_false]at B|-;cases D:Gf (cs.drop k)with
    |none=>rw[D]at B;exact B.elim|some t=>
     rw [D]at B;simp only[Ad]at B|-;refine Au B rfl rfl λenv2 w E u=>?_;simp only[AD.wp,w.val (x:=x) (λs h=>h),A,Bool.false_eq_true,if_false,D,Ad];exact⟨C,u⟩
  .exact h.elim
end
end Go.Sf
