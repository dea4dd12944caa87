/- What an operation leans on: the slots that it reads, whether or not they own their lists. -/
import Derived.Test.YtfcfkigfmofniaaGreatSfCode
set_option linter.all false
namespace Go.Sf
theorem nR{cs ds:List AR}(h:ds.map AR.key=cs.map AR.key):ds.map (·.t)=cs.map (·.t):=by
 have:=congrArg (List.map Prod.fst) h;simpa[List.map_map,Function.comp_def,AR.key]using this
def cm(p:TV×Bool):TV:=match p with
 |(.xl n es,true)=>.list n es|p=>p.1
theorem aB{cs ds:List AR}(h:ds.map AR.key=cs.map AR.key):ds.map AR.Aam=cs.map AR.Aam:=by
 have a:∀c:AR,c.Aam=cm c.key:=by
  rintro ⟨_|_,t⟩<;>cases t<;>rfl
 have:=congrArg (List.map cm) h;simpa[List.map_map,Function.comp_def,<-a]using this
def vG(p:TV×Bool):Option (Nat×Fq):=match p with
 |(.xl n es,true)=>some (n,es)|_=>none
theorem rU{cs ds:List AR}(h:ds.map AR.key=cs.map AR.key)(k:Nat):(match ds[k]? with
  |some ⟨true,.xl n es⟩=>some (n,es)|_=>none)=(match cs[k]? with
  |some ⟨true,.xl n es⟩=>some (n,es)|_=>none):=by
 have a:∀o:Option AR,(match o with
  |some ⟨true,.xl n es⟩=>some (n,es)|_=>none)=(o.map AR.key).bind vG:=by
  rintro (_|⟨_|_,t⟩)
  .rfl
  .cases t<;>rfl
  .cases t<;>rfl
 rw [a,a];have:=congrArg (fun l=>l[k]?) h;simp only[List.getElem?_map]at this;rw[this]
def vH(p:TV×Bool):Option Fq:=match p with
 |(.xn es,true)=>some es|_=>none
theorem rV{cs ds:List AR}(h:ds.map AR.key=cs.map AR.key)(k:Nat):(match ds[k]? with
  |some ⟨true,.xn es⟩=>some es|_=>none)=(match cs[k]? with
  |some ⟨true,.xn es⟩=>some es|_=>none):=by
 have a:∀o:Option AR,(match o with
  |some ⟨true,.xn es⟩=>some es|_=>none)=(o.map AR.key).bind vH:=by
  rintro (_|⟨_|_,t⟩)
  .rfl
  .cases t<;>rfl
  .cases t<;>rfl
 rw [a,a];have:=congrArg (fun l=>l[k]?) h;simp only[List.getElem?_map]at this;rw[this]
def EV.like(e e2:EV):Prop:=
 e2=e\/(∃n es,(e=.tv (.list n es)/\e2=.ow (.list n es))\/(e=.ow (.list n es)/\e2=.tv (.list n es)))\/∃cs ds,e=.bx cs/\e2=.bx ds/\ds.map AR.key=cs.map AR.key
theorem EV.like.rfl'(e:EV):e.like e:=.inl rfl
variable{e e2:EV}
theorem EV.like.symm(h:e.like e2):e2.like e:=by
 rcases h with rfl|⟨n,es,⟨rfl,rfl⟩|⟨rfl,rfl⟩⟩|⟨cs,ds,rfl,rfl,h⟩
 .exact .inl rfl
 .exact .inr (.inl ⟨n,es,.inr ⟨rfl,rfl⟩⟩)
 .exact .inr (.inl ⟨n,es,.inl ⟨rfl,rfl⟩⟩)
 .exact .inr (.inr ⟨ds,cs,rfl,rfl,h.symm⟩)
theorem EV.like.yc(h:e.like e2):e2.yc=e.yc:=by
 rcases h with rfl|⟨n,es,⟨rfl,rfl⟩|⟨rfl,rfl⟩⟩|⟨cs,ds,rfl,rfl,h⟩<;>rfl
variable{q:Nat}
theorem EV.like.AaC(h:e.like e2)(a:e.yc=some q):e2=e:=by
 rcases h with rfl|⟨n,es,⟨rfl,rfl⟩|⟨rfl,rfl⟩⟩|⟨cs,ds,rfl,rfl,h⟩
 .rfl
 .cases a
 .cases a
 .cases a
theorem EV.like.xo(h:e.like e2){n:Nat}{es:Fq}(he:e=.xo n es):e2=.xo n es:=by
 subst he;rcases h with rfl|⟨n,es,⟨h,_⟩|⟨h,_⟩⟩|⟨cs,ds,h,_⟩
 .rfl
 .cases h
 .cases h
 .cases h
theorem EV.like.val(h:e.like e2):e2.val=e.val:=by
 rcases h with rfl|⟨n,es,⟨rfl,rfl⟩|⟨rfl,rfl⟩⟩|⟨cs,ds,rfl,rfl,h⟩<;>rfl
theorem EV.like.pt(h:e.like e2){row:Fq}(he:e=.tv (.pt row)):e2=.tv (.pt row):=by
 subst he;rcases h with rfl|⟨n,es,⟨h,rfl⟩|⟨h,rfl⟩⟩|⟨cs,ds,h,rfl,a⟩
 .rfl
 .simp at h
 .cases h
 .cases h
theorem EV.like.bp(h:e.like e2){q a:Nat}(he:e=.bp q a):e2=.bp q a:=by
 subst he;rcases h with rfl|⟨n,es,⟨h,rfl⟩|⟨h,rfl⟩⟩|⟨cs,ds,h,rfl,b⟩
 .rfl
 .cases h
 .cases h
 .cases h
theorem EV.like.tp(h:e.like e2){a:Fq}(he:e=.tp a):e2=.tp a:=by
 subst he;rcases h with rfl|⟨n,es,⟨h,rfl⟩|⟨h,rfl⟩⟩|⟨cs,ds,h,rfl,b⟩
 .rfl
 .cases h
 .cases h
 .cases h
theorem EV.like.bx(h:e.like e2){cs:List AR}(he:e=.bx cs):∃ds,e2=.bx ds/\ds.map AR.key=cs.map AR.key:=by
 subst he;rcases h with rfl|⟨n,es,⟨h,rfl⟩|⟨h,rfl⟩⟩|⟨cs',ds,h,rfl,a⟩
 .exact⟨cs,rfl,rfl⟩
 .cases h
 .cases h
 .simp only[EV.bx.injEq]at h;subst h;exact⟨ds,rfl,a⟩
def AE.sl:AE->QQ
 |.s n=>[n]|.c _=>[]
def Wm:Option AE->QQ
 |some x=>x.sl|none=>[]
def FZ:List AE->QQ
 |[]=>[]|x::xs=>x.sl++FZ xs
def Uy:List (Nat×Nat×AE)->QQ
 |[]=>[]|x::xs=>x.2.2.sl++Uy xs
def AD.slots:AD->QQ
 |.mv x=>x.sl|.tk s=>[s]|.Aat _=>[]|.y5 x _=>x.sl|.bad s _=>[s]|.iad x i _=>x.sl++i.sl|.zr x i _ _=>x.sl++i.sl|.ld x=>x.sl|.lda x _=>x.sl|.ldb s _=>[s]|.ldt x=>x.sl|.bin _ _ x y=>x.sl++y.sl|.not x=>x.sl|.neg x=>x.sl|.pick c a b=>c.sl++(a.sl++b.sl)|.len x=>x.sl|.AaA x=>x.sl|.y9 _ x lo hi=>x.sl++(Wm lo++Wm hi)|.yu x lo hi=>x.sl++(Wm lo++Wm hi)|.z7 _ ps=>Uy ps|.lst _ ps=>FZ ps|.app _ x y=>x.sl++y.sl|.call _ xs=>FZ xs|.Aaj x xs=>x.sl++FZ xs|.zc _ xs=>FZ xs|.ext x _=>x.sl|.y8 _ x=>x.sl|.za x i=>x.sl++i.sl|.Aak x=>x.sl|.Aau x=>x.sl|.mm _ x y=>x.sl++y.sl|.alc _=>[]|.st _ x v=>x.sl++v.sl|.stb _ s v=>s::v.sl|.frz s=>[s]|.AaE x _ _ _=>x.sl|.xal s=>[s]|.Aas x=>x.sl|.xia x i _=>x.sl++i.sl|.xfa x _=>x.sl|.xld x=>x.sl|.xst x v _=>x.sl++v.sl|.rel s=>[s]|.Aaf _=>[]|.Aac _=>[]|.tkx s=>[s]|.zY _ s y=>s::y.sl|.zl _ xs=>FZ xs|.z8 _ _ x=>x.sl|.zj _ x ys=>x.sl++FZ ys|.zO _ x=>x.sl|.yt gs=>gs.flatMap GC.sl|.stx _ s q=>[s,q]|.zV _ xs=>FZ xs|.zi _ xs=>FZ xs|.isn x=>x.sl|.fdv x _=>x.sl|.ldv x _=>x.sl|.lac x=>x.sl|.ctk x=>x.sl|.cpt x q=>x.sl++[q]|.cut _ s hi=>s::hi.sl|.zx _ xs=>FZ xs|.Aal _ x=>x.sl|.Aae _ s _ x=>s::x.sl|.zW _ xs=>FZ xs|.y6 _ xs _=>FZ xs|.Aan q=>[q]|.zu s q=>[s,q]|.lan x=>x.sl|.nia x i=>x.sl++i.sl|.nld x=>x.sl|.nst x v=>x.sl++v.sl|.Aay q=>[q]|.zv _ xs _=>FZ xs|.ldg s _=>[s]|.stq _ _ x v=>x.sl++v.sl|.mkm=>[]|.mvm s=>[s]|.zm _ xs=>FZ xs|.mlk s m x=>s::(m.sl++x.sl)|.mup s m x v=>s::(m.sl++(x.sl++v.sl))|.x7 s m=>s::m.sl|.mnx s=>[s]|.men s=>[s]
def AD.dem:AD->QQ
 |.tk s=>[s]|.app _ x _=>x.sl|_=>[]
def AD.mov:AD->Bool
 |.st ..=>false|.stb ..=>false|.frz _=>false|.xst ..=>false|.rel _=>false|.Aaf _=>false|.Aac _=>false|.tkx _=>false|.zY ..=>false|.zj ..=>false|.zO ..=>false|.yt _=>false|.stx ..=>false|.isn _=>false|.ctk _=>false|.cpt ..=>false|.cut ..=>false|.Aae ..=>false|.y6 ..=>false|.Aan _=>false|.zu ..=>false|.nst ..=>false|.Aay _=>false|.zv ..=>false|.ldg ..=>false|.stq ..=>false|.mkm=>false|.mvm _=>false|.zm ..=>false|.mlk ..=>false|.mup ..=>false|.x7 ..=>false|.mnx _=>false|.men _=>false|_=>true
def AD.wi:AD->Bool
 |.alc _=>true|.Aau _=>true|.Aal ..=>true|.zl ..=>true|.z8 ..=>true|_=>false
def AD.zT:AD->QQ
 |.bad s _=>[s]|.xal s=>[s]|_=>[]
inductive A7 where
 |none
 |slot (s:Nat) (t:TV)
 |cell (s off:Nat) (t:TV)
def A7.app:A7->AB->AB
 |.none,O=>O|.slot s t,O=>(s,.tv t)::O|.cell s off t,O=>match O.get s with
  |.bx cs=>(s,.bx (cs.set off ⟨false,t⟩))::O|_=>O
def A7.ok:A7->AB->Prop
 |.none,_=>True|.slot s t,O=>O.get s=.ow t|.cell s off t,O=>∃cs,O.get s=.bx cs/\cs[off]?=some ⟨true,t⟩
structure D0(op:AD)(f:A7)(dst:Option Nat)(O env2:AB):Prop where
 sl:∀s∈op.slots,(O.get s).like (env2.get s)
 bp:∀s∈op.slots,∀q,(O.get s).yc=some q->(O.get q).like (env2.get q)
 dem:∀s∈op.dem,(∀cs,O.get s≠.bx cs)->env2.get s=O.get s
 eff:f.ok env2
 new:op.wi=true->∀d,dst=some d->O.gt d=true->env2.gt d=true
section
variable{op:AD}{f:A7}{dst:Option Nat}{O env2:AB}
variable{x:AE}
theorem D0.val(h:D0 op f dst O env2)(a:∀s∈x.sl,s∈op.slots):x.val env2=x.val O:=by
 cases x with
 |c t=>rfl|s n=>exact(h.sl n (a n (by simp[AE.sl]))).val
theorem D0.ev(h:D0 op f dst O env2)(a:∀s∈x.sl,s∈op.slots):(x.ev O).like (x.ev env2):=by
 cases x with
 |c t=>exact .inl rfl|s n=>exact h.sl n (a n (by simp[AE.sl]))
theorem D0.vals(h:D0 op f dst O env2):∀{xs:List AE},(∀s∈FZ xs,s∈op.slots)->Go.Sf.vals env2 xs=Go.Sf.vals O xs
 |[],_=>rfl|x::xs,b=>by
  simp only[FZ,List.mem_append]at b;simp only[Go.Sf.vals,h.val (x:=x) (fun s a=>b s (.inl a)),h.vals (xs:=xs) (fun s a=>b s (.inr a))]
theorem D0.parts(h:D0 op f dst O env2):∀{xs:List (Nat×Nat×AE)},(∀s∈Uy xs,s∈op.slots)->GP env2 xs=GP O xs
 |[],_=>rfl|(i,n,x)::xs,b=>by
  simp only[Uy,List.mem_append]at b;simp only[GP,h.val (x:=x) (fun s a=>b s (.inl a)),h.parts (xs:=xs) (fun s a=>b s (.inr a))]
theorem D0.bnd(h:D0 op f dst O env2){x:Option AE}{k:Int}(a:∀s∈Wm x,s∈op.slots):Gh env2 k x=Gh O k x:=by
 cases x with
 |none=>rfl|some x=>exact h.val a
theorem D0.addr(h:D0 op f dst O env2)(j:∀s∈x.sl,s∈op.slots):A3 env2 (x.ev env2)=A3 O (x.ev O):=by
 cases x with
 |c t=>cases t<;>rfl
 |s n=>
  have g:=j n (by simp[AE.sl]);have a:=h.sl n g;have i:=h.bp n g;simp only[AE.ev];generalize O.get n=e at a i;generalize env2.get n=e2 at a;rcases a with rfl|⟨n,es,⟨rfl,rfl⟩|⟨rfl,rfl⟩⟩|⟨cs,ds,rfl,rfl,d⟩
  .cases e2 with
   |bp q k=>
    have b:=i q rfl;simp only[A3];generalize O.get q=e1 at b;generalize env2.get q=e2 at b;rcases b with rfl|⟨n,es,⟨rfl,rfl⟩|⟨rfl,rfl⟩⟩|⟨cs,ds,rfl,rfl,d⟩
    .rfl
    .rfl
    .rfl
    .simp only[List.map_drop,nR d]
   |tv t=>cases t<;>rfl
   |_=>rfl
  .rfl
  .rfl
  .simp only[A3,nR d]
theorem D0.place(h:D0 op f dst O env2)(d:∀s∈x.sl,s∈op.slots):x.place env2=x.place O:=by
 cases x with
 |c t=>rfl|s n=>
  have g:=h.sl n (d n (by simp[AE.sl]));simp only[AE.place];rcases g with a|⟨n,es,⟨a,b⟩|⟨a,b⟩⟩|⟨cs,ds,a,b,_⟩
  .rw[a]
  .rw[a,b]
  .rw[a,b]
  .rw[a,b]
variable{q:Nat}
theorem EV.like.x4{O env2:AB}(h:(O.get q).like (env2.get q))(i:Option Nat):env2.x4 q i=O.x4 q i:=by
 rcases h with a|⟨n,es,⟨a,b⟩|⟨a,b⟩⟩|⟨cs,ds,a,b,c⟩
 .exact AB.yx a
 .cases i<;>simp only[AB.x4,a,b]
 .cases i<;>simp only[AB.x4,a,b]
 .cases i with
  |none=>simp only[AB.x4,a,b]|some k=>simp only[AB.x4,a,b];exact rU c k
theorem EV.like.nat{O env2:AB}(h:(O.get q).like (env2.get q))(i:Nat):env2.nat q i=O.nat q i:=by
 rcases h with a|⟨n,es,⟨a,b⟩|⟨a,b⟩⟩|⟨cs,ds,a,b,c⟩
 .exact AB.y4 a
 .simp only[AB.nat,a,b]
 .simp only[AB.nat,a,b]
 .simp only[AB.nat,a,b];exact rV c i
variable{e e2:EV}
theorem EV.like.nh(h:e.like e2){q i:Nat}{k:NK}(he:e=.nh q i k):e2=.nh q i k:=by
 subst he;exact h.AaC rfl
theorem D0.ya(h:D0 op f dst O env2)(g:∀s∈x.sl,s∈op.slots):x.ya env2=x.ya O:=by
 cases x with
 |c t=>rfl|s n=>
  have d:=g n (by simp[AE.sl]);have j:=h.sl n d;have k:=h.bp n d;simp only[AE.ya];rcases j with a|⟨m,es,⟨a,b⟩|⟨a,b⟩⟩|⟨cs,ds,a,b,_⟩
  .rw[a];cases he:O.get n with
   |la q i=>simp only[(k q (by rw[he];rfl)).x4 i]|_=>rfl
  .rw[a,b]
  .rw[a,b]
  .rw[a,b]
theorem D0.Aaz(h:D0 op f dst O env2)(i:∀s∈x.sl,s∈op.slots):x.Aaz env2=x.Aaz O:=by
 unfold AE.Aaz;rw[h.ya i];cases x.ya O with
 |some p=>rfl|none=>
  cases x with
  |c t=>cases t<;>rfl
  |s n=>
   have j:=i n (by simp[AE.sl]);have k:=h.sl n j;have o:=h.bp n j;simp only[AE.ev];rcases k with a|⟨m,es,⟨a,d⟩|⟨a,d⟩⟩|⟨cs,ds,a,d,u⟩
   .rw[a];cases he:O.get n with
    |bp q w=>
     have r:=o q (by rw[he];rfl);simp only;rcases r with b|⟨m,es,⟨b,g⟩|⟨b,g⟩⟩|⟨cs,ds,b,g,v⟩
     .rw[b]
     .rw[b,g]
     .rw[b,g]
     .rw[b,g];have:=aB v;simp only[List.map_drop,this]
    |_=>rfl
   .rw[a,d];rfl
   .rw[a,d];rfl
   .rw[a,d];simp only[aB u]
theorem D0.yZ(h:D0 op f dst O env2):∀{xs:List AE},(∀s∈FZ xs,s∈op.slots)->Go.Sf.yZ env2 xs=Go.Sf.yZ O xs
 |[],_=>rfl|x::xs,b=>by
  simp only[FZ,List.mem_append]at b;simp only[Go.Sf.yZ,h.Aaz (x:=x) (fun s a=>b s (.inl a)),h.yZ (xs:=xs) (fun s a=>b s (.inr a))]
end
structure gC(S:FuncId->Fq->Al->Prop)(op:AD)(dst:Option Nat)(O:AB)(e:EV)(env':AB)(f:A7):Prop where
 env':env'=f.app O
 ok:f.ok O
 slot:∀s t,f=.slot s t->s∈op.dem
 cell:∀s off t,f=.cell s off t->(s∈op.slots\/∃x∈op.slots,(O.get x).yc=some s)
 yc:∀s,e.yc=some s->(s∈op.zT\/∃x∈op.slots,(O.get x).yc=some s)
 new:op.wi=true->e.yc=none/\∀d,dst=some d->O.gt d=true
 xl:∀s off t,f=.cell s off t->t.zt=false
 again:∀env2,D0 op f dst O env2->∀K2:EV->AB->Prop,K2 e (f.app env2)->op.wp S env2 dst K2
section
variable{S:FuncId->Fq->Al->Prop}{op:AD}{dst:Option Nat}{O:AB}{K:EV->AB->Prop}
variable{e:EV}
theorem Au(b:K e O)(c:op.wi=false)(d:e.yc=none)(h:∀env2,D0 op .none dst O env2->∀a:EV->AB->Prop,a e env2->op.wp S env2 dst a):K e O/\∃f,gC S op dst O e O f:=
 ⟨b,.none,rfl,trivial,by simp,by simp,(fun s he=>by rw[d]at he;cases he),by simp[c],by simp,h⟩
variable{α:Type}{l m:List α}
theorem Dq{x:α}(h:x∈m):x∈l++m:=List.mem_append_right _ h
theorem DH{x:α}(h:x∈l):x∈l++m:=List.mem_append_left _ h
theorem frame(H:op.mov=true)(h:op.wp S O dst K):op.wp S O dst fun e env'=>K e env'/\∃f,gC S op dst O e env' f:=by
 cases op with
 |mv x=>
  simp only[AD.wp]at h|-;have key:∀t,(x.ev O).val=some t->∀env2,D0 (.mv x) .none dst O env2->∀E:EV->AB->Prop,E (.tv t) env2->(AD.mv x).wp S env2 dst E:=by
   intro t ht env2 w E u;have hv:=w.val (x:=x) (fun s h=>h);simp only[AE.val]at hv;rw[ht]at hv;simp only[AD.wp];cases he:x.ev env2<;>rw[he]at hv<;>simp[EV.val]at hv<;>subst hv<;>exact u
  split at h
  .rename_i t A
   try simp only[A]
   exact Au h rfl rfl (key t (by rw[A];rfl))
  .rename_i t A
   try simp only[A]
   exact Au h rfl rfl (key t (by rw[A];rfl))
  .rename_i Q A
   try simp only[A]
   refine Au h rfl rfl fun env2 w E u=>?_;cases x with
   |c t=>simp[AE.ev]at A|s n=>
    simp only[AE.ev]at A;have B:env2.get n=.tp Q:=(w.sl n (by simp[AD.slots,AE.sl])).tp A;simp only[AD.wp,AE.ev,B];exact u
  .exact h.elim
 |tk s=>
  simp only[AD.wp]at h|-;split at h
  .rename_i t M
   try simp only[M]
   refine ⟨h,.slot s t,rfl,M,?_,by simp,(fun s he=>by cases he),by simp[AD.wi],by simp,fun env2 w E u=>?_⟩
   .intro s' t' he;simp only[A7.slot.injEq]at he;simp[AD.dem,he.1]
   .have:=w.eff;simp only[A7.ok]at this;simp only[AD.wp,this];exact u
  .rename_i t M
   try simp only[M]
   refine Au h rfl rfl fun env2 w E u=>?_;have:=w.dem s (by simp[AD.dem]) (by simp[M]);simp only[AD.wp,this,M];exact u
  .exact h.elim
 |Aat n=>exact Au h rfl rfl fun env2 w E u=>u|y5 x k=>
  simp only[AD.wp]at h|-;split at h
  .rename_i row A
   try simp only[A]
   refine Au h rfl rfl fun env2 w E u=>?_;have:=(w.ev (x:=x) (fun s h=>h)).pt A;simp only[AD.wp,this];exact u
  .rename_i s F A;split at h
   .rename_i cs M
    try simp only[A,M]
    have G:∃n∈x.sl,O.get n=.bp s F:=by
     cases x with
     |c t=>simp[AE.ev]at A|s n=>exact⟨n,by simp[AE.sl],A⟩
    obtain ⟨n,N,L⟩:=G;refine⟨h,.none,rfl,trivial,by simp,by simp,?_,by simp[AD.wi],by simp,fun env2 w E u=>?_⟩
    .intro s' he;simp only[EV.yc,tn]at he;subst he;exact .inr ⟨n,N,by rw[L];rfl⟩
    .have C:=(w.ev (x:=x) (fun s h=>h)).bp A;have B:=w.bp n N s (by rw[L];rfl);rw[M]at B;obtain⟨ds,I,_⟩:=B.bx rfl;simp only[AD.wp,C,I];exact u
   .exact h.elim
  .exact h.elim
 |bad s k=>
  simp only[AD.wp]at h|-;split at h
  .rename_i cs M
   try simp only[M]
   refine ⟨h,.none,rfl,trivial,by simp,by simp,?_,by simp[AD.wi],by simp,fun env2 w E u=>?_⟩
   .intro s' he;simp only[EV.yc,tn]at he;exact .inl (by simp[AD.zT,he])
   .have B:=w.sl s (by simp[AD.slots]);rw[M]at B;obtain⟨ds,I,_⟩:=B.bx rfl;simp only[AD.wp,I];exact u
  .rename_i row M
   try simp only[M]
   refine Au h rfl rfl fun env2 w E u=>?_;have:=(w.sl s (by simp[AD.slots])).pt M;simp only[AD.wp,this];exact u
  .exact h.elim
 |iad x i n=>
  simp only[AD.wp]at h|-;split at h
  .rename_i m es k j A hi
   try simp only[A,hi]
   obtain ⟨C,B,e,I,T⟩:=h;refine⟨C,B,e,I,Au T rfl rfl fun env2 w E u=>?_⟩;simp only[AD.wp,w.val (x:=x) (fun s h=>DH h),w.val (x:=i) (fun s h=>Dq h),A,hi];exact⟨C,B,e,I,u⟩
  .exact h.elim
 |zr x i n k=>
  simp only[AD.wp]at h|-;split at h
  .rename_i row kk j A hi
   try simp only[A,hi]
   obtain ⟨C,B,I,T⟩:=h;refine⟨C,B,I,Au T rfl rfl fun env2 w E u=>?_⟩;have:=(w.ev (x:=x) (fun s h=>DH h)).pt A;simp only[AD.wp,this,w.val (x:=i) (fun s h=>Dq h),hi];exact⟨C,B,I,u⟩
  .exact h.elim
 |ld x=>
  simp only[AD.wp]at h|-;cases D:A3 O (x.ev O)with
  |none=>rw[D]at h;exact h.elim|some cs=>
   rw [D]at h;simp only[Ad]at h|-;cases hf:Gc cs with
   |none=>rw[hf]at h;exact h.elim|some t=>
    rw [hf]at h;refine⟨h.1,Au h.2 rfl rfl fun env2 w E u=>?_⟩;simp only[AD.wp,w.addr (x:=x) (fun s h=>h),D,Ad,hf];exact⟨h.1,u⟩
 |lda x n=>
  simp only[AD.wp]at h|-;cases D:A3 O (x.ev O)with
  |none=>rw[D]at h;exact h.elim|some cs=>
   rw [D]at h;simp only[Ad]at h|-;refine⟨h.1,Au h.2 rfl rfl fun env2 w E u=>?_⟩;simp only[AD.wp,w.addr (x:=x) (fun s h=>h),D,Ad];exact⟨h.1,u⟩
 |ldb s n=>
  simp only[AD.wp]at h|-;split at h
  .rename_i cs D
   try simp only[D]
   refine ⟨h.1,Au h.2 rfl rfl fun env2 w E u=>?_⟩;have C:=w.addr (x:=.s s) (fun s h=>h);obtain⟨ds,I,_⟩:=(w.sl s (by simp[AD.slots])).bx D;simp only[AE.ev,D,I,A3,tn]at C;simp only[AD.wp,I,C];exact⟨h.1,u⟩
  .exact h.elim
 |ldt x=>
  simp only[AD.wp]at h|-;split at h
  .rename_i s F U;split at h
   .rename_i cs M;split at h
    .rename_i n es D
     try simp only[U,M,D]
     refine ⟨h,.cell s F (.list n es),by simp[A7.app,M],⟨cs,M,D⟩,by simp,?_,(fun s he=>by cases he),by simp[AD.wi],(fun s F t he=>by cases he;rfl),fun env2 w E u=>?_⟩
     .intro s' off' t' he;simp only[A7.cell.injEq]at he;obtain⟨rfl,rfl,rfl⟩:=he;cases x with
      |c t=>simp[AE.place]at U|s n=>
       simp only[AE.place]at U;split at U
       .rename_i q o J;simp only[tn,Prod.mk.injEq]at U;exact .inr ⟨n,by simp[AD.slots,AE.sl],by rw[J,U.1];rfl⟩
       .simp only[tn,Prod.mk.injEq]at U;exact .inl (by simp[AD.slots,AE.sl,U.1])
       .cases U
     .obtain⟨ds,C,B⟩:=w.eff;simp only[A7.app,C]at u;simp only[AD.wp,w.place (x:=x) (fun s h=>h),U,C,B];exact u
    .exact h.elim
   .exact h.elim
  .exact h.elim
 |bin k op x y=>
  simp only[AD.wp]at h|-;split at h
  .rename_i a b A V
   try simp only[A,V]
   cases L:LV k op a b with
   |none=>rw[L]at h;exact h.elim|some t=>
    rw [L]at h;refine Au h rfl rfl fun env2 w E u=>?_;simp only[AD.wp,w.val (x:=x) (fun s h=>DH h),w.val (x:=y) (fun s h=>Dq h),A,V,L,Ad];exact u
  .exact h.elim
 |not x=>
  simp only[AD.wp]at h|-;split at h
  .rename_i b A
   try simp only[A]
   refine Au h rfl rfl fun env2 w E u=>?_;simp only[AD.wp,w.val (x:=x) (fun s h=>h),A];exact u
  .exact h.elim
 |neg x=>
  simp only[AD.wp]at h|-;split at h
  .rename_i k n A
   try simp only[A]
   refine Au h rfl rfl fun env2 w E u=>?_;simp only[AD.wp,w.val (x:=x) (fun s h=>h),A];exact u
  .exact h.elim
 |pick c a b=>
  simp only[AD.wp]at h|-;split at h
  .rename_i q D
   try simp only[D]
   have key:∀t,((if q=true then a else b).ev O).val=some t->∀env2,D0 (.pick c a b) .none dst O env2->∀E:EV->AB->Prop,E (.tv t) env2->(AD.pick c a b).wp S env2 dst E:=by
    intro t ht env2 w E u;have hv:=w.val (x:=if q=true then a else b) (fun s h=>by
     cases q
     .exact Dq (Dq h)
     .exact Dq (DH h))
    simp only[AE.val]at hv;rw[ht]at hv;simp only[AD.wp,w.val (x:=c) (fun s h=>DH h),D];cases he:(if q=true then a else b).ev env2<;>rw[he]at hv<;>simp[EV.val]at hv<;>subst hv<;>exact u
   split at h
   .rename_i t A
    try simp only[A]
    exact Au h rfl rfl (key t (by rw[A];rfl))
   .rename_i t A
    try simp only[A]
    exact Au h rfl rfl (key t (by rw[A];rfl))
   .exact h.elim
  .exact h.elim
 |len x=>
  simp only[AD.wp]at h|-;split at h
  .rename_i n es A
   try simp only[A]
   refine Au h rfl rfl fun env2 w E u=>?_;simp only[AD.wp,w.val (x:=x) (fun s h=>h),A];exact u
  .exact h.elim
 |fdv x k=>
  simp only[AD.wp]at h|-;split at h
  .rename_i row A
   try simp only[A]
   refine Au h rfl rfl fun env2 w E u=>?_;simp only[AD.wp,w.val (x:=x) (fun s h=>h),A];exact u
  .exact h.elim
 |ldv x n=>
  simp only[AD.wp]at h|-;split at h
  .rename_i row A
   try simp only[A]
   refine ⟨h.1,Au h.2 rfl rfl fun env2 w E u=>?_⟩;simp only[AD.wp,w.val (x:=x) (fun s h=>h),A];exact⟨h.1,u⟩
  .exact h.elim
 |AaA x=>
  simp only[AD.wp]at h|-;split at h
  .rename_i s A
   try simp only[A]
   refine Au h rfl rfl fun env2 w E u=>?_;simp only[AD.wp,w.val (x:=x) (fun s h=>h),A];exact u
  .exact h.elim
 |y9 n x lo hi=>
  simp only[AD.wp]at h|-;split at h
  .rename_i m es A
   try simp only[A]
   split at h
   .rename_i k1 l k2 hh C B
    try simp only[C,B]
    refine ⟨h.1,h.2.1,Au h.2.2 rfl rfl fun env2 w E u=>?_⟩;simp only[AD.wp,w.val (x:=x) (fun s h=>DH h),A,w.bnd (x:=lo) (fun s h=>Dq (DH h)),w.bnd (x:=hi) (fun s h=>Dq (Dq h)),C,B];exact⟨h.1,h.2.1,u⟩
   .exact h.elim
  .exact h.elim
 |yu x lo hi=>
  simp only[AD.wp]at h|-;split at h
  .rename_i str A
   try simp only[A]
   split at h
   .rename_i k1 l k2 hh C B
    try simp only[C,B]
    refine ⟨h.1,h.2.1,h.2.2.1,Au h.2.2.2 rfl rfl fun env2 w E u=>?_⟩;simp only[AD.wp,w.val (x:=x) (fun s h=>DH h),A,w.bnd (x:=lo) (fun s h=>Dq (DH h)),w.bnd (x:=hi) (fun s h=>Dq (Dq h)),C,B];exact⟨h.1,h.2.1,h.2.2.1,u⟩
   .exact h.elim
  .exact h.elim
 |z7 zero Y=>
  simp only[AD.wp]at h|-;cases D:GP O Y with
  |none=>rw[D]at h;exact h.elim|some Q=>
   rw [D]at h;simp only[Ad]at h|-;cases hf:Ed zero Q with
   |none=>rw[hf]at h;exact h.elim|some cs=>
    rw [hf]at h;refine Au h rfl rfl fun env2 w E u=>?_;simp only[AD.wp,w.parts (xs:=Y) (fun s h=>h),D,Ad,hf];exact u
 |lst n Y=>
  simp only[AD.wp]at h|-;cases D:Go.Sf.vals O Y with
  |none=>rw[D]at h;exact h.elim|some Q=>
   rw [D]at h;simp only[Ad]at h|-;refine⟨h.1,Au h.2 rfl rfl fun env2 w E u=>?_⟩;simp only[AD.wp,w.vals (xs:=Y) (fun s h=>h),D,Ad];exact⟨h.1,u⟩
 |app n x y=>
  simp only[AD.wp]at h|-;split at h
  .rename_i m es m' fs A V
   try simp only[A,V]
   obtain ⟨C,B,I,T⟩:=h;cases x with
   |c t=>simp[AE.ev]at A|s s=>
    simp only[AE.ev]at A;subst C;refine⟨rfl,B,I,T,.slot s (.list m es),rfl,A,?_,by simp,(fun s he=>by cases he),by simp[AD.wi],by simp,fun env2 w E u=>?_⟩
    .intro s' t' he;simp only[A7.slot.injEq]at he;simp[AD.dem,AE.sl,he.1]
    .have:=w.eff;simp only[A7.ok]at this;simp only[AD.wp,AE.ev,this,w.val (x:=y) (fun s h=>Dq h),V];exact⟨trivial,B,I,u⟩
  .exact h.elim
 |call g xs=>
  simp only[AD.wp]at h|-;cases D:Go.Sf.vals O xs with
  |none=>rw[D]at h;exact h.elim|some Q=>
   rw [D]at h;simp only[Ad]at h|-;obtain⟨r,C,B⟩:=h;refine⟨r,C,fun R=>Au (B R) rfl (by cases r<;>rfl) fun env2 w E u=>?_⟩;simp only[AD.wp,w.vals (xs:=xs) (fun s h=>h),D,Ad];exact⟨r,C,fun _=>u⟩
 |Aaj x xs=>
  simp only[AD.wp]at h|-;split at h
  .rename_i g caps Q A D
   try simp only[A,D]
   obtain ⟨r,C,B⟩:=h;refine⟨r,C,fun R=>Au (B R) rfl (by cases r<;>rfl) fun env2 w E u=>?_⟩;simp only[AD.wp,w.val (x:=x) (fun s h=>DH h),w.vals (xs:=xs) (fun s h=>Dq h),A,D];exact⟨r,C,fun _=>u⟩
  .exact h.elim
 |zc g xs=>
  simp only[AD.wp]at h|-;cases D:Go.Sf.vals O xs with
  |none=>rw[D]at h;exact h.elim|some Q=>
   rw [D]at h;simp only[Ad]at h|-;refine Au h rfl rfl fun env2 w E u=>?_;simp only[AD.wp,w.vals (xs:=xs) (fun s h=>h),D,Ad];exact u
 |ext x i=>
  simp only[AD.wp]at h|-;split at h
  .rename_i Q A
   try simp only[A]
   cases hf:Q[i]? with
   |none=>rw[hf]at h;exact h.elim|some t=>
    rw [hf]at h;refine Au h rfl rfl fun env2 w E u=>?_;have:=(w.ev (x:=x) (fun s h=>h)).tp A;simp only[AD.wp,this,hf,Ad];exact u
  .exact h.elim
 |y8 k x=>
  simp only[AD.wp]at h|-;split at h
  .rename_i k n A
   try simp only[A]
   refine Au h rfl rfl fun env2 w E u=>?_;simp only[AD.wp,w.val (x:=x) (fun s h=>h),A];exact u
  .exact h.elim
 |za x i=>
  simp only[AD.wp]at h|-;split at h
  .rename_i str k j A hi
   try simp only[A,hi]
   obtain ⟨C,b,B,I⟩:=h;refine⟨C,b,B,Au I rfl rfl fun env2 w E u=>?_⟩;simp only[AD.wp,w.val (x:=x) (fun s h=>DH h),w.val (x:=i) (fun s h=>Dq h),A,hi];exact⟨C,b,B,u⟩
  .exact h.elim
 |Aak x=>
  simp only[AD.wp]at h|-;split at h
  .rename_i t A
   try simp only[A]
   refine Au h rfl rfl fun env2 w E u=>?_;simp only[AD.wp,w.val (x:=x) (fun s h=>h),A];exact u
  .exact h.elim
 |Aau x=>
  simp only[AD.wp]at h|-;split at h
  .rename_i t d A
   try simp only[A]
   refine ⟨h.1,h.2,.none,rfl,trivial,by simp,by simp,(fun s he=>by cases he),fun _=>⟨rfl,fun Z hd=>?_⟩,by simp,fun env2 w E u=>?_⟩
   .simp only[tn]at hd;subst hd;exact h.1
   .simp only[AD.wp,w.val (x:=x) (fun s h=>h),A];exact⟨w.new rfl _ rfl h.1,u⟩
  .exact h.elim
 |mm mx x y=>
  simp only[AD.wp]at h|-;split at h
  .rename_i k a k' b A V
   try simp only[A,V]
   refine ⟨h.1,Au h.2 rfl rfl fun env2 w E u=>?_⟩;simp only[AD.wp,w.val (x:=x) (fun s h=>DH h),w.val (x:=y) (fun s h=>Dq h),A,V];exact⟨h.1,u⟩
  .exact h.elim
 |alc cs=>
  simp only[AD.wp]at h|-;split at h
  .rename_i d;refine⟨h.1,h.2,.none,rfl,trivial,by simp,by simp,(fun s he=>by cases he),fun _=>⟨rfl,fun Z hd=>?_⟩,by simp,fun env2 w E u=>?_⟩
   .simp only[tn]at hd;subst hd;exact h.1
   .simp only[AD.wp];exact⟨w.new rfl _ rfl h.1,u⟩
  .exact h.elim
 |st n x v=>cases H
 |stb n s v=>cases H
 |frz s=>cases H
 |xal s=>
  simp only[AD.wp]at h|-;split at h
  .rename_i n es M
   try simp only[M]
   refine ⟨h,.none,rfl,trivial,by simp,by simp,?_,by simp[AD.wi],by simp,fun env2 w E u=>?_⟩
   .intro s' he;simp only[EV.yc,tn]at he;exact .inl (by simp[AD.zT,he])
   .have B:=(w.sl s (by simp[AD.slots])).xo M;simp only[AD.wp,B];exact u
  .exact h.elim
 |Aas x=>
  simp only[AD.wp]at h|-;cases A:x.ya O with
  |none=>rw[A]at h;exact h.elim|some p=>
   rw [A]at h;simp only[Ad]at h|-;refine Au h rfl rfl fun env2 w E u=>?_;simp only[AD.wp,w.ya (x:=x) (fun s h=>h),A,Ad];exact u
 |lan x=>
  simp only[AD.wp]at h|-;split at h
  .rename_i s F A;cases J:O.nat s F with
   |none=>rw[J]at h;exact h.elim|some es=>
    rw [J]at h;simp only[Ad]at h
    try simp only[A,J]
    have G:∃n∈x.sl,O.get n=.bp s F:=by
     cases x with
     |c t=>simp[AE.ev]at A|s n=>exact⟨n,by simp[AE.sl],A⟩
    obtain ⟨n,N,L⟩:=G;refine⟨h,.none,rfl,trivial,by simp,by simp,?_,by simp[AD.wi],by simp,fun env2 w E u=>?_⟩
    .intro s' he;simp only[EV.yc,tn]at he;subst he;exact .inr ⟨n,N,by rw[L];rfl⟩
    .have C:=(w.ev (x:=x) (fun s h=>h)).bp A;have B:=(w.bp n N s (by rw[L];rfl)).nat F;rw[J]at B;simp only[AD.wp,C,B,Ad];exact u
  .exact h.elim
 |nld x=>
  simp only[AD.wp]at h|-;split at h
  .rename_i s F r A;cases J:O.nat s F with
   |none=>rw[J]at h;exact h.elim|some es=>
    rw [J]at h;simp only[Ad]at h;obtain⟨X,h⟩:=h
    try simp only[A,J]
    have G:∃n∈x.sl,O.get n=.nh s F (.el r):=by
     cases x with
     |c t=>simp[AE.ev]at A|s n=>exact⟨n,by simp[AE.sl],A⟩
    obtain ⟨n,N,L⟩:=G;refine⟨X,h,.none,rfl,trivial,by simp,by simp,?_,by simp[AD.wi],by simp,fun env2 w E u=>?_⟩
    .intro s' he;simp only[EV.yc,tn]at he;subst he;exact .inr ⟨n,N,by rw[L];rfl⟩
    .have C:=(w.ev (x:=x) (fun s h=>h)).nh A;have B:=(w.bp n N s (by rw[L];rfl)).nat F;rw[J]at B;simp only[AD.wp,C,B,Ad];exact⟨X,u⟩
  .exact h.elim
 |nia x i=>
  simp only[AD.wp]at h|-;split at h
  .rename_i s F k j A W;cases J:O.nat s F with
   |none=>rw[J]at h;exact h.elim|some es=>
    rw [J]at h;simp only[Ad]at h;obtain⟨X,I,h⟩:=h
    try simp only[A,W,J]
    have G:∃n∈x.sl,O.get n=.nh s F .hd:=by
     cases x with
     |c t=>simp[AE.ev]at A|s n=>exact⟨n,by simp[AE.sl],A⟩
    obtain ⟨n,N,L⟩:=G;refine⟨X,I,h,.none,rfl,trivial,by simp,by simp,?_,by simp[AD.wi],by simp,fun env2 w E u=>?_⟩
    .intro s' he;simp only[EV.yc,tn]at he;subst he;exact .inr ⟨n,DH N,by rw[L];rfl⟩
    .have C:=(w.ev (x:=x) (fun s h=>DH h)).nh A;have e2:=w.val (x:=i) (fun s h=>Dq h);have B:=(w.bp n (DH N) s (by rw[L];rfl)).nat F;rw[J]at B;simp only[AD.wp,C,e2,W,B,Ad];exact⟨X,I,u⟩
  .rename_i s F r k j A W;cases J:O.nat s F with
   |none=>rw[J]at h;exact h.elim|some es=>
    rw [J]at h;simp only[Ad]at h;obtain⟨X,fs,I,T,h⟩:=h
    try simp only[A,W,J]
    have G:∃n∈x.sl,O.get n=.nh s F (.rw r):=by
     cases x with
     |c t=>simp[AE.ev]at A|s n=>exact⟨n,by simp[AE.sl],A⟩
    obtain ⟨n,N,L⟩:=G;refine⟨X,fs,I,T,h,.none,rfl,trivial,by simp,by simp,?_,by simp[AD.wi],by simp,fun env2 w E u=>?_⟩
    .intro s' he;simp only[EV.yc,tn]at he;subst he;exact .inr ⟨n,DH N,by rw[L];rfl⟩
    .have C:=(w.ev (x:=x) (fun s h=>DH h)).nh A;have e2:=w.val (x:=i) (fun s h=>Dq h);have B:=(w.bp n (DH N) s (by rw[L];rfl)).nat F;rw[J]at B;simp only[AD.wp,C,e2,W,B,Ad];exact⟨X,fs,I,T,u⟩
  .exact h.elim
 |lac x=>
  simp only[AD.wp]at h|-;split at h
  .rename_i s F A;split at h
   .rename_i p J
    try simp only[A,J]
    have G:∃n∈x.sl,O.get n=.bp s F:=by
     cases x with
     |c t=>simp[AE.ev]at A|s n=>exact⟨n,by simp[AE.sl],A⟩
    obtain ⟨n,N,L⟩:=G;refine⟨h,.none,rfl,trivial,by simp,by simp,?_,by simp[AD.wi],by simp,fun env2 w E u=>?_⟩
    .intro s' he;simp only[EV.yc,tn]at he;subst he;exact .inr ⟨n,N,by rw[L];rfl⟩
    .have C:=(w.ev (x:=x) (fun s h=>h)).bp A;have B:=(w.bp n N s (by rw[L];rfl)).x4 (some F);rw[J]at B;simp only[AD.wp,C,B];exact u
   .exact h.elim
  .exact h.elim
 |ctk _=>cases H
 |cpt _ _=>cases H
 |cut _ _ _=>cases H
 |Aae _ _ _ _=>cases H
 |zW g xs=>
  simp only[AD.wp]at h|-;cases D:Go.Sf.vals O xs with
  |none=>rw[D]at h;exact h.elim|some Q=>
   rw [D]at h;simp only[Ad]at h|-;obtain⟨r,C,B⟩:=h;refine⟨r,C,Au B rfl rfl fun env2 w E u=>?_⟩;simp only[AD.wp,w.vals (xs:=xs) (fun s h=>h),D,Ad];exact⟨r,C,u⟩
 |y6 _ _ _=>cases H
 |zx g xs=>
  simp only[AD.wp]at h|-;cases D:Go.Sf.yZ O xs with
  |none=>rw[D]at h;exact h.elim|some Q=>
   rw [D]at h;simp only[Ad]at h|-;obtain⟨r,C,B⟩:=h;refine⟨r,C,fun R=>Au (B R) rfl (by cases r<;>rfl) fun env2 w E u=>?_⟩;simp only[AD.wp,w.yZ (xs:=xs) (fun s h=>h),D,Ad];exact⟨r,C,fun _=>u⟩
 |Aal Y x=>
  simp only[AD.wp]at h|-;split at h
  .rename_i t d A
   try simp only[A]
   cases D:D2 Y t.cells with
   |none=>rw[D]at h;exact h.elim|some cs=>
    rw [D]at h;simp only[Ad]at h|-;refine⟨h.1,h.2,.none,rfl,trivial,by simp,by simp,(fun s he=>by cases he),fun _=>⟨rfl,fun Z hd=>?_⟩,by simp,fun env2 w E u=>?_⟩
    .simp only[tn]at hd;subst hd;exact h.1
    .simp only[AD.wp,w.val (x:=x) (fun s h=>h),A,D,Ad];exact⟨w.new rfl _ rfl h.1,u⟩
  .exact h.elim
 |xia x i n=>
  simp only[AD.wp]at h|-;cases A:x.ya O with
  |none=>rw[A]at h;exact h.elim|some p=>
   rw [A]at h;simp only[Ad]at h|-;split at h
   .rename_i ik j W
    try simp only[W]
    obtain ⟨⟨C,B⟩,I,T,h5⟩:=h;have G:∃n∈x.sl,(O.get n).yc=some p.1.1:=by
     cases x with
     |c t=>simp[AE.ev,EV.yc]at C|s n=>exact⟨n,by simp[AE.sl],C⟩
    obtain ⟨m,hm',hr⟩:=G;refine⟨⟨C,B⟩,I,T,h5,.none,rfl,trivial,by simp,by simp,?_,by simp[AD.wi],by simp,fun env2 w E u=>?_⟩
    .intro s' he;simp only[EV.yc,tn]at he;subst he;exact .inr ⟨m,DH hm',hr⟩
    .have e1:=w.ya (x:=x) (fun s h=>DH h);have e2:=w.val (x:=i) (fun s h=>Dq h);have e3:=(w.ev (x:=x) (fun s h=>DH h)).yc;simp only[AD.wp,e1,A,e2,W,Ad,e3,C];exact⟨⟨trivial,B⟩,I,T,u⟩
   .exact h.elim
 |xfa x k=>
  simp only[AD.wp]at h|-;split at h
  .rename_i q i c A;split at h
   .rename_i p J
    try simp only[A,J]
    have G:∃n∈x.sl,O.get n=.lp q i c:=by
     cases x with
     |c t=>simp[AE.ev]at A|s n=>exact⟨n,by simp[AE.sl],A⟩
    obtain ⟨n,N,L⟩:=G;refine⟨h,.none,rfl,trivial,by simp,by simp,?_,by simp[AD.wi],by simp,fun env2 w E u=>?_⟩
    .intro s' he;simp only[EV.yc,tn]at he;subst he;exact .inr ⟨n,N,by rw[L];rfl⟩
    .have C:=(w.ev (x:=x) (fun s h=>h)).AaC (q:=q) (by rw[A];rfl);have B:=(w.bp n N q (by rw[L];rfl)).x4 i;rw[J]at B;simp only[AD.wp,C,A,B];exact u
   .exact h.elim
  .exact h.elim
 |xld x=>
  simp only[AD.wp]at h|-;split at h
  .rename_i q i c A;split at h
   .rename_i p J
    try simp only[A,J]
    cases D:(p.2.flatMap TV.cells)[c]? with
    |none=>rw[D]at h;exact h.elim|some t=>
     rw [D]at h;simp only[Ad]at h|-;have G:∃n∈x.sl,O.get n=.lp q i c:=by
      cases x with
      |c t=>simp[AE.ev]at A|s n=>exact⟨n,by simp[AE.sl],A⟩
     obtain ⟨n,N,L⟩:=G;refine Au h rfl rfl fun env2 w E u=>?_;have C:=(w.ev (x:=x) (fun s h=>h)).AaC (q:=q) (by rw[A];rfl);have B:=(w.bp n N q (by rw[L];rfl)).x4 i;rw[J]at B;simp only[AD.wp,C,A,B,D,Ad];exact u
   .exact h.elim
  .exact h.elim
 |xst _ _ _=>cases H
 |rel _=>cases H
 |Aaf _=>cases H
 |tkx _=>cases H
 |zY _ _ _=>cases H
 |zl g xs=>
  simp only[AD.wp]at h|-;split at h
  .rename_i d;obtain⟨P,h⟩:=h;refine⟨P,?_⟩;cases D:Go.Sf.vals O xs with
   |none=>rw[D]at h;exact h.elim|some Q=>
    rw [D]at h;simp only[Ad]at h|-;obtain⟨n,es,C,B⟩:=h;refine⟨n,es,C,fun R=>⟨B R,.none,rfl,trivial,by simp,by simp,(fun s he=>by cases he),fun _=>⟨rfl,fun Z hd=>?_⟩,by simp,fun env2 w E u=>?_⟩⟩
    .simp only[tn]at hd;subst hd;exact P
    .simp only[AD.wp,w.vals (xs:=xs) (fun s h=>h),D,Ad];exact⟨w.new rfl _ rfl P,n,es,C,fun _=>u⟩
  .exact h.elim
 |z8 n z x=>
  simp only[AD.wp]at h|-;split at h
  .rename_i d k j A
   try simp only[A]
   obtain ⟨P,C,B,I⟩:=h;refine⟨P,C,B,I,.none,rfl,trivial,by simp,by simp,(fun s he=>by cases he),fun _=>⟨rfl,fun Z hd=>?_⟩,by simp,fun env2 w E u=>?_⟩
   .simp only[tn]at hd;subst hd;exact P
   .simp only[AD.wp,w.val (x:=x) (fun s h=>h),A];exact⟨w.new rfl _ rfl P,C,B,u⟩
  .exact h.elim
 |zj _ _ _=>cases H
 |zO _ _=>cases H
 |yt _=>cases H
 |Aan _=>cases H
 |zu _ _=>cases H
 |nst _ _=>cases H
 |Aay _=>cases H
 |zv _ _ _=>cases H
 |ldg _ _=>cases H
 |stq _ _ _ _=>cases H
 |mkm=>cases H
 |mvm _=>cases H
 |zm _ _=>cases H
 |mlk _ _ _=>cases H
 |mup _ _ _ _=>cases H
 |x7 _ _=>cases H
 |mnx _=>cases H
 |men _=>cases H
 |Aac _=>cases H
 |stx _ _ _=>cases H
 |isn _=>cases H
 |zV g xs=>
  simp only[AD.wp]at h|-;cases D:Go.Sf.vals O xs with
  |none=>rw[D]at h;exact h.elim|some Q=>
   rw [D]at h;simp only[Ad]at h|-;obtain⟨r,C,B⟩:=h;refine⟨r,C,fun R=>Au (B R) rfl rfl fun env2 w E u=>?_⟩;simp only[AD.wp,w.vals (xs:=xs) (fun s h=>h),D,Ad];exact⟨r,C,fun _=>u⟩
 |zi g xs=>
  simp only[AD.wp]at h|-;cases D:Go.Sf.vals O xs with
  |none=>rw[D]at h;exact h.elim|some Q=>
   rw [D]at h;simp only[Ad]at h|-;obtain⟨r,C,I,B⟩:=h;refine⟨r,C,I,fun R=>Au (B R) rfl rfl fun env2 w E u=>?_⟩;simp only[AD.wp,w.vals (xs:=xs) (fun s h=>h),D,Ad];exact⟨r,C,I,fun _=>u⟩
 |AaE x k n agg=>
  simp only[AD.wp]at h|-;split at h
  .rename_i cs A
   try simp only[A]
   obtain ⟨C,B⟩:=h;refine⟨C,?_⟩;cases agg with
   |true=>
    simp only[if_true]at B|-;refine Au B rfl rfl fun env2 w E u=>?_;simp only[AD.wp,w.val (x:=x) (fun s h=>h),A,if_true];exact⟨C,u⟩
   |false=>
    simp only[Bool.false_eq_true,if_false]at B|-;cases D:Gc (cs.drop k)with
    |none=>rw[D]at B;exact B.elim|some t=>
     rw [D]at B;simp only[Ad]at B|-;refine Au B rfl rfl fun env2 w E u=>?_;simp only[AD.wp,w.val (x:=x) (fun s h=>h),A,Bool.false_eq_true,if_false,D,Ad];exact⟨C,u⟩
  .exact h.elim
end
end Go.Sf
