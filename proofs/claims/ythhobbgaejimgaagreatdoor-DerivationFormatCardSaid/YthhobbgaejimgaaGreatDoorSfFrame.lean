/- What an operation leans on: the slots that it reads, whether or not they own their lists. -/
import Derived.Test.YthhobbgaejimgaaGreatDoorSfCode
set_option linter.all false
namespace Go.Sf
theorem Zg{cs ds:List AJ}(h:ds.map AJ.key=cs.map AJ.key):ds.map (·.t)=cs.map (·.t):=by
 have:=congrArg (List.map Prod.fst) h;simpa[List.map_map,Function.comp_def,AJ.key]using this
def T8(p:TV×Bool):TV:=match p with
 |(.xl n es,true)=>.list n es|p=>p.1
theorem SP{cs ds:List AJ}(h:ds.map AJ.key=cs.map AJ.key):ds.map AJ.t7=cs.map AJ.t7:=by
 have a:∀c:AJ,c.t7=T8 c.key:=by
  rintro ⟨_|_,t⟩<;>cases t<;>rfl
 have:=congrArg (List.map T8) h;simpa[List.map_map,Function.comp_def,<-a]using this
def gn(p:TV×Bool):Option (Nat×Fq):=match p with
 |(.xl n es,true)=>some (n,es)|_=>none
theorem dc{cs ds:List AJ}(h:ds.map AJ.key=cs.map AJ.key)(k:Nat):(match ds[k]? with
  |some ⟨true,.xl n es⟩=>some (n,es)|_=>none)=(match cs[k]? with
  |some ⟨true,.xl n es⟩=>some (n,es)|_=>none):=by
 have a:∀o:Option AJ,(match o with
  |some ⟨true,.xl n es⟩=>some (n,es)|_=>none)=(o.map AJ.key).bind gn:=by
  rintro (_|⟨_|_,t⟩)
  .rfl
  .cases t<;>rfl
  .cases t<;>rfl
 rw [a,a];have:=congrArg (fun l=>l[k]?) h;simp only[List.getElem?_map]at this;rw[this]
def gp(p:TV×Bool):Option Fq:=match p with
 |(.xn es,true)=>some es|_=>none
theorem de{cs ds:List AJ}(h:ds.map AJ.key=cs.map AJ.key)(k:Nat):(match ds[k]? with
  |some ⟨true,.xn es⟩=>some es|_=>none)=(match cs[k]? with
  |some ⟨true,.xn es⟩=>some es|_=>none):=by
 have a:∀o:Option AJ,(match o with
  |some ⟨true,.xn es⟩=>some es|_=>none)=(o.map AJ.key).bind gp:=by
  rintro (_|⟨_|_,t⟩)
  .rfl
  .cases t<;>rfl
  .cases t<;>rfl
 rw [a,a];have:=congrArg (fun l=>l[k]?) h;simp only[List.getElem?_map]at this;rw[this]
def EV.like(e e2:EV):Prop:=
 e2=e\/(∃n es,(e=.tv (.list n es)/\e2=.ow (.list n es))\/(e=.ow (.list n es)/\e2=.tv (.list n es)))\/∃cs ds,e=.bx cs/\e2=.bx ds/\ds.map AJ.key=cs.map AJ.key
theorem EV.like.rfl'(e:EV):e.like e:=.inl rfl
variable{e e2:EV}
theorem EV.like.symm(h:e.like e2):e2.like e:=by
 rcases h with rfl|⟨n,es,⟨rfl,rfl⟩|⟨rfl,rfl⟩⟩|⟨cs,ds,rfl,rfl,h⟩
 .exact .inl rfl
 .exact .inr (.inl ⟨n,es,.inr ⟨rfl,rfl⟩⟩)
 .exact .inr (.inl ⟨n,es,.inl ⟨rfl,rfl⟩⟩)
 .exact .inr (.inr ⟨ds,cs,rfl,rfl,h.symm⟩)
theorem EV.like.rS(h:e.like e2):e2.rS=e.rS:=by
 rcases h with rfl|⟨n,es,⟨rfl,rfl⟩|⟨rfl,rfl⟩⟩|⟨cs,ds,rfl,rfl,h⟩<;>rfl
variable{q:Nat}
theorem EV.like.uB(h:e.like e2)(a:e.rS=some q):e2=e:=by
 rcases h with rfl|⟨n,es,⟨rfl,rfl⟩|⟨rfl,rfl⟩⟩|⟨cs,ds,rfl,rfl,h⟩
 .rfl
 .cases a
 .cases a
 .cases a
theorem EV.like.xo(h:e.like e2){n:Nat}{es:Fq}(he:e=.xo n es):e2=.xo n es:=by
 subst he;rcases h with rfl|⟨n,es,⟨h,_⟩|⟨h,_⟩⟩|⟨cs,ds,h,_⟩
 .rfl
 .cases h
 .cases h
 .cases h
theorem EV.like.val(h:e.like e2):e2.val=e.val:=by
 rcases h with rfl|⟨n,es,⟨rfl,rfl⟩|⟨rfl,rfl⟩⟩|⟨cs,ds,rfl,rfl,h⟩<;>rfl
theorem EV.like.pt(h:e.like e2){row:Fq}(he:e=.tv (.pt row)):e2=.tv (.pt row):=by
 subst he;rcases h with rfl|⟨n,es,⟨h,rfl⟩|⟨h,rfl⟩⟩|⟨cs,ds,h,rfl,a⟩
 .rfl
 .simp at h
 .cases h
 .cases h
theorem EV.like.bp(h:e.like e2){q a:Nat}(he:e=.bp q a):e2=.bp q a:=by
 subst he;rcases h with rfl|⟨n,es,⟨h,rfl⟩|⟨h,rfl⟩⟩|⟨cs,ds,h,rfl,b⟩
 .rfl
 .cases h
 .cases h
 .cases h
theorem EV.like.tp(h:e.like e2){a:Fq}(he:e=.tp a):e2=.tp a:=by
 subst he;rcases h with rfl|⟨n,es,⟨h,rfl⟩|⟨h,rfl⟩⟩|⟨cs,ds,h,rfl,b⟩
 .rfl
 .cases h
 .cases h
 .cases h
theorem EV.like.bx(h:e.like e2){cs:List AJ}(he:e=.bx cs):∃ds,e2=.bx ds/\ds.map AJ.key=cs.map AJ.key:=by
 subst he;rcases h with rfl|⟨n,es,⟨h,rfl⟩|⟨h,rfl⟩⟩|⟨cs',ds,h,rfl,a⟩
 .exact⟨cs,rfl,rfl⟩
 .cases h
 .cases h
 .simp only[EV.bx.injEq]at h;subst h;exact⟨ds,rfl,a⟩
def AD.sl:AD->Ne
 |.s n=>[n]|.c _=>[]
def P5:Option AD->Ne
 |some x=>x.sl|none=>[]
def ED:List AD->Ne
 |[]=>[]|x::xs=>x.sl++ED xs
def OZ:List (Nat×Nat×AD)->Ne
 |[]=>[]|x::xs=>x.2.2.sl++OZ xs
def AC.slots:AC->Ne
 |.mv x=>x.sl|.tk s=>[s]|.tW _=>[]|.sG x _=>x.sl|.bad s _=>[s]|.tY x i _=>x.sl++i.sl|.aad x i _ _=>x.sl++i.sl|.ld x=>x.sl|.tX x _=>x.sl|.vn s _=>[s]|.ldt x=>x.sl|.bin _ _ x y=>x.sl++y.sl|.not x=>x.sl|.neg x=>x.sl|.pick c a b=>c.sl++(a.sl++b.sl)|.len x=>x.sl|.uj x=>x.sl|.tw _ x lo hi=>x.sl++(P5 lo++P5 hi)|.rR x lo hi=>x.sl++(P5 lo++P5 hi)|.tQ _ ps=>OZ ps|.uc _ ps=>ED ps|.app _ x y=>x.sl++y.sl|.call _ xs=>ED xs|.sJ x xs=>x.sl++ED xs|.sE _ xs=>ED xs|.ext x _=>x.sl|.uF _ x=>x.sl|.rP x i=>x.sl++i.sl|.tS x=>x.sl|.tZ x=>x.sl|.mm _ x y=>x.sl++y.sl|.uv _=>[]|.st _ x v=>x.sl++v.sl|.tV _ s v=>s::v.sl|.uP s=>[s]|.uh x _ _ _=>x.sl|.uZ s=>[s]|.ue x=>x.sl|.uX x i _=>x.sl++i.sl|.xfa x _=>x.sl|.vc x=>x.sl|.t6 x v _=>x.sl++v.sl|.rel s=>[s]|.tF _=>[]|.tE _=>[]|.uq s=>[s]|.tB _ s y=>s::y.sl|.sI _ xs=>ED xs|.ui _ _ x=>x.sl|.sS _ x=>x.sl|.sR _ x=>x.sl|.sF gs=>gs.flatMap GC.sl|.stx _ s q=>[s,q]|.s9 _ xs=>ED xs|.sP _ xs=>ED xs|.uM x=>x.sl|.va x _=>x.sl|.vd x _=>x.sl|.lac x=>x.sl|.vf x=>x.sl|.uJ x q=>x.sl++[q]|.cut _ s hi=>s::hi.sl|.r9 _ xs=>ED xs|.tD _ x=>x.sl|.tG _ s _ x=>s::x.sl|.ta _ xs=>ED xs|.r7 _ xs _=>ED xs|.tO q=>[q]|.s5 s q=>[s,q]|.uO x=>x.sl|.uo x i=>x.sl++i.sl|.uQ x=>x.sl|.up x v=>x.sl++v.sl|.ub q=>[q]|.sW _ xs _=>ED xs|.ve s _=>[s]|.uL _ _ x v=>x.sl++v.sl|.ur=>[]|.uH s=>[s]|.sV _ xs=>ED xs|.vb s m x=>s::(m.sl++x.sl)|.uK s m x v=>s::(m.sl++(x.sl++v.sl))|.rK s m=>s::m.sl|.u9 s=>[s]|.uR s=>[s]
def AC.tT:AC->Ne
 |.tk s=>[s]|.app _ x _=>x.sl|_=>[]
def AC.mov:AC->Bool
 |.st ..=>false|.tV ..=>false|.uP _=>false|.t6 ..=>false|.rel _=>false|.tF _=>false|.tE _=>false|.uq _=>false|.tB ..=>false|.sS ..=>false|.sR ..=>false|.sF _=>false|.stx ..=>false|.uM _=>false|.vf _=>false|.uJ ..=>false|.cut ..=>false|.tG ..=>false|.r7 ..=>false|.tO _=>false|.s5 ..=>false|.up ..=>false|.ub _=>false|.sW ..=>false|.ve ..=>false|.uL ..=>false|.ur=>false|.uH _=>false|.sV ..=>false|.vb ..=>false|.uK ..=>false|.rK ..=>false|.u9 _=>false|.uR _=>false|_=>true
def AC.rE:AC->Bool
 |.uv _=>true|.tZ _=>true|.tD ..=>true|.sI ..=>true|.ui ..=>true|_=>false
def AC.tz:AC->Ne
 |.bad s _=>[s]|.uZ s=>[s]|_=>[]
inductive Ar where
 |none
 |slot (s:Nat) (t:TV)
 |cell (s off:Nat) (t:TV)
def Ar.app:Ar->AA->AA
 |.none,O=>O|.slot s t,O=>(s,.tv t)::O|.cell s off t,O=>match O.get s with
  |.bx cs=>(s,.bx (cs.set off ⟨false,t⟩))::O|_=>O
def Ar.ok:Ar->AA->Prop
 |.none,_=>True|.slot s t,O=>O.get s=.ow t|.cell s off t,O=>∃cs,O.get s=.bx cs/\cs[off]?=some ⟨true,t⟩
structure Cz(op:AC)(f:Ar)(dst:Option Nat)(O env2:AA):Prop where
 sl:∀s∈op.slots,(O.get s).like (env2.get s)
 bp:∀s∈op.slots,∀q,(O.get s).rS=some q->(O.get q).like (env2.get q)
 tT:∀s∈op.tT,(∀cs,O.get s≠.bx cs)->env2.get s=O.get s
 eff:f.ok env2
 new:op.rE=true->∀d,dst=some d->O.l3 d=true->env2.l3 d=true
section
variable{op:AC}{f:Ar}{dst:Option Nat}{O env2:AA}
variable{x:AD}
theorem Cz.val(h:Cz op f dst O env2)(a:∀s∈x.sl,s∈op.slots):x.val env2=x.val O:=by
 cases x with
 |c t=>rfl|s n=>exact(h.sl n (a n (by simp[AD.sl]))).val
theorem Cz.ev(h:Cz op f dst O env2)(a:∀s∈x.sl,s∈op.slots):(x.ev O).like (x.ev env2):=by
 cases x with
 |c t=>exact .inl rfl|s n=>exact h.sl n (a n (by simp[AD.sl]))
theorem Cz.vals(h:Cz op f dst O env2):∀{xs:List AD},(∀s∈ED xs,s∈op.slots)->Go.Sf.vals env2 xs=Go.Sf.vals O xs
 |[],_=>rfl|x::xs,b=>by
  simp only[ED,List.mem_append]at b;simp only[Go.Sf.vals,h.val (x:=x) (fun s a=>b s (.inl a)),h.vals (xs:=xs) (fun s a=>b s (.inr a))]
theorem Cz.parts(h:Cz op f dst O env2):∀{xs:List (Nat×Nat×AD)},(∀s∈OZ xs,s∈op.slots)->EO env2 xs=EO O xs
 |[],_=>rfl|(i,n,x)::xs,b=>by
  simp only[OZ,List.mem_append]at b;simp only[EO,h.val (x:=x) (fun s a=>b s (.inl a)),h.parts (xs:=xs) (fun s a=>b s (.inr a))]
theorem Cz.bnd(h:Cz op f dst O env2){x:Option AD}{k:Int}(a:∀s∈P5 x,s∈op.slots):DW env2 k x=DW O k x:=by
 cases x with
 |none=>rfl|some x=>exact h.val a
theorem Cz.addr(h:Cz op f dst O env2)(j:∀s∈x.sl,s∈op.slots):Ap env2 (x.ev env2)=Ap O (x.ev O):=by
 cases x with
 |c t=>cases t<;>rfl
 |s n=>
  have g:=j n (by simp[AD.sl]);have a:=h.sl n g;have i:=h.bp n g;simp only[AD.ev];generalize O.get n=e at a i;generalize env2.get n=e2 at a;rcases a with rfl|⟨n,es,⟨rfl,rfl⟩|⟨rfl,rfl⟩⟩|⟨cs,ds,rfl,rfl,d⟩
  .cases e2 with
   |bp q k=>
    have b:=i q rfl;simp only[Ap];generalize O.get q=e1 at b;generalize env2.get q=e2 at b;rcases b with rfl|⟨n,es,⟨rfl,rfl⟩|⟨rfl,rfl⟩⟩|⟨cs,ds,rfl,rfl,d⟩
    .rfl
    .rfl
    .rfl
    .simp only[List.map_drop,Zg d]
   |tv t=>cases t<;>rfl
   |_=>rfl
  .rfl
  .rfl
  .simp only[Ap,Zg d]
theorem Cz.place(h:Cz op f dst O env2)(d:∀s∈x.sl,s∈op.slots):x.place env2=x.place O:=by
 cases x with
 |c t=>rfl|s n=>
  have g:=h.sl n (d n (by simp[AD.sl]));simp only[AD.place];rcases g with a|⟨n,es,⟨a,b⟩|⟨a,b⟩⟩|⟨cs,ds,a,b,_⟩
  .rw[a]
  .rw[a,b]
  .rw[a,b]
  .rw[a,b]
variable{q:Nat}
theorem EV.like.rD{O env2:AA}(h:(O.get q).like (env2.get q))(i:Option Nat):env2.rD q i=O.rD q i:=by
 rcases h with a|⟨n,es,⟨a,b⟩|⟨a,b⟩⟩|⟨cs,ds,a,b,c⟩
 .exact AA.su a
 .cases i<;>simp only[AA.rD,a,b]
 .cases i<;>simp only[AA.rD,a,b]
 .cases i with
  |none=>simp only[AA.rD,a,b]|some k=>simp only[AA.rD,a,b];exact dc c k
theorem EV.like.nat{O env2:AA}(h:(O.get q).like (env2.get q))(i:Nat):env2.nat q i=O.nat q i:=by
 rcases h with a|⟨n,es,⟨a,b⟩|⟨a,b⟩⟩|⟨cs,ds,a,b,c⟩
 .exact AA.sH a
 .simp only[AA.nat,a,b]
 .simp only[AA.nat,a,b]
 .simp only[AA.nat,a,b];exact de c i
variable{e e2:EV}
theorem EV.like.nh(h:e.like e2){q i:Nat}{k:NK}(he:e=.nh q i k):e2=.nh q i k:=by
 subst he;exact h.uB rfl
theorem Cz.rL(h:Cz op f dst O env2)(g:∀s∈x.sl,s∈op.slots):x.rL env2=x.rL O:=by
 cases x with
 |c t=>rfl|s n=>
  have d:=g n (by simp[AD.sl]);have j:=h.sl n d;have k:=h.bp n d;simp only[AD.rL];rcases j with a|⟨m,es,⟨a,b⟩|⟨a,b⟩⟩|⟨cs,ds,a,b,_⟩
  .rw[a];cases he:O.get n with
   |la q i=>simp only[(k q (by rw[he];rfl)).rD i]|_=>rfl
  .rw[a,b]
  .rw[a,b]
  .rw[a,b]
theorem Cz.uk(h:Cz op f dst O env2)(i:∀s∈x.sl,s∈op.slots):x.uk env2=x.uk O:=by
 unfold AD.uk;rw[h.rL i];cases x.rL O with
 |some p=>rfl|none=>
  cases x with
  |c t=>cases t<;>rfl
  |s n=>
   have j:=i n (by simp[AD.sl]);have k:=h.sl n j;have o:=h.bp n j;simp only[AD.ev];rcases k with a|⟨m,es,⟨a,d⟩|⟨a,d⟩⟩|⟨cs,ds,a,d,u⟩
   .rw[a];cases he:O.get n with
    |bp q v=>
     have r:=o q (by rw[he];rfl);simp only;rcases r with b|⟨m,es,⟨b,g⟩|⟨b,g⟩⟩|⟨cs,ds,b,g,k3⟩
     .rw[b]
     .rw[b,g]
     .rw[b,g]
     .rw[b,g];have:=SP k3;simp only[List.map_drop,this]
    |_=>rfl
   .rw[a,d];rfl
   .rw[a,d];rfl
   .rw[a,d];simp only[SP u]
theorem Cz.sf(h:Cz op f dst O env2):∀{xs:List AD},(∀s∈ED xs,s∈op.slots)->Go.Sf.sf env2 xs=Go.Sf.sf O xs
 |[],_=>rfl|x::xs,b=>by
  simp only[ED,List.mem_append]at b;simp only[Go.Sf.sf,h.uk (x:=x) (fun s a=>b s (.inl a)),h.sf (xs:=xs) (fun s a=>b s (.inr a))]
end
structure Vs(S:FuncId->Fq->Af->Prop)(op:AC)(dst:Option Nat)(O:AA)(e:EV)(env':AA)(f:Ar):Prop where
 env':env'=f.app O
 ok:f.ok O
 slot:∀s t,f=.slot s t->s∈op.tT
 cell:∀s off t,f=.cell s off t->(s∈op.slots\/∃x∈op.slots,(O.get x).rS=some s)
 rS:∀s,e.rS=some s->(s∈op.tz\/∃x∈op.slots,(O.get x).rS=some s)
 new:op.rE=true->e.rS=none/\∀d,dst=some d->O.l3 d=true
 xl:∀s off t,f=.cell s off t->t.sT=false
 again:∀env2,Cz op f dst O env2->∀K2:EV->AA->Prop,K2 e (f.app env2)->op.wp S env2 dst K2
section
variable{S:FuncId->Fq->Af->Prop}{op:AC}{dst:Option Nat}{O:AA}{K:EV->AA->Prop}
variable{e:EV}
theorem Ak(b:K e O)(c:op.rE=false)(d:e.rS=none)(h:∀env2,Cz op .none dst O env2->∀a:EV->AA->Prop,a e env2->op.wp S env2 dst a):K e O/\∃f,Vs S op dst O e O f:=
 ⟨b,.none,rfl,trivial,by simp,by simp,(fun s he=>by rw[d]at he;cases he),by simp[c],by simp,h⟩
variable{α:Type}{l m:List α}
theorem Cv{x:α}(h:x∈m):x∈l++m:=List.mem_append_right _ h
theorem CU{x:α}(h:x∈l):x∈l++m:=List.mem_append_left _ h
theorem frame(H:op.mov=true)(h:op.wp S O dst K):op.wp S O dst fun e env'=>K e env'/\∃f,Vs S op dst O e env' f:=by
 cases op with
 |mv x=>
  simp only[AC.wp]at h|-;have key:∀t,(x.ev O).val=some t->∀env2,Cz (.mv x) .none dst O env2->∀E:EV->AA->Prop,E (.tv t) env2->(AC.mv x).wp S env2 dst E:=by
   intro t ht env2 w E u;have hv:=w.val (x:=x) (fun s h=>h);simp only[AD.val]at hv;rw[ht]at hv;simp only[AC.wp];cases he:x.ev env2<;>rw[he]at hv<;>simp[EV.val]at hv<;>subst hv<;>exact u
  split at h
  .rename_i t A
   try simp only[A]
   exact Ak h rfl rfl (key t (by rw[A];rfl))
  .rename_i t A
   try simp only[A]
   exact Ak h rfl rfl (key t (by rw[A];rfl))
  .rename_i Q A
   try simp only[A]
   refine Ak h rfl rfl fun env2 w E u=>?_;cases x with
   |c t=>simp[AD.ev]at A|s n=>
    simp only[AD.ev]at A;have B:env2.get n=.tp Q:=(w.sl n (by simp[AC.slots,AD.sl])).tp A;simp only[AC.wp,AD.ev,B];exact u
  .exact h.elim
 |tk s=>
  simp only[AC.wp]at h|-;split at h
  .rename_i t M
   try simp only[M]
   refine ⟨h,.slot s t,rfl,M,?_,by simp,(fun s he=>by cases he),by simp[AC.rE],by simp,fun env2 w E u=>?_⟩
   .intro s' t' he;simp only[Ar.slot.injEq]at he;simp[AC.tT,he.1]
   .have:=w.eff;simp only[Ar.ok]at this;simp only[AC.wp,this];exact u
  .rename_i t M
   try simp only[M]
   refine Ak h rfl rfl fun env2 w E u=>?_;have:=w.tT s (by simp[AC.tT]) (by simp[M]);simp only[AC.wp,this,M];exact u
  .exact h.elim
 |tW n=>exact Ak h rfl rfl fun env2 w E u=>u|sG x k=>
  simp only[AC.wp]at h|-;split at h
  .rename_i row A
   try simp only[A]
   refine Ak h rfl rfl fun env2 w E u=>?_;have:=(w.ev (x:=x) (fun s h=>h)).pt A;simp only[AC.wp,this];exact u
  .rename_i s F A;split at h
   .rename_i cs M
    try simp only[A,M]
    have G:∃n∈x.sl,O.get n=.bp s F:=by
     cases x with
     |c t=>simp[AD.ev]at A|s n=>exact⟨n,by simp[AD.sl],A⟩
    obtain ⟨n,N,L⟩:=G;refine⟨h,.none,rfl,trivial,by simp,by simp,?_,by simp[AC.rE],by simp,fun env2 w E u=>?_⟩
    .intro s' he;simp only[EV.rS,rC]at he;subst he;exact .inr ⟨n,N,by rw[L];rfl⟩
    .have C:=(w.ev (x:=x) (fun s h=>h)).bp A;have B:=w.bp n N s (by rw[L];rfl);rw[M]at B;obtain⟨ds,I,_⟩:=B.bx rfl;simp only[AC.wp,C,I];exact u
   .exact h.elim
  .exact h.elim
 |bad s k=>
  simp only[AC.wp]at h|-;split at h
  .rename_i cs M
   try simp only[M]
   refine ⟨h,.none,rfl,trivial,by simp,by simp,?_,by simp[AC.rE],by simp,fun env2 w E u=>?_⟩
   .intro s' he;simp only[EV.rS,rC]at he;exact .inl (by simp[AC.tz,he])
   .have B:=w.sl s (by simp[AC.slots]);rw[M]at B;obtain⟨ds,I,_⟩:=B.bx rfl;simp only[AC.wp,I];exact u
  .rename_i row M
   try simp only[M]
   refine Ak h rfl rfl fun env2 w E u=>?_;have:=(w.sl s (by simp[AC.slots])).pt M;simp only[AC.wp,this];exact u
  .exact h.elim
 |tY x i n=>
  simp only[AC.wp]at h|-;split at h
  .rename_i m es k j A hi
   try simp only[A,hi]
   obtain ⟨C,B,e,I,T⟩:=h;refine⟨C,B,e,I,Ak T rfl rfl fun env2 w E u=>?_⟩;simp only[AC.wp,w.val (x:=x) (fun s h=>CU h),w.val (x:=i) (fun s h=>Cv h),A,hi];exact⟨C,B,e,I,u⟩
  .exact h.elim
 |aad x i n k=>
  simp only[AC.wp]at h|-;split at h
  .rename_i row kk j A hi
   try simp only[A,hi]
   obtain ⟨C,B,I,T⟩:=h;refine⟨C,B,I,Ak T rfl rfl fun env2 w E u=>?_⟩;have:=(w.ev (x:=x) (fun s h=>CU h)).pt A;simp only[AC.wp,this,w.val (x:=i) (fun s h=>Cv h),hi];exact⟨C,B,I,u⟩
  .exact h.elim
 |ld x=>
  simp only[AC.wp]at h|-;cases D:Ap O (x.ev O)with
  |none=>rw[D]at h;exact h.elim|some cs=>
   rw [D]at h;simp only[AQ]at h|-;cases hf:EC cs with
   |none=>rw[hf]at h;exact h.elim|some t=>
    rw [hf]at h;refine⟨h.1,Ak h.2 rfl rfl fun env2 w E u=>?_⟩;simp only[AC.wp,w.addr (x:=x) (fun s h=>h),D,AQ,hf];exact⟨h.1,u⟩
 |tX x n=>
  simp only[AC.wp]at h|-;cases D:Ap O (x.ev O)with
  |none=>rw[D]at h;exact h.elim|some cs=>
   rw [D]at h;simp only[AQ]at h|-;refine⟨h.1,Ak h.2 rfl rfl fun env2 w E u=>?_⟩;simp only[AC.wp,w.addr (x:=x) (fun s h=>h),D,AQ];exact⟨h.1,u⟩
 |vn s n=>
  simp only[AC.wp]at h|-;split at h
  .rename_i cs D
   try simp only[D]
   refine ⟨h.1,Ak h.2 rfl rfl fun env2 w E u=>?_⟩;have C:=w.addr (x:=.s s) (fun s h=>h);obtain⟨ds,I,_⟩:=(w.sl s (by simp[AC.slots])).bx D;simp only[AD.ev,D,I,Ap,rC]at C;simp only[AC.wp,I,C];exact⟨h.1,u⟩
  .exact h.elim
 |ldt x=>
  simp only[AC.wp]at h|-;split at h
  .rename_i s F U;split at h
   .rename_i cs M;split at h
    .rename_i n es D
     try simp only[U,M,D]
     refine ⟨h,.cell s F (.list n es),by simp[Ar.app,M],⟨cs,M,D⟩,by simp,?_,(fun s he=>by cases he),by simp[AC.rE],(fun s F t he=>by cases he;rfl),fun env2 w E u=>?_⟩
     .intro s' off' t' he;simp only[Ar.cell.injEq]at he;obtain⟨rfl,rfl,rfl⟩:=he;cases x with
      |c t=>simp[AD.place]at U|s n=>
       simp only[AD.place]at U;split at U
       .rename_i q o J;simp only[rC,Prod.mk.injEq]at U;exact .inr ⟨n,by simp[AC.slots,AD.sl],by rw[J,U.1];rfl⟩
       .simp only[rC,Prod.mk.injEq]at U;exact .inl (by simp[AC.slots,AD.sl,U.1])
       .cases U
     .obtain⟨ds,C,B⟩:=w.eff;simp only[Ar.app,C]at u;simp only[AC.wp,w.place (x:=x) (fun s h=>h),U,C,B];exact u
    .exact h.elim
   .exact h.elim
  .exact h.elim
 |bin k op x y=>
  simp only[AC.wp]at h|-;split at h
  .rename_i a b A V
   try simp only[A,V]
   cases L:C3 k op a b with
   |none=>rw[L]at h;exact h.elim|some t=>
    rw [L]at h;refine Ak h rfl rfl fun env2 w E u=>?_;simp only[AC.wp,w.val (x:=x) (fun s h=>CU h),w.val (x:=y) (fun s h=>Cv h),A,V,L,AQ];exact u
  .exact h.elim
 |not x=>
  simp only[AC.wp]at h|-;split at h
  .rename_i b A
   try simp only[A]
   refine Ak h rfl rfl fun env2 w E u=>?_;simp only[AC.wp,w.val (x:=x) (fun s h=>h),A];exact u
  .exact h.elim
 |neg x=>
  simp only[AC.wp]at h|-;split at h
  .rename_i k n A
   try simp only[A]
   refine Ak h rfl rfl fun env2 w E u=>?_;simp only[AC.wp,w.val (x:=x) (fun s h=>h),A];exact u
  .exact h.elim
 |pick c a b=>
  simp only[AC.wp]at h|-;split at h
  .rename_i q D
   try simp only[D]
   have key:∀t,((if q=true then a else b).ev O).val=some t->∀env2,Cz (.pick c a b) .none dst O env2->∀E:EV->AA->Prop,E (.tv t) env2->(AC.pick c a b).wp S env2 dst E:=by
    intro t ht env2 w E u;have hv:=w.val (x:=if q=true then a else b) (fun s h=>by
     cases q
     .exact Cv (Cv h)
     .exact Cv (CU h))
    simp only[AD.val]at hv;rw[ht]at hv;simp only[AC.wp,w.val (x:=c) (fun s h=>CU h),D];cases he:(if q=true then a else b).ev env2<;>rw[he]at hv<;>simp[EV.val]at hv<;>subst hv<;>exact u
   split at h
   .rename_i t A
    try simp only[A]
    exact Ak h rfl rfl (key t (by rw[A];rfl))
   .rename_i t A
    try simp only[A]
    exact Ak h rfl rfl (key t (by rw[A];rfl))
   .exact h.elim
  .exact h.elim
 |len x=>
  simp only[AC.wp]at h|-;split at h
  .rename_i n es A
   try simp only[A]
   refine Ak h rfl rfl fun env2 w E u=>?_;simp only[AC.wp,w.val (x:=x) (fun s h=>h),A];exact u
  .exact h.elim
 |va x k=>
  simp only[AC.wp]at h|-;split at h
  .rename_i row A
   try simp only[A]
   refine Ak h rfl rfl fun env2 w E u=>?_;simp only[AC.wp,w.val (x:=x) (fun s h=>h),A];exact u
  .exact h.elim
 |vd x n=>
  simp only[AC.wp]at h|-;split at h
  .rename_i row A
   try simp only[A]
   refine ⟨h.1,Ak h.2 rfl rfl fun env2 w E u=>?_⟩;simp only[AC.wp,w.val (x:=x) (fun s h=>h),A];exact⟨h.1,u⟩
  .exact h.elim
 |uj x=>
  simp only[AC.wp]at h|-;split at h
  .rename_i s A
   try simp only[A]
   refine Ak h rfl rfl fun env2 w E u=>?_;simp only[AC.wp,w.val (x:=x) (fun s h=>h),A];exact u
  .exact h.elim
 |tw n x lo hi=>
  simp only[AC.wp]at h|-;split at h
  .rename_i m es A
   try simp only[A]
   split at h
   .rename_i k1 l k2 hh C B
    try simp only[C,B]
    refine ⟨h.1,h.2.1,Ak h.2.2 rfl rfl fun env2 w E u=>?_⟩;simp only[AC.wp,w.val (x:=x) (fun s h=>CU h),A,w.bnd (x:=lo) (fun s h=>Cv (CU h)),w.bnd (x:=hi) (fun s h=>Cv (Cv h)),C,B];exact⟨h.1,h.2.1,u⟩
   .exact h.elim
  .exact h.elim
 |rR x lo hi=>
  simp only[AC.wp]at h|-;split at h
  .rename_i str A
   try simp only[A]
   split at h
   .rename_i k1 l k2 hh C B
    try simp only[C,B]
    refine ⟨h.1,h.2.1,h.2.2.1,Ak h.2.2.2 rfl rfl fun env2 w E u=>?_⟩;simp only[AC.wp,w.val (x:=x) (fun s h=>CU h),A,w.bnd (x:=lo) (fun s h=>Cv (CU h)),w.bnd (x:=hi) (fun s h=>Cv (Cv h)),C,B];exact⟨h.1,h.2.1,h.2.2.1,u⟩
   .exact h.elim
  .exact h.elim
 |tQ zero Y=>
  simp only[AC.wp]at h|-;cases D:EO O Y with
  |none=>rw[D]at h;exact h.elim|some Q=>
   rw [D]at h;simp only[AQ]at h|-;cases hf:DH zero Q with
   |none=>rw[hf]at h;exact h.elim|some cs=>
    rw [hf]at h;refine Ak h rfl rfl fun env2 w E u=>?_;simp only[AC.wp,w.parts (xs:=Y) (fun s h=>h),D,AQ,hf];exact u
 |uc n Y=>
  simp only[AC.wp]at h|-;cases D:Go.Sf.vals O Y with
  |none=>rw[D]at h;exact h.elim|some Q=>
   rw [D]at h;simp only[AQ]at h|-;refine⟨h.1,Ak h.2 rfl rfl fun env2 w E u=>?_⟩;simp only[AC.wp,w.vals (xs:=Y) (fun s h=>h),D,AQ];exact⟨h.1,u⟩
 |app n x y=>
  simp only[AC.wp]at h|-;split at h
  .rename_i m es m' fs A V
   try simp only[A,V]
   obtain ⟨C,B,I,T⟩:=h;cases x with
   |c t=>simp[AD.ev]at A|s s=>
    simp only[AD.ev]at A;subst C;refine⟨rfl,B,I,T,.slot s (.list m es),rfl,A,?_,by simp,(fun s he=>by cases he),by simp[AC.rE],by simp,fun env2 w E u=>?_⟩
    .intro s' t' he;simp only[Ar.slot.injEq]at he;simp[AC.tT,AD.sl,he.1]
    .have:=w.eff;simp only[Ar.ok]at this;simp only[AC.wp,AD.ev,this,w.val (x:=y) (fun s h=>Cv h),V];exact⟨trivial,B,I,u⟩
  .exact h.elim
 |call g xs=>
  simp only[AC.wp]at h|-;cases D:Go.Sf.vals O xs with
  |none=>rw[D]at h;exact h.elim|some Q=>
   rw [D]at h;simp only[AQ]at h|-;obtain⟨r,C,B⟩:=h;refine⟨r,C,fun R=>Ak (B R) rfl (by cases r<;>rfl) fun env2 w E u=>?_⟩;simp only[AC.wp,w.vals (xs:=xs) (fun s h=>h),D,AQ];exact⟨r,C,fun _=>u⟩
 |sJ x xs=>
  simp only[AC.wp]at h|-;split at h
  .rename_i g caps Q A D
   try simp only[A,D]
   obtain ⟨r,C,B⟩:=h;refine⟨r,C,fun R=>Ak (B R) rfl (by cases r<;>rfl) fun env2 w E u=>?_⟩;simp only[AC.wp,w.val (x:=x) (fun s h=>CU h),w.vals (xs:=xs) (fun s h=>Cv h),A,D];exact⟨r,C,fun _=>u⟩
  .exact h.elim
 |sE g xs=>
  simp only[AC.wp]at h|-;cases D:Go.Sf.vals O xs with
  |none=>rw[D]at h;exact h.elim|some Q=>
   rw [D]at h;simp only[AQ]at h|-;refine Ak h rfl rfl fun env2 w E u=>?_;simp only[AC.wp,w.vals (xs:=xs) (fun s h=>h),D,AQ];exact u
 |ext x i=>
  simp only[AC.wp]at h|-;split at h
  .rename_i Q A
   try simp only[A]
   cases hf:Q[i]? with
   |none=>rw[hf]at h;exact h.elim|some t=>
    rw [hf]at h;refine Ak h rfl rfl fun env2 w E u=>?_;have:=(w.ev (x:=x) (fun s h=>h)).tp A;simp only[AC.wp,this,hf,AQ];exact u
  .exact h.elim
 |uF k x=>
  simp only[AC.wp]at h|-;split at h
  .rename_i k n A
   try simp only[A]
   refine Ak h rfl rfl fun env2 w E u=>?_;simp only[AC.wp,w.val (x:=x) (fun s h=>h),A];exact u
  .exact h.elim
 |rP x i=>
  simp only[AC.wp]at h|-;split at h
  .rename_i str k j A hi
   try simp only[A,hi]
   obtain ⟨C,b,B,I⟩:=h;refine⟨C,b,B,Ak I rfl rfl fun env2 w E u=>?_⟩;simp only[AC.wp,w.val (x:=x) (fun s h=>CU h),w.val (x:=i) (fun s h=>Cv h),A,hi];exact⟨C,b,B,u⟩
  .exact h.elim
 |tS x=>
  simp only[AC.wp]at h|-;split at h
  .rename_i t A
   try simp only[A]
   refine Ak h rfl rfl fun env2 w E u=>?_;simp only[AC.wp,w.val (x:=x) (fun s h=>h),A];exact u
  .exact h.elim
 |tZ x=>
  simp only[AC.wp]at h|-;split at h
  .rename_i t d A
   try simp only[A]
   refine ⟨h.1,h.2,.none,rfl,trivial,by simp,by simp,(fun s he=>by cases he),fun _=>⟨rfl,fun Z hd=>?_⟩,by simp,fun env2 w E u=>?_⟩
   .simp only[rC]at hd;subst hd;exact h.1
   .simp only[AC.wp,w.val (x:=x) (fun s h=>h),A];exact⟨w.new rfl _ rfl h.1,u⟩
  .exact h.elim
 |mm mx x y=>
  simp only[AC.wp]at h|-;split at h
  .rename_i k a k' b A V
   try simp only[A,V]
   refine ⟨h.1,Ak h.2 rfl rfl fun env2 w E u=>?_⟩;simp only[AC.wp,w.val (x:=x) (fun s h=>CU h),w.val (x:=y) (fun s h=>Cv h),A,V];exact⟨h.1,u⟩
  .exact h.elim
 |uv cs=>
  simp only[AC.wp]at h|-;split at h
  .rename_i d;refine⟨h.1,h.2,.none,rfl,trivial,by simp,by simp,(fun s he=>by cases he),fun _=>⟨rfl,fun Z hd=>?_⟩,by simp,fun env2 w E u=>?_⟩
   .simp only[rC]at hd;subst hd;exact h.1
   .simp only[AC.wp];exact⟨w.new rfl _ rfl h.1,u⟩
  .exact h.elim
 |st n x v=>cases H
 |tV n s v=>cases H
 |uP s=>cases H
 |uZ s=>
  simp only[AC.wp]at h|-;split at h
  .rename_i n es M
   try simp only[M]
   refine ⟨h,.none,rfl,trivial,by simp,by simp,?_,by simp[AC.rE],by simp,fun env2 w E u=>?_⟩
   .intro s' he;simp only[EV.rS,rC]at he;exact .inl (by simp[AC.tz,he])
   .have B:=(w.sl s (by simp[AC.slots])).xo M;simp only[AC.wp,B];exact u
  .exact h.elim
 |ue x=>
  simp only[AC.wp]at h|-;cases A:x.rL O with
  |none=>rw[A]at h;exact h.elim|some p=>
   rw [A]at h;simp only[AQ]at h|-;refine Ak h rfl rfl fun env2 w E u=>?_;simp only[AC.wp,w.rL (x:=x) (fun s h=>h),A,AQ];exact u
 |uO x=>
  simp only[AC.wp]at h|-;split at h
  .rename_i s F A;cases J:O.nat s F with
   |none=>rw[J]at h;exact h.elim|some es=>
    rw [J]at h;simp only[AQ]at h
    try simp only[A,J]
    have G:∃n∈x.sl,O.get n=.bp s F:=by
     cases x with
     |c t=>simp[AD.ev]at A|s n=>exact⟨n,by simp[AD.sl],A⟩
    obtain ⟨n,N,L⟩:=G;refine⟨h,.none,rfl,trivial,by simp,by simp,?_,by simp[AC.rE],by simp,fun env2 w E u=>?_⟩
    .intro s' he;simp only[EV.rS,rC]at he;subst he;exact .inr ⟨n,N,by rw[L];rfl⟩
    .have C:=(w.ev (x:=x) (fun s h=>h)).bp A;have B:=(w.bp n N s (by rw[L];rfl)).nat F;rw[J]at B;simp only[AC.wp,C,B,AQ];exact u
  .exact h.elim
 |uQ x=>
  simp only[AC.wp]at h|-;split at h
  .rename_i s F r A;cases J:O.nat s F with
   |none=>rw[J]at h;exact h.elim|some es=>
    rw [J]at h;simp only[AQ]at h;obtain⟨X,h⟩:=h
    try simp only[A,J]
    have G:∃n∈x.sl,O.get n=.nh s F (.el r):=by
     cases x with
     |c t=>simp[AD.ev]at A|s n=>exact⟨n,by simp[AD.sl],A⟩
    obtain ⟨n,N,L⟩:=G;refine⟨X,h,.none,rfl,trivial,by simp,by simp,?_,by simp[AC.rE],by simp,fun env2 w E u=>?_⟩
    .intro s' he;simp only[EV.rS,rC]at he;subst he;exact .inr ⟨n,N,by rw[L];rfl⟩
    .have C:=(w.ev (x:=x) (fun s h=>h)).nh A;have B:=(w.bp n N s (by rw[L];rfl)).nat F;rw[J]at B;simp only[AC.wp,C,B,AQ];exact⟨X,u⟩
  .exact h.elim
 |uo x i=>
  simp only[AC.wp]at h|-;split at h
  .rename_i s F k j A W;cases J:O.nat s F with
   |none=>rw[J]at h;exact h.elim|some es=>
    rw [J]at h;simp only[AQ]at h;obtain⟨X,I,h⟩:=h
    try simp only[A,W,J]
    have G:∃n∈x.sl,O.get n=.nh s F .hd:=by
     cases x with
     |c t=>simp[AD.ev]at A|s n=>exact⟨n,by simp[AD.sl],A⟩
    obtain ⟨n,N,L⟩:=G;refine⟨X,I,h,.none,rfl,trivial,by simp,by simp,?_,by simp[AC.rE],by simp,fun env2 w E u=>?_⟩
    .intro s' he;simp only[EV.rS,rC]at he;subst he;exact .inr ⟨n,CU N,by rw[L];rfl⟩
    .have C:=(w.ev (x:=x) (fun s h=>CU h)).nh A;have e2:=w.val (x:=i) (fun s h=>Cv h);have B:=(w.bp n (CU N) s (by rw[L];rfl)).nat F;rw[J]at B;simp only[AC.wp,C,e2,W,B,AQ];exact⟨X,I,u⟩
  .rename_i s F r k j A W;cases J:O.nat s F with
   |none=>rw[J]at h;exact h.elim|some es=>
    rw [J]at h;simp only[AQ]at h;obtain⟨X,fs,I,T,h⟩:=h
    try simp only[A,W,J]
    have G:∃n∈x.sl,O.get n=.nh s F (.rw r):=by
     cases x with
     |c t=>simp[AD.ev]at A|s n=>exact⟨n,by simp[AD.sl],A⟩
    obtain ⟨n,N,L⟩:=G;refine⟨X,fs,I,T,h,.none,rfl,trivial,by simp,by simp,?_,by simp[AC.rE],by simp,fun env2 w E u=>?_⟩
    .intro s' he;simp only[EV.rS,rC]at he;subst he;exact .inr ⟨n,CU N,by rw[L];rfl⟩
    .have C:=(w.ev (x:=x) (fun s h=>CU h)).nh A;have e2:=w.val (x:=i) (fun s h=>Cv h);have B:=(w.bp n (CU N) s (by rw[L];rfl)).nat F;rw[J]at B;simp only[AC.wp,C,e2,W,B,AQ];exact⟨X,fs,I,T,u⟩
  .exact h.elim
 |lac x=>
  simp only[AC.wp]at h|-;split at h
  .rename_i s F A;split at h
   .rename_i p J
    try simp only[A,J]
    have G:∃n∈x.sl,O.get n=.bp s F:=by
     cases x with
     |c t=>simp[AD.ev]at A|s n=>exact⟨n,by simp[AD.sl],A⟩
    obtain ⟨n,N,L⟩:=G;refine⟨h,.none,rfl,trivial,by simp,by simp,?_,by simp[AC.rE],by simp,fun env2 w E u=>?_⟩
    .intro s' he;simp only[EV.rS,rC]at he;subst he;exact .inr ⟨n,N,by rw[L];rfl⟩
    .have C:=(w.ev (x:=x) (fun s h=>h)).bp A;have B:=(w.bp n N s (by rw[L];rfl)).rD (some F);rw[J]at B;simp only[AC.wp,C,B];exact u
   .exact h.elim
  .exact h.elim
 |vf _=>cases H
 |uJ _ _=>cases H
 |cut _ _ _=>cases H
 |tG _ _ _ _=>cases H
 |ta g xs=>
  simp only[AC.wp]at h|-;cases D:Go.Sf.vals O xs with
  |none=>rw[D]at h;exact h.elim|some Q=>
   rw [D]at h;simp only[AQ]at h|-;obtain⟨r,C,B⟩:=h;refine⟨r,C,Ak B rfl rfl fun env2 w E u=>?_⟩;simp only[AC.wp,w.vals (xs:=xs) (fun s h=>h),D,AQ];exact⟨r,C,u⟩
 |r7 _ _ _=>cases H
 |r9 g xs=>
  simp only[AC.wp]at h|-;cases D:Go.Sf.sf O xs with
  |none=>rw[D]at h;exact h.elim|some Q=>
   rw [D]at h;simp only[AQ]at h|-;obtain⟨r,C,B⟩:=h;refine⟨r,C,fun R=>Ak (B R) rfl (by cases r<;>rfl) fun env2 w E u=>?_⟩;simp only[AC.wp,w.sf (xs:=xs) (fun s h=>h),D,AQ];exact⟨r,C,fun _=>u⟩
 |tD Y x=>
  simp only[AC.wp]at h|-;split at h
  .rename_i t d A
   try simp only[A]
   cases D:CZ Y t.cells with
   |none=>rw[D]at h;exact h.elim|some cs=>
    rw [D]at h;simp only[AQ]at h|-;refine⟨h.1,h.2,.none,rfl,trivial,by simp,by simp,(fun s he=>by cases he),fun _=>⟨rfl,fun Z hd=>?_⟩,by simp,fun env2 w E u=>?_⟩
    .simp only[rC]at hd;subst hd;exact h.1
    .simp only[AC.wp,w.val (x:=x) (fun s h=>h),A,D,AQ];exact⟨w.new rfl _ rfl h.1,u⟩
  .exact h.elim
 |uX x i n=>
  simp only[AC.wp]at h|-;cases A:x.rL O with
  |none=>rw[A]at h;exact h.elim|some p=>
   rw [A]at h;simp only[AQ]at h|-;split at h
   .rename_i ik j W
    try simp only[W]
    obtain ⟨⟨C,B⟩,I,T,h5⟩:=h;have G:∃n∈x.sl,(O.get n).rS=some p.1.1:=by
     cases x with
     |c t=>simp[AD.ev,EV.rS]at C|s n=>exact⟨n,by simp[AD.sl],C⟩
    obtain ⟨m,hm',hr⟩:=G;refine⟨⟨C,B⟩,I,T,h5,.none,rfl,trivial,by simp,by simp,?_,by simp[AC.rE],by simp,fun env2 w E u=>?_⟩
    .intro s' he;simp only[EV.rS,rC]at he;subst he;exact .inr ⟨m,CU hm',hr⟩
    .have e1:=w.rL (x:=x) (fun s h=>CU h);have e2:=w.val (x:=i) (fun s h=>Cv h);have e3:=(w.ev (x:=x) (fun s h=>CU h)).rS;simp only[AC.wp,e1,A,e2,W,AQ,e3,C];exact⟨⟨trivial,B⟩,I,T,u⟩
   .exact h.elim
 |xfa x k=>
  simp only[AC.wp]at h|-;split at h
  .rename_i q i c A;split at h
   .rename_i p J
    try simp only[A,J]
    have G:∃n∈x.sl,O.get n=.lp q i c:=by
     cases x with
     |c t=>simp[AD.ev]at A|s n=>exact⟨n,by simp[AD.sl],A⟩
    obtain ⟨n,N,L⟩:=G;refine⟨h,.none,rfl,trivial,by simp,by simp,?_,by simp[AC.rE],by simp,fun env2 w E u=>?_⟩
    .intro s' he;simp only[EV.rS,rC]at he;subst he;exact .inr ⟨n,N,by rw[L];rfl⟩
    .have C:=(w.ev (x:=x) (fun s h=>h)).uB (q:=q) (by rw[A];rfl);have B:=(w.bp n N q (by rw[L];rfl)).rD i;rw[J]at B;simp only[AC.wp,C,A,B];exact u
   .exact h.elim
  .exact h.elim
 |vc x=>
  simp only[AC.wp]at h|-;split at h
  .rename_i q i c A;split at h
   .rename_i p J
    try simp only[A,J]
    cases D:(p.2.flatMap TV.cells)[c]? with
    |none=>rw[D]at h;exact h.elim|some t=>
     rw [D]at h;simp only[AQ]at h|-;have G:∃n∈x.sl,O.get n=.lp q i c:=by
      cases x with
      |c t=>simp[AD.ev]at A|s n=>exact⟨n,by simp[AD.sl],A⟩
     obtain ⟨n,N,L⟩:=G;refine Ak h rfl rfl fun env2 w E u=>?_;have C:=(w.ev (x:=x) (fun s h=>h)).uB (q:=q) (by rw[A];rfl);have B:=(w.bp n N q (by rw[L];rfl)).rD i;rw[J]at B;simp only[AC.wp,C,A,B,D,AQ];exact u
   .exact h.elim
  .exact h.elim
 |t6 _ _ _=>cases H
 |rel _=>cases H
 |tF _=>cases H
 |uq _=>cases H
 |tB _ _ _=>cases H
 |sI g xs=>
  simp only[AC.wp]at h|-;split at h
  .rename_i d;obtain⟨P,h⟩:=h;refine⟨P,?_⟩;cases D:Go.Sf.vals O xs with
   |none=>rw[D]at h;exact h.elim|some Q=>
    rw [D]at h;simp only[AQ]at h|-;obtain⟨n,es,C,B⟩:=h;refine⟨n,es,C,fun R=>⟨B R,.none,rfl,trivial,by simp,by simp,(fun s he=>by cases he),fun _=>⟨rfl,fun Z hd=>?_⟩,by simp,fun env2 w E u=>?_⟩⟩
    .simp only[rC]at hd;subst hd;exact P
    .simp only[AC.wp,w.vals (xs:=xs) (fun s h=>h),D,AQ];exact⟨w.new rfl _ rfl P,n,es,C,fun _=>u⟩
  .exact h.elim
 |ui n z x=>
  simp only[AC.wp]at h|-;split at h
  .rename_i d k j A
   try simp only[A]
   obtain ⟨P,C,B,I⟩:=h;refine⟨P,C,B,I,.none,rfl,trivial,by simp,by simp,(fun s he=>by cases he),fun _=>⟨rfl,fun Z hd=>?_⟩,by simp,fun env2 w E u=>?_⟩
   .simp only[rC]at hd;subst hd;exact P
   .simp only[AC.wp,w.val (x:=x) (fun s h=>h),A];exact⟨w.new rfl _ rfl P,C,B,u⟩
  .exact h.elim
 |sS _ _=>cases H
 |sR _ _=>cases H
 |sF _=>cases H
 |tO _=>cases H
 |s5 _ _=>cases H
 |up _ _=>cases H
 |ub _=>cases H
 |sW _ _ _=>cases H
 |ve _ _=>cases H
 |uL _ _ _ _=>cases H
 |ur=>cases H
 |uH _=>cases H
 |sV _ _=>cases H
 |vb _ _ _=>cases H
 |uK _ _ _ _=>cases H
 |rK _ _=>cases H
 |u9 _=>cases H
 |uR _=>cases H
 |tE _=>cases H
 |stx _ _ _=>cases H
 |uM _=>cases H
 |s9 g xs=>
  simp only[AC.wp]at h|-;cases D:Go.Sf.vals O xs with
  |none=>rw[D]at h;exact h.elim|some Q=>
   rw [D]at h;simp only[AQ]at h|-;obtain⟨r,C,B⟩:=h;refine⟨r,C,fun R=>Ak (B R) rfl rfl fun env2 w E u=>?_⟩;simp only[AC.wp,w.vals (xs:=xs) (fun s h=>h),D,AQ];exact⟨r,C,fun _=>u⟩
 |sP g xs=>
  simp only[AC.wp]at h|-;cases D:Go.Sf.vals O xs with
  |none=>rw[D]at h;exact h.elim|some Q=>
   rw [D]at h;simp only[AQ]at h|-;obtain⟨r,C,I,B⟩:=h;refine⟨r,C,I,fun R=>Ak (B R) rfl rfl fun env2 w E u=>?_⟩;simp only[AC.wp,w.vals (xs:=xs) (fun s h=>h),D,AQ];exact⟨r,C,I,fun _=>u⟩
 |uh x k n agg=>
  simp only[AC.wp]at h|-;split at h
  .rename_i cs A
   try simp only[A]
   obtain ⟨C,B⟩:=h;refine⟨C,?_⟩;cases agg with
   |true=>
    simp only[if_true]at B|-;refine Ak B rfl rfl fun env2 w E u=>?_;simp only[AC.wp,w.val (x:=x) (fun s h=>h),A,if_true];exact⟨C,u⟩
   |false=>
    simp only[Bool.false_eq_true,if_false]at B|-;cases D:EC (cs.drop k)with
    |none=>rw[D]at B;exact B.elim|some t=>
     rw [D]at B;simp only[AQ]at B|-;refine Ak B rfl rfl fun env2 w E u=>?_;simp only[AC.wp,w.val (x:=x) (fun s h=>h),A,Bool.false_eq_true,if_false,D,AQ];exact⟨C,u⟩
  .exact h.elim
end
end Go.Sf
