/- What an operation leans on: the slots that it reads, whether or not they own their lists. -/
import Derived.Test.YthhobbgaejimgaaGreatDoorSfCode
set_option linter.all false
namespace Go.Sf
theorem ZC{cs ds:List AJ}(h:ds.map AJ.key=cs.map AJ.key):ds.map (·.t)=cs.map (·.t):=by
 have:=congrArg (List.map Prod.fst) h;simpa[List.map_map,Function.comp_def,AJ.key]using this
def Tl(p:TV×Bool):TV:=match p with
 |(.xl n es,true)=>.list n es|p=>p.1
theorem SH{cs ds:List AJ}(h:ds.map AJ.key=cs.map AJ.key):ds.map AJ.tG=cs.map AJ.tG:=by
 have a:∀c:AJ,c.tG=Tl c.key:=by
  rintro ⟨_|_,t⟩<;>cases t<;>rfl
 have:=congrArg (List.map Tl) h;simpa[List.map_map,Function.comp_def,<-a]using this
def gZ(p:TV×Bool):Option (Nat×D2):=match p with
 |(.xl n es,true)=>some (n,es)|_=>none
theorem dF{cs ds:List AJ}(h:ds.map AJ.key=cs.map AJ.key)(k:Nat):(match ds[k]? with
  |some ⟨true,.xl n es⟩=>some (n,es)|_=>none)=(match cs[k]? with
  |some ⟨true,.xl n es⟩=>some (n,es)|_=>none):=by
 have a:∀o:Option AJ,(match o with
  |some ⟨true,.xl n es⟩=>some (n,es)|_=>none)=(o.map AJ.key).bind gZ:=by
  rintro (_|⟨_|_,t⟩)
  .rfl
  .cases t<;>rfl
  .cases t<;>rfl
 rw [a,a];have:=congrArg (fun l=>l[k]?) h;simp only[List.getElem?_map]at this;rw[this]
def gc(p:TV×Bool):Option D2:=match p with
 |(.xn es,true)=>some es|_=>none
theorem dG{cs ds:List AJ}(h:ds.map AJ.key=cs.map AJ.key)(k:Nat):(match ds[k]? with
  |some ⟨true,.xn es⟩=>some es|_=>none)=(match cs[k]? with
  |some ⟨true,.xn es⟩=>some es|_=>none):=by
 have a:∀o:Option AJ,(match o with
  |some ⟨true,.xn es⟩=>some es|_=>none)=(o.map AJ.key).bind gc:=by
  rintro (_|⟨_|_,t⟩)
  .rfl
  .cases t<;>rfl
  .cases t<;>rfl
 rw [a,a];have:=congrArg (fun l=>l[k]?) h;simp only[List.getElem?_map]at this;rw[this]
def EV.like(e e2:EV):Prop:=
 e2=e\/(∃n es,(e=.tv (.list n es)/\e2=.ow (.list n es))\/(e=.ow (.list n es)/\e2=.tv (.list n es)))\/∃cs ds,e=.bx cs/\e2=.bx ds/\ds.map AJ.key=cs.map AJ.key
theorem EV.like.rfl'(e:EV):e.like e:=.inl rfl
variable{e e2:EV}
theorem EV.like.symm(h:e.like e2):e2.like e:=by
 rcases h with rfl|⟨n,es,⟨rfl,rfl⟩|⟨rfl,rfl⟩⟩|⟨cs,ds,rfl,rfl,h⟩
 .exact .inl rfl
 .exact .inr (.inl ⟨n,es,.inr ⟨rfl,rfl⟩⟩)
 .exact .inr (.inl ⟨n,es,.inl ⟨rfl,rfl⟩⟩)
 .exact .inr (.inr ⟨ds,cs,rfl,rfl,h.symm⟩)
theorem EV.like.rz(h:e.like e2):e2.rz=e.rz:=by
 rcases h with rfl|⟨n,es,⟨rfl,rfl⟩|⟨rfl,rfl⟩⟩|⟨cs,ds,rfl,rfl,h⟩<;>rfl
variable{q:Nat}
theorem EV.like.t7(h:e.like e2)(a:e.rz=some q):e2=e:=by
 rcases h with rfl|⟨n,es,⟨rfl,rfl⟩|⟨rfl,rfl⟩⟩|⟨cs,ds,rfl,rfl,h⟩
 .rfl
 .cases a
 .cases a
 .cases a
theorem EV.like.xo(h:e.like e2){n:Nat}{es:D2}(he:e=.xo n es):e2=.xo n es:=by
 subst he;rcases h with rfl|⟨n,es,⟨h,_⟩|⟨h,_⟩⟩|⟨cs,ds,h,_⟩
 .rfl
 .cases h
 .cases h
 .cases h
theorem EV.like.val(h:e.like e2):e2.val=e.val:=by
 rcases h with rfl|⟨n,es,⟨rfl,rfl⟩|⟨rfl,rfl⟩⟩|⟨cs,ds,rfl,rfl,h⟩<;>rfl
theorem EV.like.pt(h:e.like e2){row:D2}(he:e=.tv (.pt row)):e2=.tv (.pt row):=by
 subst he;rcases h with rfl|⟨n,es,⟨h,rfl⟩|⟨h,rfl⟩⟩|⟨cs,ds,h,rfl,a⟩
 .rfl
 .simp at h
 .cases h
 .cases h
theorem EV.like.bp(h:e.like e2){q a:Nat}(he:e=.bp q a):e2=.bp q a:=by
 subst he;rcases h with rfl|⟨n,es,⟨h,rfl⟩|⟨h,rfl⟩⟩|⟨cs,ds,h,rfl,b⟩
 .rfl
 .cases h
 .cases h
 .cases h
theorem EV.like.tp(h:e.like e2){a:D2}(he:e=.tp a):e2=.tp a:=by
 subst he;rcases h with rfl|⟨n,es,⟨h,rfl⟩|⟨h,rfl⟩⟩|⟨cs,ds,h,rfl,b⟩
 .rfl
 .cases h
 .cases h
 .cases h
theorem EV.like.bx(h:e.like e2){cs:List AJ}(he:e=.bx cs):∃ds,e2=.bx ds/\ds.map AJ.key=cs.map AJ.key:=by
 subst he;rcases h with rfl|⟨n,es,⟨h,rfl⟩|⟨h,rfl⟩⟩|⟨cs',ds,h,rfl,a⟩
 .exact⟨cs,rfl,rfl⟩
 .cases h
 .cases h
 .simp only[EV.bx.injEq]at h;subst h;exact⟨ds,rfl,a⟩
def AD.sl:AD->Fq
 |.s n=>[n]|.c _=>[]
def QB:Option AD->Fq
 |some x=>x.sl|none=>[]
def EE:List AD->Fq
 |[]=>[]|x::xs=>x.sl++EE xs
def Oc:List (Nat×Nat×AD)->Fq
 |[]=>[]|x::xs=>x.2.2.sl++Oc xs
def AC.slots:AC->Fq
 |.mv x=>x.sl|.tk s=>[s]|.tE _=>[]|.r9 x _=>x.sl|.bad s _=>[s]|.tH x i _=>x.sl++i.sl|.aad x i _ _=>x.sl++i.sl|.ld x=>x.sl|.tD x _=>x.sl|.uQ s _=>[s]|.ldt x=>x.sl|.bin _ _ x y=>x.sl++y.sl|.not x=>x.sl|.neg x=>x.sl|.pick c a b=>c.sl++(a.sl++b.sl)|.len x=>x.sl|.tS x=>x.sl|.sM _ x lo hi=>x.sl++(QB lo++QB hi)|.rB x lo hi=>x.sl++(QB lo++QB hi)|.tn _ ps=>Oc ps|.uc _ ps=>EE ps|.app _ x y=>x.sl++y.sl|.call _ xs=>EE xs|.sj x xs=>x.sl++EE xs|.r6 _ xs=>EE xs|.ext x _=>x.sl|.uj _ x=>x.sl|.rx x i=>x.sl++i.sl|.tz x=>x.sl|.tI x=>x.sl|.mm _ x y=>x.sl++y.sl|.ud _=>[]|.st _ x v=>x.sl++v.sl|.tC _ s v=>s::v.sl|.uu s=>[s]|.tN x _ _ _=>x.sl|.uD s=>[s]|.tQ x=>x.sl|.uE x i _=>x.sl++i.sl|.xfa x _=>x.sl|.uM x=>x.sl|.tF x v _=>x.sl++v.sl|.rel s=>[s]|.tf _=>[]|.tc _=>[]|.tW s=>[s]|.sW _ s y=>s::y.sl|.sf _ xs=>EE xs|.tR _ _ x=>x.sl|.sw _ x=>x.sl|.sr _ x=>x.sl|.r8 gs=>gs.flatMap GC.sl|.stx _ s q=>[s,q]|.sI _ xs=>EE xs|.sn _ xs=>EE xs|.um x=>x.sl|.uN x _=>x.sl|.uL x _=>x.sl|.lac x=>x.sl|.uT x=>x.sl|.ur x q=>x.sl++[q]|.cut _ s hi=>s::hi.sl|.rK _ xs=>EE xs|.ta _ x=>x.sl|.s9 _ s _ x=>s::x.sl|.sG _ xs=>EE xs|.rJ _ xs _=>EE xs|.tA q=>[q]|.sE s q=>[s,q]|.ux x=>x.sl|.tY x i=>x.sl++i.sl|.uw x=>x.sl|.tX x v=>x.sl++v.sl|.tO q=>[q]|.sx _ xs _=>EE xs|.uO s _=>[s]|.uq _ _ x v=>x.sl++v.sl|.tZ=>[]|.uo s=>[s]|.sA _ xs=>EE xs|.uK s m x=>s::(m.sl++x.sl)|.ul s m x v=>s::(m.sl++(x.sl++v.sl))|.rm s m=>s::m.sl|.uA s=>[s]|.ut s=>[s]
def AC.tq:AC->Fq
 |.tk s=>[s]|.app _ x _=>x.sl|_=>[]
def AC.mov:AC->Bool
 |.st ..=>false|.tC ..=>false|.uu _=>false|.tF ..=>false|.rel _=>false|.tf _=>false|.tc _=>false|.tW _=>false|.sW ..=>false|.sw ..=>false|.sr ..=>false|.r8 _=>false|.stx ..=>false|.um _=>false|.uT _=>false|.ur ..=>false|.cut ..=>false|.s9 ..=>false|.rJ ..=>false|.tA _=>false|.sE ..=>false|.tX ..=>false|.tO _=>false|.sx ..=>false|.uO ..=>false|.uq ..=>false|.tZ=>false|.uo _=>false|.sA ..=>false|.uK ..=>false|.ul ..=>false|.rm ..=>false|.uA _=>false|.ut _=>false|_=>true
def AC.rg:AC->Bool
 |.ud _=>true|.tI _=>true|.ta ..=>true|.sf ..=>true|.tR ..=>true|_=>false
def AC.s5:AC->Fq
 |.bad s _=>[s]|.uD s=>[s]|_=>[]
inductive Av where
 |none
 |slot (s:Nat) (t:TV)
 |cell (s off:Nat) (t:TV)
def Av.app:Av->AA->AA
 |.none,O=>O|.slot s t,O=>(s,.tv t)::O|.cell s off t,O=>match O.get s with
  |.bx cs=>(s,.bx (cs.set off ⟨false,t⟩))::O|_=>O
def Av.ok:Av->AA->Prop
 |.none,_=>True|.slot s t,O=>O.get s=.ow t|.cell s off t,O=>∃cs,O.get s=.bx cs/\cs[off]?=some ⟨true,t⟩
structure C1(op:AC)(f:Av)(dst:Option Nat)(O env2:AA):Prop where
 sl:∀s∈op.slots,(O.get s).like (env2.get s)
 bp:∀s∈op.slots,∀q,(O.get s).rz=some q->(O.get q).like (env2.get q)
 tq:∀s∈op.tq,(∀cs,O.get s≠.bx cs)->env2.get s=O.get s
 eff:f.ok env2
 new:op.rg=true->∀d,dst=some d->O.gt d=true->env2.gt d=true
section
variable{op:AC}{f:Av}{dst:Option Nat}{O env2:AA}
variable{x:AD}
theorem C1.val(h:C1 op f dst O env2)(a:∀s∈x.sl,s∈op.slots):x.val env2=x.val O:=by
 cases x with
 |c t=>rfl|s n=>exact(h.sl n (a n (by simp[AD.sl]))).val
theorem C1.ev(h:C1 op f dst O env2)(a:∀s∈x.sl,s∈op.slots):(x.ev O).like (x.ev env2):=by
 cases x with
 |c t=>exact .inl rfl|s n=>exact h.sl n (a n (by simp[AD.sl]))
theorem C1.vals(h:C1 op f dst O env2):∀{xs:List AD},(∀s∈EE xs,s∈op.slots)->Go.Sf.vals env2 xs=Go.Sf.vals O xs
 |[],_=>rfl|x::xs,b=>by
  simp only[EE,List.mem_append]at b;simp only[Go.Sf.vals,h.val (x:=x) (fun s a=>b s (.inl a)),h.vals (xs:=xs) (fun s a=>b s (.inr a))]
theorem C1.parts(h:C1 op f dst O env2):∀{xs:List (Nat×Nat×AD)},(∀s∈Oc xs,s∈op.slots)->ES env2 xs=ES O xs
 |[],_=>rfl|(i,n,x)::xs,b=>by
  simp only[Oc,List.mem_append]at b;simp only[ES,h.val (x:=x) (fun s a=>b s (.inl a)),h.parts (xs:=xs) (fun s a=>b s (.inr a))]
theorem C1.bnd(h:C1 op f dst O env2){x:Option AD}{k:Int}(a:∀s∈QB x,s∈op.slots):Df env2 k x=Df O k x:=by
 cases x with
 |none=>rfl|some x=>exact h.val a
theorem C1.addr(h:C1 op f dst O env2)(j:∀s∈x.sl,s∈op.slots):At env2 (x.ev env2)=At O (x.ev O):=by
 cases x with
 |c t=>cases t<;>rfl
 |s n=>
  have g:=j n (by simp[AD.sl]);have a:=h.sl n g;have i:=h.bp n g;simp only[AD.ev];generalize O.get n=e at a i;generalize env2.get n=e2 at a;rcases a with rfl|⟨n,es,⟨rfl,rfl⟩|⟨rfl,rfl⟩⟩|⟨cs,ds,rfl,rfl,d⟩
  .cases e2 with
   |bp q k=>
    have b:=i q rfl;simp only[At];generalize O.get q=e1 at b;generalize env2.get q=e2 at b;rcases b with rfl|⟨n,es,⟨rfl,rfl⟩|⟨rfl,rfl⟩⟩|⟨cs,ds,rfl,rfl,d⟩
    .rfl
    .rfl
    .rfl
    .simp only[List.map_drop,ZC d]
   |tv t=>cases t<;>rfl
   |_=>rfl
  .rfl
  .rfl
  .simp only[At,ZC d]
theorem C1.place(h:C1 op f dst O env2)(d:∀s∈x.sl,s∈op.slots):x.place env2=x.place O:=by
 cases x with
 |c t=>rfl|s n=>
  have g:=h.sl n (d n (by simp[AD.sl]));simp only[AD.place];rcases g with a|⟨n,es,⟨a,b⟩|⟨a,b⟩⟩|⟨cs,ds,a,b,_⟩
  .rw[a]
  .rw[a,b]
  .rw[a,b]
  .rw[a,b]
variable{q:Nat}
theorem EV.like.rf{O env2:AA}(h:(O.get q).like (env2.get q))(i:Option Nat):env2.rf q i=O.rf q i:=by
 rcases h with a|⟨n,es,⟨a,b⟩|⟨a,b⟩⟩|⟨cs,ds,a,b,c⟩
 .exact AA.rU a
 .cases i<;>simp only[AA.rf,a,b]
 .cases i<;>simp only[AA.rf,a,b]
 .cases i with
  |none=>simp only[AA.rf,a,b]|some k=>simp only[AA.rf,a,b];exact dF c k
theorem EV.like.nat{O env2:AA}(h:(O.get q).like (env2.get q))(i:Nat):env2.nat q i=O.nat q i:=by
 rcases h with a|⟨n,es,⟨a,b⟩|⟨a,b⟩⟩|⟨cs,ds,a,b,c⟩
 .exact AA.sa a
 .simp only[AA.nat,a,b]
 .simp only[AA.nat,a,b]
 .simp only[AA.nat,a,b];exact dG c i
variable{e e2:EV}
theorem EV.like.nh(h:e.like e2){q i:Nat}{k:NK}(he:e=.nh q i k):e2=.nh q i k:=by
 subst he;exact h.t7 rfl
theorem C1.rq(h:C1 op f dst O env2)(g:∀s∈x.sl,s∈op.slots):x.rq env2=x.rq O:=by
 cases x with
 |c t=>rfl|s n=>
  have d:=g n (by simp[AD.sl]);have j:=h.sl n d;have k:=h.bp n d;simp only[AD.rq];rcases j with a|⟨m,es,⟨a,b⟩|⟨a,b⟩⟩|⟨cs,ds,a,b,_⟩
  .rw[a];cases he:O.get n with
   |la q i=>simp only[(k q (by rw[he];rfl)).rf i]|_=>rfl
  .rw[a,b]
  .rw[a,b]
  .rw[a,b]
theorem C1.tV(h:C1 op f dst O env2)(i:∀s∈x.sl,s∈op.slots):x.tV env2=x.tV O:=by
 unfold AD.tV;rw[h.rq i];cases x.rq O with
 |some p=>rfl|none=>
  cases x with
  |c t=>cases t<;>rfl
  |s n=>
   have j:=i n (by simp[AD.sl]);have k:=h.sl n j;have o:=h.bp n j;simp only[AD.ev];rcases k with a|⟨m,es,⟨a,d⟩|⟨a,d⟩⟩|⟨cs,ds,a,d,u⟩
   .rw[a];cases he:O.get n with
    |bp q w=>
     have r:=o q (by rw[he];rfl);simp only;rcases r with b|⟨m,es,⟨b,g⟩|⟨b,g⟩⟩|⟨cs,ds,b,g,v⟩
     .rw[b]
     .rw[b,g]
     .rw[b,g]
     .rw[b,g];have:=SH v;simp only[List.map_drop,this]
    |_=>rfl
   .rw[a,d];rfl
   .rw[a,d];rfl
   .rw[a,d];simp only[SH u]
theorem C1.rR(h:C1 op f dst O env2):∀{xs:List AD},(∀s∈EE xs,s∈op.slots)->Go.Sf.rR env2 xs=Go.Sf.rR O xs
 |[],_=>rfl|x::xs,b=>by
  simp only[EE,List.mem_append]at b;simp only[Go.Sf.rR,h.tV (x:=x) (fun s a=>b s (.inl a)),h.rR (xs:=xs) (fun s a=>b s (.inr a))]
end
structure Vd(S:FuncId->D2->Ah->Prop)(op:AC)(dst:Option Nat)(O:AA)(e:EV)(env':AA)(f:Av):Prop where
 env':env'=f.app O
 ok:f.ok O
 slot:∀s t,f=.slot s t->s∈op.tq
 cell:∀s off t,f=.cell s off t->(s∈op.slots\/∃x∈op.slots,(O.get x).rz=some s)
 rz:∀s,e.rz=some s->(s∈op.s5\/∃x∈op.slots,(O.get x).rz=some s)
 new:op.rg=true->e.rz=none/\∀d,dst=some d->O.gt d=true
 xl:∀s off t,f=.cell s off t->t.sz=false
 again:∀env2,C1 op f dst O env2->∀K2:EV->AA->Prop,K2 e (f.app env2)->op.wp S env2 dst K2
section
variable{S:FuncId->D2->Ah->Prop}{op:AC}{dst:Option Nat}{O:AA}{K:EV->AA->Prop}
variable{e:EV}
theorem An(b:K e O)(c:op.rg=false)(d:e.rz=none)(h:∀env2,C1 op .none dst O env2->∀a:EV->AA->Prop,a e env2->op.wp S env2 dst a):K e O/\∃f,Vd S op dst O e O f:=
 ⟨b,.none,rfl,trivial,by simp,by simp,(fun s he=>by rw[d]at he;cases he),by simp[c],by simp,h⟩
variable{α:Type}{l m:List α}
theorem Cy{x:α}(h:x∈m):x∈l++m:=List.mem_append_right _ h
theorem CZ{x:α}(h:x∈l):x∈l++m:=List.mem_append_left _ h
theorem frame(H:op.mov=true)(h:op.wp S O dst K):op.wp S O dst fun e env'=>K e env'/\∃f,Vd S op dst O e env' f:=by
 cases op with
 |mv x=>
  simp only[AC.wp]at h|-;have key:∀t,(x.ev O).val=some t->∀env2,C1 (.mv x) .none dst O env2->∀E:EV->AA->Prop,E (.tv t) env2->(AC.mv x).wp S env2 dst E:=by
   intro t ht env2 w E u;have hv:=w.val (x:=x) (fun s h=>h);simp only[AD.val]at hv;rw[ht]at hv;simp only[AC.wp];cases he:x.ev env2<;>rw[he]at hv<;>simp[EV.val]at hv<;>subst hv<;>exact u
  split at h
  .rename_i t A
   try simp only[A]
   exact An h rfl rfl (key t (by rw[A];rfl))
  .rename_i t A
   try simp only[A]
   exact An h rfl rfl (key t (by rw[A];rfl))
  .rename_i Q A
   try simp only[A]
   refine An h rfl rfl fun env2 w E u=>?_;cases x with
   |c t=>simp[AD.ev]at A|s n=>
    simp only[AD.ev]at A;have B:env2.get n=.tp Q:=(w.sl n (by simp[AC.slots,AD.sl])).tp A;simp only[AC.wp,AD.ev,B];exact u
  .exact h.elim
 |tk s=>
  simp only[AC.wp]at h|-;split at h
  .rename_i t M
   try simp only[M]
   refine ⟨h,.slot s t,rfl,M,?_,by simp,(fun s he=>by cases he),by simp[AC.rg],by simp,fun env2 w E u=>?_⟩
   .intro s' t' he;simp only[Av.slot.injEq]at he;simp[AC.tq,he.1]
   .have:=w.eff;simp only[Av.ok]at this;simp only[AC.wp,this];exact u
  .rename_i t M
   try simp only[M]
   refine An h rfl rfl fun env2 w E u=>?_;have:=w.tq s (by simp[AC.tq]) (by simp[M]);simp only[AC.wp,this,M];exact u
  .exact h.elim
 |tE n=>exact An h rfl rfl fun env2 w E u=>u|r9 x k=>
  simp only[AC.wp]at h|-;split at h
  .rename_i row A
   try simp only[A]
   refine An h rfl rfl fun env2 w E u=>?_;have:=(w.ev (x:=x) (fun s h=>h)).pt A;simp only[AC.wp,this];exact u
  .rename_i s F A;split at h
   .rename_i cs M
    try simp only[A,M]
    have G:∃n∈x.sl,O.get n=.bp s F:=by
     cases x with
     |c t=>simp[AD.ev]at A|s n=>exact⟨n,by simp[AD.sl],A⟩
    obtain ⟨n,N,L⟩:=G;refine⟨h,.none,rfl,trivial,by simp,by simp,?_,by simp[AC.rg],by simp,fun env2 w E u=>?_⟩
    .intro s' he;simp only[EV.rz,rb]at he;subst he;exact .inr ⟨n,N,by rw[L];rfl⟩
    .have C:=(w.ev (x:=x) (fun s h=>h)).bp A;have B:=w.bp n N s (by rw[L];rfl);rw[M]at B;obtain⟨ds,I,_⟩:=B.bx rfl;simp only[AC.wp,C,I];exact u
   .exact h.elim
  .exact h.elim
 |bad s k=>
  simp only[AC.wp]at h|-;split at h
  .rename_i cs M
   try simp only[M]
   refine ⟨h,.none,rfl,trivial,by simp,by simp,?_,by simp[AC.rg],by simp,fun env2 w E u=>?_⟩
   .intro s' he;simp only[EV.rz,rb]at he;exact .inl (by simp[AC.s5,he])
   .have B:=w.sl s (by simp[AC.slots]);rw[M]at B;obtain⟨ds,I,_⟩:=B.bx rfl;simp only[AC.wp,I];exact u
  .rename_i row M
   try simp only[M]
   refine An h rfl rfl fun env2 w E u=>?_;have:=(w.sl s (by simp[AC.slots])).pt M;simp only[AC.wp,this];exact u
  .exact h.elim
 |tH x i n=>
  simp only[AC.wp]at h|-;split at h
  .rename_i m es k j A hi
   try simp only[A,hi]
   obtain ⟨C,B,e,I,T⟩:=h;refine⟨C,B,e,I,An T rfl rfl fun env2 w E u=>?_⟩;simp only[AC.wp,w.val (x:=x) (fun s h=>CZ h),w.val (x:=i) (fun s h=>Cy h),A,hi];exact⟨C,B,e,I,u⟩
  .exact h.elim
 |aad x i n k=>
  simp only[AC.wp]at h|-;split at h
  .rename_i row kk j A hi
   try simp only[A,hi]
   obtain ⟨C,B,I,T⟩:=h;refine⟨C,B,I,An T rfl rfl fun env2 w E u=>?_⟩;have:=(w.ev (x:=x) (fun s h=>CZ h)).pt A;simp only[AC.wp,this,w.val (x:=i) (fun s h=>Cy h),hi];exact⟨C,B,I,u⟩
  .exact h.elim
 |ld x=>
  simp only[AC.wp]at h|-;cases D:At O (x.ev O)with
  |none=>rw[D]at h;exact h.elim|some cs=>
   rw [D]at h;simp only[AP]at h|-;cases hf:ED cs with
   |none=>rw[hf]at h;exact h.elim|some t=>
    rw [hf]at h;refine⟨h.1,An h.2 rfl rfl fun env2 w E u=>?_⟩;simp only[AC.wp,w.addr (x:=x) (fun s h=>h),D,AP,hf];exact⟨h.1,u⟩
 |tD x n=>
  simp only[AC.wp]at h|-;cases D:At O (x.ev O)with
  |none=>rw[D]at h;exact h.elim|some cs=>
   rw [D]at h;simp only[AP]at h|-;refine⟨h.1,An h.2 rfl rfl fun env2 w E u=>?_⟩;simp only[AC.wp,w.addr (x:=x) (fun s h=>h),D,AP];exact⟨h.1,u⟩
 |uQ s n=>
  simp only[AC.wp]at h|-;split at h
  .rename_i cs D
   try simp only[D]
   refine ⟨h.1,An h.2 rfl rfl fun env2 w E u=>?_⟩;have C:=w.addr (x:=.s s) (fun s h=>h);obtain⟨ds,I,_⟩:=(w.sl s (by simp[AC.slots])).bx D;simp only[AD.ev,D,I,At,rb]at C;simp only[AC.wp,I,C];exact⟨h.1,u⟩
  .exact h.elim
 |ldt x=>
  simp only[AC.wp]at h|-;split at h
  .rename_i s F U;split at h
   .rename_i cs M;split at h
    .rename_i n es D
     try simp only[U,M,D]
     refine ⟨h,.cell s F (.list n es),by simp[Av.app,M],⟨cs,M,D⟩,by simp,?_,(fun s he=>by cases he),by simp[AC.rg],(fun s F t he=>by cases he;rfl),fun env2 w E u=>?_⟩
     .intro s' off' t' he;simp only[Av.cell.injEq]at he;obtain⟨rfl,rfl,rfl⟩:=he;cases x with
      |c t=>simp[AD.place]at U|s n=>
       simp only[AD.place]at U;split at U
       .rename_i q o J;simp only[rb,Prod.mk.injEq]at U;exact .inr ⟨n,by simp[AC.slots,AD.sl],by rw[J,U.1];rfl⟩
       .simp only[rb,Prod.mk.injEq]at U;exact .inl (by simp[AC.slots,AD.sl,U.1])
       .cases U
     .obtain⟨ds,C,B⟩:=w.eff;simp only[Av.app,C]at u;simp only[AC.wp,w.place (x:=x) (fun s h=>h),U,C,B];exact u
    .exact h.elim
   .exact h.elim
  .exact h.elim
 |bin k op x y=>
  simp only[AC.wp]at h|-;split at h
  .rename_i a b A V
   try simp only[A,V]
   cases L:C4 k op a b with
   |none=>rw[L]at h;exact h.elim|some t=>
    rw [L]at h;refine An h rfl rfl fun env2 w E u=>?_;simp only[AC.wp,w.val (x:=x) (fun s h=>CZ h),w.val (x:=y) (fun s h=>Cy h),A,V,L,AP];exact u
  .exact h.elim
 |not x=>
  simp only[AC.wp]at h|-;split at h
  .rename_i b A
   try simp only[A]
   refine An h rfl rfl fun env2 w E u=>?_;simp only[AC.wp,w.val (x:=x) (fun s h=>h),A];exact u
  .exact h.elim
 |neg x=>
  simp only[AC.wp]at h|-;split at h
  .rename_i k n A
   try simp only[A]
   refine An h rfl rfl fun env2 w E u=>?_;simp only[AC.wp,w.val (x:=x) (fun s h=>h),A];exact u
  .exact h.elim
 |pick c a b=>
  simp only[AC.wp]at h|-;split at h
  .rename_i q D
   try simp only[D]
   have key:∀t,((if q=true then a else b).ev O).val=some t->∀env2,C1 (.pick c a b) .none dst O env2->∀E:EV->AA->Prop,E (.tv t) env2->(AC.pick c a b).wp S env2 dst E:=by
    intro t ht env2 w E u;have hv:=w.val (x:=if q=true then a else b) (fun s h=>by
     cases q
     .exact Cy (Cy h)
     .exact Cy (CZ h))
    simp only[AD.val]at hv;rw[ht]at hv;simp only[AC.wp,w.val (x:=c) (fun s h=>CZ h),D];cases he:(if q=true then a else b).ev env2<;>rw[he]at hv<;>simp[EV.val]at hv<;>subst hv<;>exact u
   split at h
   .rename_i t A
    try simp only[A]
    exact An h rfl rfl (key t (by rw[A];rfl))
   .rename_i t A
    try simp only[A]
    exact An h rfl rfl (key t (by rw[A];rfl))
   .exact h.elim
  .exact h.elim
 |len x=>
  simp only[AC.wp]at h|-;split at h
  .rename_i n es A
   try simp only[A]
   refine An h rfl rfl fun env2 w E u=>?_;simp only[AC.wp,w.val (x:=x) (fun s h=>h),A];exact u
  .exact h.elim
 |uN x k=>
  simp only[AC.wp]at h|-;split at h
  .rename_i row A
   try simp only[A]
   refine An h rfl rfl fun env2 w E u=>?_;simp only[AC.wp,w.val (x:=x) (fun s h=>h),A];exact u
  .exact h.elim
 |uL x n=>
  simp only[AC.wp]at h|-;split at h
  .rename_i row A
   try simp only[A]
   refine ⟨h.1,An h.2 rfl rfl fun env2 w E u=>?_⟩;simp only[AC.wp,w.val (x:=x) (fun s h=>h),A];exact⟨h.1,u⟩
  .exact h.elim
 |tS x=>
  simp only[AC.wp]at h|-;split at h
  .rename_i s A
   try simp only[A]
   refine An h rfl rfl fun env2 w E u=>?_;simp only[AC.wp,w.val (x:=x) (fun s h=>h),A];exact u
  .exact h.elim
 |sM n x lo hi=>
  simp only[AC.wp]at h|-;split at h
  .rename_i m es A
   try simp only[A]
   split at h
   .rename_i k1 l k2 hh C B
    try simp only[C,B]
    refine ⟨h.1,h.2.1,An h.2.2 rfl rfl fun env2 w E u=>?_⟩;simp only[AC.wp,w.val (x:=x) (fun s h=>CZ h),A,w.bnd (x:=lo) (fun s h=>Cy (CZ h)),w.bnd (x:=hi) (fun s h=>Cy (Cy h)),C,B];exact⟨h.1,h.2.1,u⟩
   .exact h.elim
  .exact h.elim
 |rB x lo hi=>
  simp only[AC.wp]at h|-;split at h
  .rename_i str A
   try simp only[A]
   split at h
   .rename_i k1 l k2 hh C B
    try simp only[C,B]
    refine ⟨h.1,h.2.1,h.2.2.1,An h.2.2.2 rfl rfl fun env2 w E u=>?_⟩;simp only[AC.wp,w.val (x:=x) (fun s h=>CZ h),A,w.bnd (x:=lo) (fun s h=>Cy (CZ h)),w.bnd (x:=hi) (fun s h=>Cy (Cy h)),C,B];exact⟨h.1,h.2.1,h.2.2.1,u⟩
   .exact h.elim
  .exact h.elim
 |tn zero Y=>
  simp only[AC.wp]at h|-;cases D:ES O Y with
  |none=>rw[D]at h;exact h.elim|some Q=>
   rw [D]at h;simp only[AP]at h|-;cases hf:DN zero Q with
   |none=>rw[hf]at h;exact h.elim|some cs=>
    rw [hf]at h;refine An h rfl rfl fun env2 w E u=>?_;simp only[AC.wp,w.parts (xs:=Y) (fun s h=>h),D,AP,hf];exact u
 |uc n Y=>
  simp only[AC.wp]at h|-;cases D:Go.Sf.vals O Y with
  |none=>rw[D]at h;exact h.elim|some Q=>
   rw [D]at h;simp only[AP]at h|-;refine⟨h.1,An h.2 rfl rfl fun env2 w E u=>?_⟩;simp only[AC.wp,w.vals (xs:=Y) (fun s h=>h),D,AP];exact⟨h.1,u⟩
 |app n x y=>
  simp only[AC.wp]at h|-;split at h
  .rename_i m es m' fs A V
   try simp only[A,V]
   obtain ⟨C,B,I,T⟩:=h;cases x with
   |c t=>simp[AD.ev]at A|s s=>
    simp only[AD.ev]at A;subst C;refine⟨rfl,B,I,T,.slot s (.list m es),rfl,A,?_,by simp,(fun s he=>by cases he),by simp[AC.rg],by simp,fun env2 w E u=>?_⟩
    .intro s' t' he;simp only[Av.slot.injEq]at he;simp[AC.tq,AD.sl,he.1]
    .have:=w.eff;simp only[Av.ok]at this;simp only[AC.wp,AD.ev,this,w.val (x:=y) (fun s h=>Cy h),V];exact⟨trivial,B,I,u⟩
  .exact h.elim
 |call g xs=>
  simp only[AC.wp]at h|-;cases D:Go.Sf.vals O xs with
  |none=>rw[D]at h;exact h.elim|some Q=>
   rw [D]at h;simp only[AP]at h|-;obtain⟨r,C,B⟩:=h;refine⟨r,C,fun R=>An (B R) rfl (by cases r<;>rfl) fun env2 w E u=>?_⟩;simp only[AC.wp,w.vals (xs:=xs) (fun s h=>h),D,AP];exact⟨r,C,fun _=>u⟩
 |sj x xs=>
  simp only[AC.wp]at h|-;split at h
  .rename_i g caps Q A D
   try simp only[A,D]
   obtain ⟨r,C,B⟩:=h;refine⟨r,C,fun R=>An (B R) rfl (by cases r<;>rfl) fun env2 w E u=>?_⟩;simp only[AC.wp,w.val (x:=x) (fun s h=>CZ h),w.vals (xs:=xs) (fun s h=>Cy h),A,D];exact⟨r,C,fun _=>u⟩
  .exact h.elim
 |r6 g xs=>
  simp only[AC.wp]at h|-;cases D:Go.Sf.vals O xs with
  |none=>rw[D]at h;exact h.elim|some Q=>
   rw [D]at h;simp only[AP]at h|-;refine An h rfl rfl fun env2 w E u=>?_;simp only[AC.wp,w.vals (xs:=xs) (fun s h=>h),D,AP];exact u
 |ext x i=>
  simp only[AC.wp]at h|-;split at h
  .rename_i Q A
   try simp only[A]
   cases hf:Q[i]? with
   |none=>rw[hf]at h;exact h.elim|some t=>
    rw [hf]at h;refine An h rfl rfl fun env2 w E u=>?_;have:=(w.ev (x:=x) (fun s h=>h)).tp A;simp only[AC.wp,this,hf,AP];exact u
  .exact h.elim
 |uj k x=>
  simp only[AC.wp]at h|-;split at h
  .rename_i k n A
   try simp only[A]
   refine An h rfl rfl fun env2 w E u=>?_;simp only[AC.wp,w.val (x:=x) (fun s h=>h),A];exact u
  .exact h.elim
 |rx x i=>
  simp only[AC.wp]at h|-;split at h
  .rename_i str k j A hi
   try simp only[A,hi]
   obtain ⟨C,b,B,I⟩:=h;refine⟨C,b,B,An I rfl rfl fun env2 w E u=>?_⟩;simp only[AC.wp,w.val (x:=x) (fun s h=>CZ h),w.val (x:=i) (fun s h=>Cy h),A,hi];exact⟨C,b,B,u⟩
  .exact h.elim
 |tz x=>
  simp only[AC.wp]at h|-;split at h
  .rename_i t A
   try simp only[A]
   refine An h rfl rfl fun env2 w E u=>?_;simp only[AC.wp,w.val (x:=x) (fun s h=>h),A];exact u
  .exact h.elim
 |tI x=>
  simp only[AC.wp]at h|-;split at h
  .rename_i t d A
   try simp only[A]
   refine ⟨h.1,h.2,.none,rfl,trivial,by simp,by simp,(fun s he=>by cases he),fun _=>⟨rfl,fun Z hd=>?_⟩,by simp,fun env2 w E u=>?_⟩
   .simp only[rb]at hd;subst hd;exact h.1
   .simp only[AC.wp,w.val (x:=x) (fun s h=>h),A];exact⟨w.new rfl _ rfl h.1,u⟩
  .exact h.elim
 |mm mx x y=>
  simp only[AC.wp]at h|-;split at h
  .rename_i k a k' b A V
   try simp only[A,V]
   refine ⟨h.1,An h.2 rfl rfl fun env2 w E u=>?_⟩;simp only[AC.wp,w.val (x:=x) (fun s h=>CZ h),w.val (x:=y) (fun s h=>Cy h),A,V];exact⟨h.1,u⟩
  .exact h.elim
 |ud cs=>
  simp only[AC.wp]at h|-;split at h
  .rename_i d;refine⟨h.1,h.2,.none,rfl,trivial,by simp,by simp,(fun s he=>by cases he),fun _=>⟨rfl,fun Z hd=>?_⟩,by simp,fun env2 w E u=>?_⟩
   .simp only[rb]at hd;subst hd;exact h.1
   .simp only[AC.wp];exact⟨w.new rfl _ rfl h.1,u⟩
  .exact h.elim
 |st n x v=>cases H
 |tC n s v=>cases H
 |uu s=>cases H
 |uD s=>
  simp only[AC.wp]at h|-;split at h
  .rename_i n es M
   try simp only[M]
   refine ⟨h,.none,rfl,trivial,by simp,by simp,?_,by simp[AC.rg],by simp,fun env2 w E u=>?_⟩
   .intro s' he;simp only[EV.rz,rb]at he;exact .inl (by simp[AC.s5,he])
   .have B:=(w.sl s (by simp[AC.slots])).xo M;simp only[AC.wp,B];exact u
  .exact h.elim
 |tQ x=>
  simp only[AC.wp]at h|-;cases A:x.rq O with
  |none=>rw[A]at h;exact h.elim|some p=>
   rw [A]at h;simp only[AP]at h|-;refine An h rfl rfl fun env2 w E u=>?_;simp only[AC.wp,w.rq (x:=x) (fun s h=>h),A,AP];exact u
 |ux x=>
  simp only[AC.wp]at h|-;split at h
  .rename_i s F A;cases J:O.nat s F with
   |none=>rw[J]at h;exact h.elim|some es=>
    rw [J]at h;simp only[AP]at h
    try simp only[A,J]
    have G:∃n∈x.sl,O.get n=.bp s F:=by
     cases x with
     |c t=>simp[AD.ev]at A|s n=>exact⟨n,by simp[AD.sl],A⟩
    obtain ⟨n,N,L⟩:=G;refine⟨h,.none,rfl,trivial,by simp,by simp,?_,by simp[AC.rg],by simp,fun env2 w E u=>?_⟩
    .intro s' he;simp only[EV.rz,rb]at he;subst he;exact .inr ⟨n,N,by rw[L];rfl⟩
    .have C:=(w.ev (x:=x) (fun s h=>h)).bp A;have B:=(w.bp n N s (by rw[L];rfl)).nat F;rw[J]at B;simp only[AC.wp,C,B,AP];exact u
  .exact h.elim
 |uw x=>
  simp only[AC.wp]at h|-;split at h
  .rename_i s F r A;cases J:O.nat s F with
   |none=>rw[J]at h;exact h.elim|some es=>
    rw [J]at h;simp only[AP]at h;obtain⟨X,h⟩:=h
    try simp only[A,J]
    have G:∃n∈x.sl,O.get n=.nh s F (.el r):=by
     cases x with
     |c t=>simp[AD.ev]at A|s n=>exact⟨n,by simp[AD.sl],A⟩
    obtain ⟨n,N,L⟩:=G;refine⟨X,h,.none,rfl,trivial,by simp,by simp,?_,by simp[AC.rg],by simp,fun env2 w E u=>?_⟩
    .intro s' he;simp only[EV.rz,rb]at he;subst he;exact .inr ⟨n,N,by rw[L];rfl⟩
    .have C:=(w.ev (x:=x) (fun s h=>h)).nh A;have B:=(w.bp n N s (by rw[L];rfl)).nat F;rw[J]at B;simp only[AC.wp,C,B,AP];exact⟨X,u⟩
  .exact h.elim
 |tY x i=>
  simp only[AC.wp]at h|-;split at h
  .rename_i s F k j A W;cases J:O.nat s F with
   |none=>rw[J]at h;exact h.elim|some es=>
    rw [J]at h;simp only[AP]at h;obtain⟨X,I,h⟩:=h
    try simp only[A,W,J]
    have G:∃n∈x.sl,O.get n=.nh s F .hd:=by
     cases x with
     |c t=>simp[AD.ev]at A|s n=>exact⟨n,by simp[AD.sl],A⟩
    obtain ⟨n,N,L⟩:=G;refine⟨X,I,h,.none,rfl,trivial,by simp,by simp,?_,by simp[AC.rg],by simp,fun env2 w E u=>?_⟩
    .intro s' he;simp only[EV.rz,rb]at he;subst he;exact .inr ⟨n,CZ N,by rw[L];rfl⟩
    .have C:=(w.ev (x:=x) (fun s h=>CZ h)).nh A;have e2:=w.val (x:=i) (fun s h=>Cy h);have B:=(w.bp n (CZ N) s (by rw[L];rfl)).nat F;rw[J]at B;simp only[AC.wp,C,e2,W,B,AP];exact⟨X,I,u⟩
  .rename_i s F r k j A W;cases J:O.nat s F with
   |none=>rw[J]at h;exact h.elim|some es=>
    rw [J]at h;simp only[AP]at h;obtain⟨X,fs,I,T,h⟩:=h
    try simp only[A,W,J]
    have G:∃n∈x.sl,O.get n=.nh s F (.rw r):=by
     cases x with
     |c t=>simp[AD.ev]at A|s n=>exact⟨n,by simp[AD.sl],A⟩
    obtain ⟨n,N,L⟩:=G;refine⟨X,fs,I,T,h,.none,rfl,trivial,by simp,by simp,?_,by simp[AC.rg],by simp,fun env2 w E u=>?_⟩
    .intro s' he;simp only[EV.rz,rb]at he;subst he;exact .inr ⟨n,CZ N,by rw[L];rfl⟩
    .have C:=(w.ev (x:=x) (fun s h=>CZ h)).nh A;have e2:=w.val (x:=i) (fun s h=>Cy h);have B:=(w.bp n (CZ N) s (by rw[L];rfl)).nat F;rw[J]at B;simp only[AC.wp,C,e2,W,B,AP];exact⟨X,fs,I,T,u⟩
  .exact h.elim
 |lac x=>
  simp only[AC.wp]at h|-;split at h
  .rename_i s F A;split at h
   .rename_i p J
    try simp only[A,J]
    have G:∃n∈x.sl,O.get n=.bp s F:=by
     cases x with
     |c t=>simp[AD.ev]at A|s n=>exact⟨n,by simp[AD.sl],A⟩
    obtain ⟨n,N,L⟩:=G;refine⟨h,.none,rfl,trivial,by simp,by simp,?_,by simp[AC.rg],by simp,fun env2 w E u=>?_⟩
    .intro s' he;simp only[EV.rz,rb]at he;subst he;exact .inr ⟨n,N,by rw[L];rfl⟩
    .have C:=(w.ev (x:=x) (fun s h=>h)).bp A;have B:=(w.bp n N s (by rw[L];rfl)).rf (some F);rw[J]at B;simp only[AC.wp,C,B];exact u
   .exact h.elim
  .exact h.elim
 |uT _=>cases H
 |ur _ _=>cases H
 |cut _ _ _=>cases H
 |s9 _ _ _ _=>cases H
 |sG g xs=>
  simp only[AC.wp]at h|-;cases D:Go.Sf.vals O xs with
  |none=>rw[D]at h;exact h.elim|some Q=>
   rw [D]at h;simp only[AP]at h|-;obtain⟨r,C,B⟩:=h;refine⟨r,C,An B rfl rfl fun env2 w E u=>?_⟩;simp only[AC.wp,w.vals (xs:=xs) (fun s h=>h),D,AP];exact⟨r,C,u⟩
 |rJ _ _ _=>cases H
 |rK g xs=>
  simp only[AC.wp]at h|-;cases D:Go.Sf.rR O xs with
  |none=>rw[D]at h;exact h.elim|some Q=>
   rw [D]at h;simp only[AP]at h|-;obtain⟨r,C,B⟩:=h;refine⟨r,C,fun R=>An (B R) rfl (by cases r<;>rfl) fun env2 w E u=>?_⟩;simp only[AC.wp,w.rR (xs:=xs) (fun s h=>h),D,AP];exact⟨r,C,fun _=>u⟩
 |ta Y x=>
  simp only[AC.wp]at h|-;split at h
  .rename_i t d A
   try simp only[A]
   cases D:Cc Y t.cells with
   |none=>rw[D]at h;exact h.elim|some cs=>
    rw [D]at h;simp only[AP]at h|-;refine⟨h.1,h.2,.none,rfl,trivial,by simp,by simp,(fun s he=>by cases he),fun _=>⟨rfl,fun Z hd=>?_⟩,by simp,fun env2 w E u=>?_⟩
    .simp only[rb]at hd;subst hd;exact h.1
    .simp only[AC.wp,w.val (x:=x) (fun s h=>h),A,D,AP];exact⟨w.new rfl _ rfl h.1,u⟩
  .exact h.elim
 |uE x i n=>
  simp only[AC.wp]at h|-;cases A:x.rq O with
  |none=>rw[A]at h;exact h.elim|some p=>
   rw [A]at h;simp only[AP]at h|-;split at h
   .rename_i ik j W
    try simp only[W]
    obtain ⟨⟨C,B⟩,I,T,h5⟩:=h;have G:∃n∈x.sl,(O.get n).rz=some p.1.1:=by
     cases x with
     |c t=>simp[AD.ev,EV.rz]at C|s n=>exact⟨n,by simp[AD.sl],C⟩
    obtain ⟨m,hm',hr⟩:=G;refine⟨⟨C,B⟩,I,T,h5,.none,rfl,trivial,by simp,by simp,?_,by simp[AC.rg],by simp,fun env2 w E u=>?_⟩
    .intro s' he;simp only[EV.rz,rb]at he;subst he;exact .inr ⟨m,CZ hm',hr⟩
    .have e1:=w.rq (x:=x) (fun s h=>CZ h);have e2:=w.val (x:=i) (fun s h=>Cy h);have e3:=(w.ev (x:=x) (fun s h=>CZ h)).rz;simp only[AC.wp,e1,A,e2,W,AP,e3,C];exact⟨⟨trivial,B⟩,I,T,u⟩
   .exact h.elim
 |xfa x k=>
  simp only[AC.wp]at h|-;split at h
  .rename_i q i c A;split at h
   .rename_i p J
    try simp only[A,J]
    have G:∃n∈x.sl,O.get n=.lp q i c:=by
     cases x with
     |c t=>simp[AD.ev]at A|s n=>exact⟨n,by simp[AD.sl],A⟩
    obtain ⟨n,N,L⟩:=G;refine⟨h,.none,rfl,trivial,by simp,by simp,?_,by simp[AC.rg],by simp,fun env2 w E u=>?_⟩
    .intro s' he;simp only[EV.rz,rb]at he;subst he;exact .inr ⟨n,N,by rw[L];rfl⟩
    .have C:=(w.ev (x:=x) (fun s h=>h)).t7 (q:=q) (by rw[A];rfl);have B:=(w.bp n N q (by rw[L];rfl)).rf i;rw[J]at B;simp only[AC.wp,C,A,B];exact u
   .exact h.elim
  .exact h.elim
 |uM x=>
  simp only[AC.wp]at h|-;split at h
  .rename_i q i c A;split at h
   .rename_i p J
    try simp only[A,J]
    cases D:(p.2.flatMap TV.cells)[c]? with
    |none=>rw[D]at h;exact h.elim|some t=>
     rw [D]at h;simp only[AP]at h|-;have G:∃n∈x.sl,O.get n=.lp q i c:=by
      cases x with
      |c t=>simp[AD.ev]at A|s n=>exact⟨n,by simp[AD.sl],A⟩
     obtain ⟨n,N,L⟩:=G;refine An h rfl rfl fun env2 w E u=>?_;have C:=(w.ev (x:=x) (fun s h=>h)).t7 (q:=q) (by rw[A];rfl);have B:=(w.bp n N q (by rw[L];rfl)).rf i;rw[J]at B;simp only[AC.wp,C,A,B,D,AP];exact u
   .exact h.elim
  .exact h.elim
 |tF _ _ _=>cases H
 |rel _=>cases H
 |tf _=>cases H
 |tW _=>cases H
 |sW _ _ _=>cases H
 |sf g xs=>
  simp only[AC.wp]at h|-;split at h
  .rename_i d;obtain⟨P,h⟩:=h;refine⟨P,?_⟩;cases D:Go.Sf.vals O xs with
   |none=>rw[D]at h;exact h.elim|some Q=>
    rw [D]at h;simp only[AP]at h|-;obtain⟨n,es,C,B⟩:=h;refine⟨n,es,C,fun R=>⟨B R,.none,rfl,trivial,by simp,by simp,(fun s he=>by cases he),fun _=>⟨rfl,fun Z hd=>?_⟩,by simp,fun env2 w E u=>?_⟩⟩
    .simp only[rb]at hd;subst hd;exact P
    .simp only[AC.wp,w.vals (xs:=xs) (fun s h=>h),D,AP];exact⟨w.new rfl _ rfl P,n,es,C,fun _=>u⟩
  .exact h.elim
 |tR n z x=>
  simp only[AC.wp]at h|-;split at h
  .rename_i d k j A
   try simp only[A]
   obtain ⟨P,C,B,I⟩:=h;refine⟨P,C,B,I,.none,rfl,trivial,by simp,by simp,(fun s he=>by cases he),fun _=>⟨rfl,fun Z hd=>?_⟩,by simp,fun env2 w E u=>?_⟩
   .simp only[rb]at hd;subst hd;exact P
   .simp only[AC.wp,w.val (x:=x) (fun s h=>h),A];exact⟨w.new rfl _ rfl P,C,B,u⟩
  .exact h.elim
 |sw _ _=>cases H
 |sr _ _=>cases H
 |r8 _=>cases H
 |tA _=>cases H
 |sE _ _=>cases H
 |tX _ _=>cases H
 |tO _=>cases H
 |sx _ _ _=>cases H
 |uO _ _=>cases H
 |uq _ _ _ _=>cases H
 |tZ=>cases H
 |uo _=>cases H
 |sA _ _=>cases H
 |uK _ _ _=>cases H
 |ul _ _ _ _=>cases H
 |rm _ _=>cases H
 |uA _=>cases H
 |ut _=>cases H
 |tc _=>cases H
 |stx _ _ _=>cases H
 |um _=>cases H
 |sI g xs=>
  simp only[AC.wp]at h|-;cases D:Go.Sf.vals O xs with
  |none=>rw[D]at h;exact h.elim|some Q=>
   rw [D]at h;simp only[AP]at h|-;obtain⟨r,C,B⟩:=h;refine⟨r,C,fun R=>An (B R) rfl rfl fun env2 w E u=>?_⟩;simp only[AC.wp,w.vals (xs:=xs) (fun s h=>h),D,AP];exact⟨r,C,fun _=>u⟩
 |sn g xs=>
  simp only[AC.wp]at h|-;cases D:Go.Sf.vals O xs with
  |none=>rw[D]at h;exact h.elim|some Q=>
   rw [D]at h;simp only[AP]at h|-;obtain⟨r,C,I,B⟩:=h;refine⟨r,C,I,fun R=>An (B R) rfl rfl fun env2 w E u=>?_⟩;simp only[AC.wp,w.vals (xs:=xs) (fun s h=>h),D,AP];exact⟨r,C,I,fun _=>u⟩
 |tN x k n agg=>
  simp only[AC.wp]at h|-;split at h
  .rename_i cs A
   try simp only[A]
   obtain ⟨C,B⟩:=h;refine⟨C,?_⟩;cases agg with
   |true=>
    simp only[if_true]at B|-;refine An B rfl rfl fun env2 w E u=>?_;simp only[AC.wp,w.val (x:=x) (fun s h=>h),A,if_true];exact⟨C,u⟩
   |false=>
    simp only[Bool.false_eq_true,if_false]at B|-;cases D:ED (cs.drop k)with
    |none=>rw[D]at B;exact B.elim|some t=>
     rw [D]at B;simp only[AP]at B|-;refine An B rfl rfl fun env2 w E u=>?_;simp only[AC.wp,w.val (x:=x) (fun s h=>h),A,Bool.false_eq_true,if_false,D,AP];exact⟨C,u⟩
  .exact h.elim
end
end Go.Sf
