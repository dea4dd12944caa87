/- What an operation leans on: the slots that it reads, whether or not they own their lists. -/
import Derived.Test.YtbmogdodchhhlaaGreatSfCode
set_option linter.all false
namespace Go.Sf
theorem Y4{cs ds:List AI}(h:ds.map AI.key=cs.map AI.key):ds.map (·.t)=cs.map (·.t):=by
 have:=congrArg (List.map Prod.fst) h;simpa[List.map_map,Function.comp_def,AI.key]using this
def Tz(p:TV×Bool):TV:=match p with
 |(.xl n es,true)=>.list n es|p=>p.1
theorem Sn{cs ds:List AI}(h:ds.map AI.key=cs.map AI.key):ds.map AI.uD=cs.map AI.uD:=by
 have a:∀c:AI,c.uD=Tz c.key:=by
  rintro ⟨_|_,t⟩<;>cases t<;>rfl
 have:=congrArg (List.map Tz) h;simpa[List.map_map,Function.comp_def,<-a]using this
def fc(p:TV×Bool):Option (Nat×Fq):=match p with
 |(.xl n es,true)=>some (n,es)|_=>none
theorem cH{cs ds:List AI}(h:ds.map AI.key=cs.map AI.key)(k:Nat):(match ds[k]? with
  |some ⟨true,.xl n es⟩=>some (n,es)|_=>none)=(match cs[k]? with
  |some ⟨true,.xl n es⟩=>some (n,es)|_=>none):=by
 have a:∀o:Option AI,(match o with
  |some ⟨true,.xl n es⟩=>some (n,es)|_=>none)=(o.map AI.key).bind fc:=by
  rintro (_|⟨_|_,t⟩)
  .rfl
  .cases t<;>rfl
  .cases t<;>rfl
 rw [a,a];have:=congrArg (fun l=>l[k]?) h;simp only[List.getElem?_map]at this;rw[this]
def fe(p:TV×Bool):Option Fq:=match p with
 |(.xn es,true)=>some es|_=>none
theorem cI{cs ds:List AI}(h:ds.map AI.key=cs.map AI.key)(k:Nat):(match ds[k]? with
  |some ⟨true,.xn es⟩=>some es|_=>none)=(match cs[k]? with
  |some ⟨true,.xn es⟩=>some es|_=>none):=by
 have a:∀o:Option AI,(match o with
  |some ⟨true,.xn es⟩=>some es|_=>none)=(o.map AI.key).bind fe:=by
  rintro (_|⟨_|_,t⟩)
  .rfl
  .cases t<;>rfl
  .cases t<;>rfl
 rw [a,a];have:=congrArg (fun l=>l[k]?) h;simp only[List.getElem?_map]at this;rw[this]
def EV.like(e e2:EV):Prop:=
 e2=e\/(∃n es,(e=.tv (.list n es)/\e2=.ow (.list n es))\/(e=.ow (.list n es)/\e2=.tv (.list n es)))\/∃cs ds,e=.bx cs/\e2=.bx ds/\ds.map AI.key=cs.map AI.key
theorem EV.like.rfl'(e:EV):e.like e:=.inl rfl
variable{e e2:EV}
theorem EV.like.symm(h:e.like e2):e2.like e:=by
 rcases h with rfl|⟨n,es,⟨rfl,rfl⟩|⟨rfl,rfl⟩⟩|⟨cs,ds,rfl,rfl,h⟩
 .exact .inl rfl
 .exact .inr (.inl ⟨n,es,.inr ⟨rfl,rfl⟩⟩)
 .exact .inr (.inl ⟨n,es,.inl ⟨rfl,rfl⟩⟩)
 .exact .inr (.inr ⟨ds,cs,rfl,rfl,h.symm⟩)
theorem EV.like.sE(h:e.like e2):e2.sE=e.sE:=by
 rcases h with rfl|⟨n,es,⟨rfl,rfl⟩|⟨rfl,rfl⟩⟩|⟨cs,ds,rfl,rfl,h⟩<;>rfl
variable{q:Nat}
theorem EV.like.vb(h:e.like e2)(a:e.sE=some q):e2=e:=by
 rcases h with rfl|⟨n,es,⟨rfl,rfl⟩|⟨rfl,rfl⟩⟩|⟨cs,ds,rfl,rfl,h⟩
 .rfl
 .cases a
 .cases a
 .cases a
theorem EV.like.xo(h:e.like e2){n:Nat}{es:Fq}(he:e=.xo n es):e2=.xo n es:=by
 subst he;rcases h with rfl|⟨n,es,⟨h,_⟩|⟨h,_⟩⟩|⟨cs,ds,h,_⟩
 .rfl
 .cases h
 .cases h
 .cases h
theorem EV.like.val(h:e.like e2):e2.val=e.val:=by
 rcases h with rfl|⟨n,es,⟨rfl,rfl⟩|⟨rfl,rfl⟩⟩|⟨cs,ds,rfl,rfl,h⟩<;>rfl
theorem EV.like.pt(h:e.like e2){row:Fq}(he:e=.tv (.pt row)):e2=.tv (.pt row):=by
 subst he;rcases h with rfl|⟨n,es,⟨h,rfl⟩|⟨h,rfl⟩⟩|⟨cs,ds,h,rfl,a⟩
 .rfl
 .simp at h
 .cases h
 .cases h
theorem EV.like.bp(h:e.like e2){q a:Nat}(he:e=.bp q a):e2=.bp q a:=by
 subst he;rcases h with rfl|⟨n,es,⟨h,rfl⟩|⟨h,rfl⟩⟩|⟨cs,ds,h,rfl,b⟩
 .rfl
 .cases h
 .cases h
 .cases h
theorem EV.like.tp(h:e.like e2){a:Fq}(he:e=.tp a):e2=.tp a:=by
 subst he;rcases h with rfl|⟨n,es,⟨h,rfl⟩|⟨h,rfl⟩⟩|⟨cs,ds,h,rfl,b⟩
 .rfl
 .cases h
 .cases h
 .cases h
theorem EV.like.bx(h:e.like e2){cs:List AI}(he:e=.bx cs):∃ds,e2=.bx ds/\ds.map AI.key=cs.map AI.key:=by
 subst he;rcases h with rfl|⟨n,es,⟨h,rfl⟩|⟨h,rfl⟩⟩|⟨cs',ds,h,rfl,a⟩
 .exact⟨cs,rfl,rfl⟩
 .cases h
 .cases h
 .simp only[EV.bx.injEq]at h;subst h;exact⟨ds,rfl,a⟩
def AD.sl:AD->Ne
 |.s n=>[n]|.c _=>[]
def QI:Option AD->Ne
 |some x=>x.sl|none=>[]
def EE:List AD->Ne
 |[]=>[]|x::xs=>x.sl++EE xs
def Oh:List (Nat×Nat×AD)->Ne
 |[]=>[]|x::xs=>x.2.2.sl++Oh xs
def AC.slots:AC->Ne
 |.mv x=>x.sl|.tk s=>[s]|.uq _=>[]|.td x _=>x.sl|.bad s _=>[s]|.ur x i _=>x.sl++i.sl|.aad x i _ _=>x.sl++i.sl|.ld x=>x.sl|.uC x _=>x.sl|.vR s _=>[s]|.ldt x=>x.sl|.bin _ _ x y=>x.sl++y.sl|.not x=>x.sl|.neg x=>x.sl|.pick c a b=>c.sl++(a.sl++b.sl)|.len x=>x.sl|.uN x=>x.sl|.tR _ x lo hi=>x.sl++(QI lo++QI hi)|.tz x lo hi=>x.sl++(QI lo++QI hi)|.uy _ ps=>Oh ps|.uS _ ps=>EE ps|.app _ x y=>x.sl++y.sl|.call _ xs=>EE xs|.tq x xs=>x.sl++EE xs|.sR _ xs=>EE xs|.ext x _=>x.sl|.vp _ x=>x.sl|.th x i=>x.sl++i.sl|.uw x=>x.sl|.uJ x=>x.sl|.mm _ x y=>x.sl++y.sl|.uV _=>[]|.st _ x v=>x.sl++v.sl|.uz _ s v=>s::v.sl|.vo s=>[s]|.ux x _ _ _=>x.sl|.vG s=>[s]|.uK x=>x.sl|.vC x i _=>x.sl++i.sl|.xfa x _=>x.sl|.vL x=>x.sl|.uB x v _=>x.sl++v.sl|.rel s=>[s]|.ud _=>[]|.ub _=>[]|.uR s=>[s]|.t6 _ s y=>s::y.sl|.tj _ xs=>EE xs|.uv _ _ x=>x.sl|.tD _ x=>x.sl|.tF _ x=>x.sl|.sZ gs=>gs.flatMap GC.sl|.stx _ s q=>[s,q]|.tN _ xs=>EE xs|.tw _ xs=>EE xs|.vn x=>x.sl|.vK x _=>x.sl|.vJ x _=>x.sl|.lac x=>x.sl|.vQ x=>x.sl|.vk x q=>x.sl++[q]|.cut _ s hi=>s::hi.sl|.ti _ xs=>EE xs|.uc _ x=>x.sl|.ue _ s _ x=>s::x.sl|.tM _ xs=>EE xs|.tg _ xs _=>EE xs|.ut q=>[q]|.tK s q=>[s,q]|.vq x=>x.sl|.uQ x i=>x.sl++i.sl|.vw x=>x.sl|.uU x v=>x.sl++v.sl|.uL q=>[q]|.tG _ xs _=>EE xs|.vO s _=>[s]|.vj _ _ x v=>x.sl++v.sl|.uT=>[]|.vh s=>[s]|.tB _ xs=>EE xs|.vI s m x=>s::(m.sl++x.sl)|.vf s m x v=>s::(m.sl++(x.sl++v.sl))|.su s m=>s::m.sl|.vB s=>[s]|.vu s=>[s]
def AC.up:AC->Ne
 |.tk s=>[s]|.app _ x _=>x.sl|_=>[]
def AC.mov:AC->Bool
 |.st ..=>false|.uz ..=>false|.vo _=>false|.uB ..=>false|.rel _=>false|.ud _=>false|.ub _=>false|.uR _=>false|.t6 ..=>false|.tD ..=>false|.tF ..=>false|.sZ _=>false|.stx ..=>false|.vn _=>false|.vQ _=>false|.vk ..=>false|.cut ..=>false|.ue ..=>false|.tg ..=>false|.ut _=>false|.tK ..=>false|.uU ..=>false|.uL _=>false|.tG ..=>false|.vO ..=>false|.vj ..=>false|.uT=>false|.vh _=>false|.tB ..=>false|.vI ..=>false|.vf ..=>false|.su ..=>false|.vB _=>false|.vu _=>false|_=>true
def AC.sg:AC->Bool
 |.uV _=>true|.uJ _=>true|.uc ..=>true|.tj ..=>true|.uv ..=>true|_=>false
def AC.t7:AC->Ne
 |.bad s _=>[s]|.vG s=>[s]|_=>[]
inductive A1 where
 |none
 |slot (s:Nat) (t:TV)
 |cell (s off:Nat) (t:TV)
def A1.app:A1->AA->AA
 |.none,O=>O|.slot s t,O=>(s,.tv t)::O|.cell s off t,O=>match O.get s with
  |.bx cs=>(s,.bx (cs.set off ⟨false,t⟩))::O|_=>O
def A1.ok:A1->AA->Prop
 |.none,_=>True|.slot s t,O=>O.get s=.ow t|.cell s off t,O=>∃cs,O.get s=.bx cs/\cs[off]?=some ⟨true,t⟩
structure C3(op:AC)(f:A1)(dst:Option Nat)(O env2:AA):Prop where
 sl:∀s∈op.slots,(O.get s).like (env2.get s)
 bp:∀s∈op.slots,∀q,(O.get s).sE=some q->(O.get q).like (env2.get q)
 up:∀s∈op.up,(∀cs,O.get s≠.bx cs)->env2.get s=O.get s
 eff:f.ok env2
 new:op.sg=true->∀d,dst=some d->O.pc d=true->env2.pc d=true
section
variable{op:AC}{f:A1}{dst:Option Nat}{O env2:AA}
variable{x:AD}
theorem C3.val(h:C3 op f dst O env2)(a:∀s∈x.sl,s∈op.slots):x.val env2=x.val O:=by
 cases x with
 |c t=>rfl|s n=>exact(h.sl n (a n (by simp[AD.sl]))).val
theorem C3.ev(h:C3 op f dst O env2)(a:∀s∈x.sl,s∈op.slots):(x.ev O).like (x.ev env2):=by
 cases x with
 |c t=>exact .inl rfl|s n=>exact h.sl n (a n (by simp[AD.sl]))
theorem C3.vals(h:C3 op f dst O env2):∀{xs:List AD},(∀s∈EE xs,s∈op.slots)->Go.Sf.vals env2 xs=Go.Sf.vals O xs
 |[],_=>rfl|x::xs,b=>by
  simp only[EE,List.mem_append]at b;simp only[Go.Sf.vals,h.val (x:=x) (fun s a=>b s (.inl a)),h.vals (xs:=xs) (fun s a=>b s (.inr a))]
theorem C3.parts(h:C3 op f dst O env2):∀{xs:List (Nat×Nat×AD)},(∀s∈Oh xs,s∈op.slots)->EQ env2 xs=EQ O xs
 |[],_=>rfl|(i,n,x)::xs,b=>by
  simp only[Oh,List.mem_append]at b;simp only[EQ,h.val (x:=x) (fun s a=>b s (.inl a)),h.parts (xs:=xs) (fun s a=>b s (.inr a))]
theorem C3.bnd(h:C3 op f dst O env2){x:Option AD}{k:Int}(a:∀s∈QI x,s∈op.slots):Df env2 k x=Df O k x:=by
 cases x with
 |none=>rfl|some x=>exact h.val a
theorem C3.addr(h:C3 op f dst O env2)(j:∀s∈x.sl,s∈op.slots):Ay env2 (x.ev env2)=Ay O (x.ev O):=by
 cases x with
 |c t=>cases t<;>rfl
 |s n=>
  have g:=j n (by simp[AD.sl]);have a:=h.sl n g;have i:=h.bp n g;simp only[AD.ev];generalize O.get n=e at a i;generalize env2.get n=e2 at a;rcases a with rfl|⟨n,es,⟨rfl,rfl⟩|⟨rfl,rfl⟩⟩|⟨cs,ds,rfl,rfl,d⟩
  .cases e2 with
   |bp q k=>
    have b:=i q rfl;simp only[Ay];generalize O.get q=e1 at b;generalize env2.get q=e2 at b;rcases b with rfl|⟨n,es,⟨rfl,rfl⟩|⟨rfl,rfl⟩⟩|⟨cs,ds,rfl,rfl,d⟩
    .rfl
    .rfl
    .rfl
    .simp only[List.map_drop,Y4 d]
   |tv t=>cases t<;>rfl
   |_=>rfl
  .rfl
  .rfl
  .simp only[Ay,Y4 d]
theorem C3.place(h:C3 op f dst O env2)(d:∀s∈x.sl,s∈op.slots):x.place env2=x.place O:=by
 cases x with
 |c t=>rfl|s n=>
  have g:=h.sl n (d n (by simp[AD.sl]));simp only[AD.place];rcases g with a|⟨n,es,⟨a,b⟩|⟨a,b⟩⟩|⟨cs,ds,a,b,_⟩
  .rw[a]
  .rw[a,b]
  .rw[a,b]
  .rw[a,b]
variable{q:Nat}
theorem EV.like.sf{O env2:AA}(h:(O.get q).like (env2.get q))(i:Option Nat):env2.sf q i=O.sf q i:=by
 rcases h with a|⟨n,es,⟨a,b⟩|⟨a,b⟩⟩|⟨cs,ds,a,b,c⟩
 .exact AA.sS a
 .cases i<;>simp only[AA.sf,a,b]
 .cases i<;>simp only[AA.sf,a,b]
 .cases i with
  |none=>simp only[AA.sf,a,b]|some k=>simp only[AA.sf,a,b];exact cH c k
theorem EV.like.nat{O env2:AA}(h:(O.get q).like (env2.get q))(i:Nat):env2.nat q i=O.nat q i:=by
 rcases h with a|⟨n,es,⟨a,b⟩|⟨a,b⟩⟩|⟨cs,ds,a,b,c⟩
 .exact AA.te a
 .simp only[AA.nat,a,b]
 .simp only[AA.nat,a,b]
 .simp only[AA.nat,a,b];exact cI c i
variable{e e2:EV}
theorem EV.like.nh(h:e.like e2){q i:Nat}{k:NK}(he:e=.nh q i k):e2=.nh q i k:=by
 subst he;exact h.vb rfl
theorem C3.sv(h:C3 op f dst O env2)(g:∀s∈x.sl,s∈op.slots):x.sv env2=x.sv O:=by
 cases x with
 |c t=>rfl|s n=>
  have d:=g n (by simp[AD.sl]);have j:=h.sl n d;have k:=h.bp n d;simp only[AD.sv];rcases j with a|⟨m,es,⟨a,b⟩|⟨a,b⟩⟩|⟨cs,ds,a,b,_⟩
  .rw[a];cases he:O.get n with
   |la q i=>simp only[(k q (by rw[he];rfl)).sf i]|_=>rfl
  .rw[a,b]
  .rw[a,b]
  .rw[a,b]
theorem C3.uO(h:C3 op f dst O env2)(i:∀s∈x.sl,s∈op.slots):x.uO env2=x.uO O:=by
 unfold AD.uO;rw[h.sv i];cases x.sv O with
 |some p=>rfl|none=>
  cases x with
  |c t=>cases t<;>rfl
  |s n=>
   have j:=i n (by simp[AD.sl]);have k:=h.sl n j;have o:=h.bp n j;simp only[AD.ev];rcases k with a|⟨m,es,⟨a,d⟩|⟨a,d⟩⟩|⟨cs,ds,a,d,u⟩
   .rw[a];cases he:O.get n with
    |bp q w=>
     have r:=o q (by rw[he];rfl);simp only;rcases r with b|⟨m,es,⟨b,g⟩|⟨b,g⟩⟩|⟨cs,ds,b,g,v⟩
     .rw[b]
     .rw[b,g]
     .rw[b,g]
     .rw[b,g];have:=Sn v;simp only[List.map_drop,this]
    |_=>rfl
   .rw[a,d];rfl
   .rw[a,d];rfl
   .rw[a,d];simp only[Sn u]
theorem C3.sP(h:C3 op f dst O env2):∀{xs:List AD},(∀s∈EE xs,s∈op.slots)->Go.Sf.sP env2 xs=Go.Sf.sP O xs
 |[],_=>rfl|x::xs,b=>by
  simp only[EE,List.mem_append]at b;simp only[Go.Sf.sP,h.uO (x:=x) (fun s a=>b s (.inl a)),h.sP (xs:=xs) (fun s a=>b s (.inr a))]
end
structure VY(S:FuncId->Fq->Ap->Prop)(op:AC)(dst:Option Nat)(O:AA)(e:EV)(env':AA)(f:A1):Prop where
 env':env'=f.app O
 ok:f.ok O
 slot:∀s t,f=.slot s t->s∈op.up
 cell:∀s off t,f=.cell s off t->(s∈op.slots\/∃x∈op.slots,(O.get x).sE=some s)
 sE:∀s,e.sE=some s->(s∈op.t7\/∃x∈op.slots,(O.get x).sE=some s)
 new:op.sg=true->e.sE=none/\∀d,dst=some d->O.pc d=true
 xl:∀s off t,f=.cell s off t->t.tE=false
 again:∀env2,C3 op f dst O env2->∀K2:EV->AA->Prop,K2 e (f.app env2)->op.wp S env2 dst K2
section
variable{S:FuncId->Fq->Ap->Prop}{op:AC}{dst:Option Nat}{O:AA}{K:EV->AA->Prop}
variable{e:EV}
theorem Au(b:K e O)(c:op.sg=false)(d:e.sE=none)(h:∀env2,C3 op .none dst O env2->∀a:EV->AA->Prop,a e env2->op.wp S env2 dst a):K e O/\∃f,VY S op dst O e O f:=
 ⟨b,.none,rfl,trivial,by simp,by simp,(fun s he=>by rw[d]at he;cases he),by simp[c],by simp,h⟩
variable{α:Type}{l m:List α}
theorem Cy{x:α}(h:x∈m):x∈l++m:=List.mem_append_right _ h
theorem Cc{x:α}(h:x∈l):x∈l++m:=List.mem_append_left _ h
theorem frame(H:op.mov=true)(h:op.wp S O dst K):op.wp S O dst fun e env'=>K e env'/\∃f,VY S op dst O e env' f:=by
 cases op with
 |mv x=>
  simp only[AC.wp]at h|-;have key:∀t,(x.ev O).val=some t->∀env2,C3 (.mv x) .none dst O env2->∀E:EV->AA->Prop,E (.tv t) env2->(AC.mv x).wp S env2 dst E:=by
   intro t ht env2 w E u;have hv:=w.val (x:=x) (fun s h=>h);simp only[AD.val]at hv;rw[ht]at hv;simp only[AC.wp];cases he:x.ev env2<;>rw[he]at hv<;>simp[EV.val]at hv<;>subst hv<;>exact u
  split at h
  .rename_i t A
   try simp only[A]
   exact Au h rfl rfl (key t (by rw[A];rfl))
  .rename_i t A
   try simp only[A]
   exact Au h rfl rfl (key t (by rw[A];rfl))
  .rename_i Q A
   try simp only[A]
   refine Au h rfl rfl fun env2 w E u=>?_;cases x with
   |c t=>simp[AD.ev]at A|s n=>
    simp only[AD.ev]at A;have B:env2.get n=.tp Q:=(w.sl n (by simp[AC.slots,AD.sl])).tp A;simp only[AC.wp,AD.ev,B];exact u
  .exact h.elim
 |tk s=>
  simp only[AC.wp]at h|-;split at h
  .rename_i t M
   try simp only[M]
   refine ⟨h,.slot s t,rfl,M,?_,by simp,(fun s he=>by cases he),by simp[AC.sg],by simp,fun env2 w E u=>?_⟩
   .intro R t' he;simp only[A1.slot.injEq]at he;simp[AC.up,he.1]
   .have:=w.eff;simp only[A1.ok]at this;simp only[AC.wp,this];exact u
  .rename_i t M
   try simp only[M]
   refine Au h rfl rfl fun env2 w E u=>?_;have:=w.up s (by simp[AC.up]) (by simp[M]);simp only[AC.wp,this,M];exact u
  .exact h.elim
 |uq n=>exact Au h rfl rfl fun env2 w E u=>u|td x k=>
  simp only[AC.wp]at h|-;split at h
  .rename_i row A
   try simp only[A]
   refine Au h rfl rfl fun env2 w E u=>?_;have:=(w.ev (x:=x) (fun s h=>h)).pt A;simp only[AC.wp,this];exact u
  .rename_i s F A;split at h
   .rename_i cs M
    try simp only[A,M]
    have G:∃n∈x.sl,O.get n=.bp s F:=by
     cases x with
     |c t=>simp[AD.ev]at A|s n=>exact⟨n,by simp[AD.sl],A⟩
    obtain ⟨n,N,L⟩:=G;refine⟨h,.none,rfl,trivial,by simp,by simp,?_,by simp[AC.sg],by simp,fun env2 w E u=>?_⟩
    .intro R he;simp only[EV.sE,se]at he;subst he;exact .inr ⟨n,N,by rw[L];rfl⟩
    .have C:=(w.ev (x:=x) (fun s h=>h)).bp A;have B:=w.bp n N s (by rw[L];rfl);rw[M]at B;obtain⟨ds,I,_⟩:=B.bx rfl;simp only[AC.wp,C,I];exact u
   .exact h.elim
  .exact h.elim
 |bad s k=>
  simp only[AC.wp]at h|-;split at h
  .rename_i cs M
   try simp only[M]
   refine ⟨h,.none,rfl,trivial,by simp,by simp,?_,by simp[AC.sg],by simp,fun env2 w E u=>?_⟩
   .intro R he;simp only[EV.sE,se]at he;exact .inl (by simp[AC.t7,he])
   .have B:=w.sl s (by simp[AC.slots]);rw[M]at B;obtain⟨ds,I,_⟩:=B.bx rfl;simp only[AC.wp,I];exact u
  .rename_i row M
   try simp only[M]
   refine Au h rfl rfl fun env2 w E u=>?_;have:=(w.sl s (by simp[AC.slots])).pt M;simp only[AC.wp,this];exact u
  .exact h.elim
 |ur x i n=>
  simp only[AC.wp]at h|-;split at h
  .rename_i m es k j A hi
   try simp only[A,hi]
   obtain ⟨C,B,e,I,U⟩:=h;refine⟨C,B,e,I,Au U rfl rfl fun env2 w E u=>?_⟩;simp only[AC.wp,w.val (x:=x) (fun s h=>Cc h),w.val (x:=i) (fun s h=>Cy h),A,hi];exact⟨C,B,e,I,u⟩
  .exact h.elim
 |aad x i n k=>
  simp only[AC.wp]at h|-;split at h
  .rename_i row kk j A hi
   try simp only[A,hi]
   obtain ⟨C,B,I,U⟩:=h;refine⟨C,B,I,Au U rfl rfl fun env2 w E u=>?_⟩;have:=(w.ev (x:=x) (fun s h=>Cc h)).pt A;simp only[AC.wp,this,w.val (x:=i) (fun s h=>Cy h),hi];exact⟨C,B,I,u⟩
  .exact h.elim
 |ld x=>
  simp only[AC.wp]at h|-;cases D:Ay O (x.ev O)with
  |none=>rw[D]at h;exact h.elim|some cs=>
   rw [D]at h;simp only[AR]at h|-;cases hf:ED cs with
   |none=>rw[hf]at h;exact h.elim|some t=>
    rw [hf]at h;refine⟨h.1,Au h.2 rfl rfl fun env2 w E u=>?_⟩;simp only[AC.wp,w.addr (x:=x) (fun s h=>h),D,AR,hf];exact⟨h.1,u⟩
 |uC x n=>
  simp only[AC.wp]at h|-;cases D:Ay O (x.ev O)with
  |none=>rw[D]at h;exact h.elim|some cs=>
   rw [D]at h;simp only[AR]at h|-;refine⟨h.1,Au h.2 rfl rfl fun env2 w E u=>?_⟩;simp only[AC.wp,w.addr (x:=x) (fun s h=>h),D,AR];exact⟨h.1,u⟩
 |vR s n=>
  simp only[AC.wp]at h|-;split at h
  .rename_i cs D
   try simp only[D]
   refine ⟨h.1,Au h.2 rfl rfl fun env2 w E u=>?_⟩;have C:=w.addr (x:=.s s) (fun s h=>h);obtain⟨ds,I,_⟩:=(w.sl s (by simp[AC.slots])).bx D;simp only[AD.ev,D,I,Ay,se]at C;simp only[AC.wp,I,C];exact⟨h.1,u⟩
  .exact h.elim
 |ldt x=>
  simp only[AC.wp]at h|-;split at h
  .rename_i s F V;split at h
   .rename_i cs M;split at h
    .rename_i n es D
     try simp only[V,M,D]
     refine ⟨h,.cell s F (.list n es),by simp[A1.app,M],⟨cs,M,D⟩,by simp,?_,(fun s he=>by cases he),by simp[AC.sg],(fun s F t he=>by cases he;rfl),fun env2 w E u=>?_⟩
     .intro R off' t' he;simp only[A1.cell.injEq]at he;obtain⟨rfl,rfl,rfl⟩:=he;cases x with
      |c t=>simp[AD.place]at V|s n=>
       simp only[AD.place]at V;split at V
       .rename_i q o J;simp only[se,Prod.mk.injEq]at V;exact .inr ⟨n,by simp[AC.slots,AD.sl],by rw[J,V.1];rfl⟩
       .simp only[se,Prod.mk.injEq]at V;exact .inl (by simp[AC.slots,AD.sl,V.1])
       .cases V
     .obtain⟨ds,C,B⟩:=w.eff;simp only[A1.app,C]at u;simp only[AC.wp,w.place (x:=x) (fun s h=>h),V,C,B];exact u
    .exact h.elim
   .exact h.elim
  .exact h.elim
 |bin k op x y=>
  simp only[AC.wp]at h|-;split at h
  .rename_i a b A W
   try simp only[A,W]
   cases L:C6 k op a b with
   |none=>rw[L]at h;exact h.elim|some t=>
    rw [L]at h;refine Au h rfl rfl fun env2 w E u=>?_;simp only[AC.wp,w.val (x:=x) (fun s h=>Cc h),w.val (x:=y) (fun s h=>Cy h),A,W,L,AR];exact u
  .exact h.elim
 |not x=>
  simp only[AC.wp]at h|-;split at h
  .rename_i b A
   try simp only[A]
   refine Au h rfl rfl fun env2 w E u=>?_;simp only[AC.wp,w.val (x:=x) (fun s h=>h),A];exact u
  .exact h.elim
 |neg x=>
  simp only[AC.wp]at h|-;split at h
  .rename_i k n A
   try simp only[A]
   refine Au h rfl rfl fun env2 w E u=>?_;simp only[AC.wp,w.val (x:=x) (fun s h=>h),A];exact u
  .exact h.elim
 |pick c a b=>
  simp only[AC.wp]at h|-;split at h
  .rename_i q D
   try simp only[D]
   have key:∀t,((if q=true then a else b).ev O).val=some t->∀env2,C3 (.pick c a b) .none dst O env2->∀E:EV->AA->Prop,E (.tv t) env2->(AC.pick c a b).wp S env2 dst E:=by
    intro t ht env2 w E u;have hv:=w.val (x:=if q=true then a else b) (fun s h=>by
     cases q
     .exact Cy (Cy h)
     .exact Cy (Cc h))
    simp only[AD.val]at hv;rw[ht]at hv;simp only[AC.wp,w.val (x:=c) (fun s h=>Cc h),D];cases he:(if q=true then a else b).ev env2<;>rw[he]at hv<;>simp[EV.val]at hv<;>subst hv<;>exact u
   split at h
   .rename_i t A
    try simp only[A]
    exact Au h rfl rfl (key t (by rw[A];rfl))
   .rename_i t A
    try simp only[A]
    exact Au h rfl rfl (key t (by rw[A];rfl))
   .exact h.elim
  .exact h.elim
 |len x=>
  simp only[AC.wp]at h|-;split at h
  .rename_i n es A
   try simp only[A]
   refine Au h rfl rfl fun env2 w E u=>?_;simp only[AC.wp,w.val (x:=x) (fun s h=>h),A];exact u
  .exact h.elim
 |vK x k=>
  simp only[AC.wp]at h|-;split at h
  .rename_i row A
   try simp only[A]
   refine Au h rfl rfl fun env2 w E u=>?_;simp only[AC.wp,w.val (x:=x) (fun s h=>h),A];exact u
  .exact h.elim
 |vJ x n=>
  simp only[AC.wp]at h|-;split at h
  .rename_i row A
   try simp only[A]
   refine ⟨h.1,Au h.2 rfl rfl fun env2 w E u=>?_⟩;simp only[AC.wp,w.val (x:=x) (fun s h=>h),A];exact⟨h.1,u⟩
  .exact h.elim
 |uN x=>
  simp only[AC.wp]at h|-;split at h
  .rename_i s A
   try simp only[A]
   refine Au h rfl rfl fun env2 w E u=>?_;simp only[AC.wp,w.val (x:=x) (fun s h=>h),A];exact u
  .exact h.elim
 |tR n x lo hi=>
  simp only[AC.wp]at h|-;split at h
  .rename_i m es A
   try simp only[A]
   split at h
   .rename_i k1 l k2 hh C B
    try simp only[C,B]
    refine ⟨h.1,h.2.1,Au h.2.2 rfl rfl fun env2 w E u=>?_⟩;simp only[AC.wp,w.val (x:=x) (fun s h=>Cc h),A,w.bnd (x:=lo) (fun s h=>Cy (Cc h)),w.bnd (x:=hi) (fun s h=>Cy (Cy h)),C,B];exact⟨h.1,h.2.1,u⟩
   .exact h.elim
  .exact h.elim
 |tz x lo hi=>
  simp only[AC.wp]at h|-;split at h
  .rename_i str A
   try simp only[A]
   split at h
   .rename_i k1 l k2 hh C B
    try simp only[C,B]
    refine ⟨h.1,h.2.1,h.2.2.1,Au h.2.2.2 rfl rfl fun env2 w E u=>?_⟩;simp only[AC.wp,w.val (x:=x) (fun s h=>Cc h),A,w.bnd (x:=lo) (fun s h=>Cy (Cc h)),w.bnd (x:=hi) (fun s h=>Cy (Cy h)),C,B];exact⟨h.1,h.2.1,h.2.2.1,u⟩
   .exact h.elim
  .exact h.elim
 |uy zero Z=>
  simp only[AC.wp]at h|-;cases D:EQ O Z with
  |none=>rw[D]at h;exact h.elim|some Q=>
   rw [D]at h;simp only[AR]at h|-;cases hf:DN zero Q with
   |none=>rw[hf]at h;exact h.elim|some cs=>
    rw [hf]at h;refine Au h rfl rfl fun env2 w E u=>?_;simp only[AC.wp,w.parts (xs:=Z) (fun s h=>h),D,AR,hf];exact u
 |uS n Z=>
  simp only[AC.wp]at h|-;cases D:Go.Sf.vals O Z with
  |none=>rw[D]at h;exact h.elim|some Q=>
   rw [D]at h;simp only[AR]at h|-;refine⟨h.1,Au h.2 rfl rfl fun env2 w E u=>?_⟩;simp only[AC.wp,w.vals (xs:=Z) (fun s h=>h),D,AR];exact⟨h.1,u⟩
 |app n x y=>
  simp only[AC.wp]at h|-;split at h
  .rename_i m es m' fs A W
   try simp only[A,W]
   obtain ⟨C,B,I,U⟩:=h;cases x with
   |c t=>simp[AD.ev]at A|s s=>
    simp only[AD.ev]at A;subst C;refine⟨rfl,B,I,U,.slot s (.list m es),rfl,A,?_,by simp,(fun s he=>by cases he),by simp[AC.sg],by simp,fun env2 w E u=>?_⟩
    .intro R t' he;simp only[A1.slot.injEq]at he;simp[AC.up,AD.sl,he.1]
    .have:=w.eff;simp only[A1.ok]at this;simp only[AC.wp,AD.ev,this,w.val (x:=y) (fun s h=>Cy h),W];exact⟨trivial,B,I,u⟩
  .exact h.elim
 |call g xs=>
  simp only[AC.wp]at h|-;cases D:Go.Sf.vals O xs with
  |none=>rw[D]at h;exact h.elim|some Q=>
   rw [D]at h;simp only[AR]at h|-;obtain⟨r,C,B⟩:=h;refine⟨r,C,fun T=>Au (B T) rfl (by cases r<;>rfl) fun env2 w E u=>?_⟩;simp only[AC.wp,w.vals (xs:=xs) (fun s h=>h),D,AR];exact⟨r,C,fun _=>u⟩
 |tq x xs=>
  simp only[AC.wp]at h|-;split at h
  .rename_i g caps Q A D
   try simp only[A,D]
   obtain ⟨r,C,B⟩:=h;refine⟨r,C,fun T=>Au (B T) rfl (by cases r<;>rfl) fun env2 w E u=>?_⟩;simp only[AC.wp,w.val (x:=x) (fun s h=>Cc h),w.vals (xs:=xs) (fun s h=>Cy h),A,D];exact⟨r,C,fun _=>u⟩
  .exact h.elim
 |sR g xs=>
  simp only[AC.wp]at h|-;cases D:Go.Sf.vals O xs with
  |none=>rw[D]at h;exact h.elim|some Q=>
   rw [D]at h;simp only[AR]at h|-;refine Au h rfl rfl fun env2 w E u=>?_;simp only[AC.wp,w.vals (xs:=xs) (fun s h=>h),D,AR];exact u
 |ext x i=>
  simp only[AC.wp]at h|-;split at h
  .rename_i Q A
   try simp only[A]
   cases hf:Q[i]? with
   |none=>rw[hf]at h;exact h.elim|some t=>
    rw [hf]at h;refine Au h rfl rfl fun env2 w E u=>?_;have:=(w.ev (x:=x) (fun s h=>h)).tp A;simp only[AC.wp,this,hf,AR];exact u
  .exact h.elim
 |vp k x=>
  simp only[AC.wp]at h|-;split at h
  .rename_i k n A
   try simp only[A]
   refine Au h rfl rfl fun env2 w E u=>?_;simp only[AC.wp,w.val (x:=x) (fun s h=>h),A];exact u
  .exact h.elim
 |th x i=>
  simp only[AC.wp]at h|-;split at h
  .rename_i str k j A hi
   try simp only[A,hi]
   obtain ⟨C,b,B,I⟩:=h;refine⟨C,b,B,Au I rfl rfl fun env2 w E u=>?_⟩;simp only[AC.wp,w.val (x:=x) (fun s h=>Cc h),w.val (x:=i) (fun s h=>Cy h),A,hi];exact⟨C,b,B,u⟩
  .exact h.elim
 |uw x=>
  simp only[AC.wp]at h|-;split at h
  .rename_i t A
   try simp only[A]
   refine Au h rfl rfl fun env2 w E u=>?_;simp only[AC.wp,w.val (x:=x) (fun s h=>h),A];exact u
  .exact h.elim
 |uJ x=>
  simp only[AC.wp]at h|-;split at h
  .rename_i t d A
   try simp only[A]
   refine ⟨h.1,h.2,.none,rfl,trivial,by simp,by simp,(fun s he=>by cases he),fun _=>⟨rfl,fun d' hd=>?_⟩,by simp,fun env2 w E u=>?_⟩
   .simp only[se]at hd;subst hd;exact h.1
   .simp only[AC.wp,w.val (x:=x) (fun s h=>h),A];exact⟨w.new rfl _ rfl h.1,u⟩
  .exact h.elim
 |mm mx x y=>
  simp only[AC.wp]at h|-;split at h
  .rename_i k a k' b A W
   try simp only[A,W]
   refine ⟨h.1,Au h.2 rfl rfl fun env2 w E u=>?_⟩;simp only[AC.wp,w.val (x:=x) (fun s h=>Cc h),w.val (x:=y) (fun s h=>Cy h),A,W];exact⟨h.1,u⟩
  .exact h.elim
 |uV cs=>
  simp only[AC.wp]at h|-;split at h
  .rename_i d;refine⟨h.1,h.2,.none,rfl,trivial,by simp,by simp,(fun s he=>by cases he),fun _=>⟨rfl,fun d' hd=>?_⟩,by simp,fun env2 w E u=>?_⟩
   .simp only[se]at hd;subst hd;exact h.1
   .simp only[AC.wp];exact⟨w.new rfl _ rfl h.1,u⟩
  .exact h.elim
 |st n x v=>cases H
 |uz n s v=>cases H
 |vo s=>cases H
 |vG s=>
  simp only[AC.wp]at h|-;split at h
  .rename_i n es M
   try simp only[M]
   refine ⟨h,.none,rfl,trivial,by simp,by simp,?_,by simp[AC.sg],by simp,fun env2 w E u=>?_⟩
   .intro R he;simp only[EV.sE,se]at he;exact .inl (by simp[AC.t7,he])
   .have B:=(w.sl s (by simp[AC.slots])).xo M;simp only[AC.wp,B];exact u
  .exact h.elim
 |uK x=>
  simp only[AC.wp]at h|-;cases A:x.sv O with
  |none=>rw[A]at h;exact h.elim|some p=>
   rw [A]at h;simp only[AR]at h|-;refine Au h rfl rfl fun env2 w E u=>?_;simp only[AC.wp,w.sv (x:=x) (fun s h=>h),A,AR];exact u
 |vq x=>
  simp only[AC.wp]at h|-;split at h
  .rename_i s F A;cases J:O.nat s F with
   |none=>rw[J]at h;exact h.elim|some es=>
    rw [J]at h;simp only[AR]at h
    try simp only[A,J]
    have G:∃n∈x.sl,O.get n=.bp s F:=by
     cases x with
     |c t=>simp[AD.ev]at A|s n=>exact⟨n,by simp[AD.sl],A⟩
    obtain ⟨n,N,L⟩:=G;refine⟨h,.none,rfl,trivial,by simp,by simp,?_,by simp[AC.sg],by simp,fun env2 w E u=>?_⟩
    .intro R he;simp only[EV.sE,se]at he;subst he;exact .inr ⟨n,N,by rw[L];rfl⟩
    .have C:=(w.ev (x:=x) (fun s h=>h)).bp A;have B:=(w.bp n N s (by rw[L];rfl)).nat F;rw[J]at B;simp only[AC.wp,C,B,AR];exact u
  .exact h.elim
 |vw x=>
  simp only[AC.wp]at h|-;split at h
  .rename_i s F r A;cases J:O.nat s F with
   |none=>rw[J]at h;exact h.elim|some es=>
    rw [J]at h;simp only[AR]at h;obtain⟨Y,h⟩:=h
    try simp only[A,J]
    have G:∃n∈x.sl,O.get n=.nh s F (.el r):=by
     cases x with
     |c t=>simp[AD.ev]at A|s n=>exact⟨n,by simp[AD.sl],A⟩
    obtain ⟨n,N,L⟩:=G;refine⟨Y,h,.none,rfl,trivial,by simp,by simp,?_,by simp[AC.sg],by simp,fun env2 w E u=>?_⟩
    .intro R he;simp only[EV.sE,se]at he;subst he;exact .inr ⟨n,N,by rw[L];rfl⟩
    .have C:=(w.ev (x:=x) (fun s h=>h)).nh A;have B:=(w.bp n N s (by rw[L];rfl)).nat F;rw[J]at B;simp only[AC.wp,C,B,AR];exact⟨Y,u⟩
  .exact h.elim
 |uQ x i=>
  simp only[AC.wp]at h|-;split at h
  .rename_i s F k j A X;cases J:O.nat s F with
   |none=>rw[J]at h;exact h.elim|some es=>
    rw [J]at h;simp only[AR]at h;obtain⟨Y,I,h⟩:=h
    try simp only[A,X,J]
    have G:∃n∈x.sl,O.get n=.nh s F .hd:=by
     cases x with
     |c t=>simp[AD.ev]at A|s n=>exact⟨n,by simp[AD.sl],A⟩
    obtain ⟨n,N,L⟩:=G;refine⟨Y,I,h,.none,rfl,trivial,by simp,by simp,?_,by simp[AC.sg],by simp,fun env2 w E u=>?_⟩
    .intro R he;simp only[EV.sE,se]at he;subst he;exact .inr ⟨n,Cc N,by rw[L];rfl⟩
    .have C:=(w.ev (x:=x) (fun s h=>Cc h)).nh A;have e2:=w.val (x:=i) (fun s h=>Cy h);have B:=(w.bp n (Cc N) s (by rw[L];rfl)).nat F;rw[J]at B;simp only[AC.wp,C,e2,X,B,AR];exact⟨Y,I,u⟩
  .rename_i s F r k j A X;cases J:O.nat s F with
   |none=>rw[J]at h;exact h.elim|some es=>
    rw [J]at h;simp only[AR]at h;obtain⟨Y,fs,I,U,h⟩:=h
    try simp only[A,X,J]
    have G:∃n∈x.sl,O.get n=.nh s F (.rw r):=by
     cases x with
     |c t=>simp[AD.ev]at A|s n=>exact⟨n,by simp[AD.sl],A⟩
    obtain ⟨n,N,L⟩:=G;refine⟨Y,fs,I,U,h,.none,rfl,trivial,by simp,by simp,?_,by simp[AC.sg],by simp,fun env2 w E u=>?_⟩
    .intro R he;simp only[EV.sE,se]at he;subst he;exact .inr ⟨n,Cc N,by rw[L];rfl⟩
    .have C:=(w.ev (x:=x) (fun s h=>Cc h)).nh A;have e2:=w.val (x:=i) (fun s h=>Cy h);have B:=(w.bp n (Cc N) s (by rw[L];rfl)).nat F;rw[J]at B;simp only[AC.wp,C,e2,X,B,AR];exact⟨Y,fs,I,U,u⟩
  .exact h.elim
 |lac x=>
  simp only[AC.wp]at h|-;split at h
  .rename_i s F A;split at h
   .rename_i p J
    try simp only[A,J]
    have G:∃n∈x.sl,O.get n=.bp s F:=by
     cases x with
     |c t=>simp[AD.ev]at A|s n=>exact⟨n,by simp[AD.sl],A⟩
    obtain ⟨n,N,L⟩:=G;refine⟨h,.none,rfl,trivial,by simp,by simp,?_,by simp[AC.sg],by simp,fun env2 w E u=>?_⟩
    .intro R he;simp only[EV.sE,se]at he;subst he;exact .inr ⟨n,N,by rw[L];rfl⟩
    .have C:=(w.ev (x:=x) (fun s h=>h)).bp A;have B:=(w.bp n N s (by rw[L];rfl)).sf (some F);rw[J]at B;simp only[AC.wp,C,B];exact u
   .exact h.elim
  .exact h.elim
 |vQ _=>cases H
 |vk _ _=>cases H
 |cut _ _ _=>cases H
 |ue _ _ _ _=>cases H
 |tM g xs=>
  simp only[AC.wp]at h|-;cases D:Go.Sf.vals O xs with
  |none=>rw[D]at h;exact h.elim|some Q=>
   rw [D]at h;simp only[AR]at h|-;obtain⟨r,C,B⟩:=h;refine⟨r,C,Au B rfl rfl fun env2 w E u=>?_⟩;simp only[AC.wp,w.vals (xs:=xs) (fun s h=>h),D,AR];exact⟨r,C,u⟩
 |tg _ _ _=>cases H
 |ti g xs=>
  simp only[AC.wp]at h|-;cases D:Go.Sf.sP O xs with
  |none=>rw[D]at h;exact h.elim|some Q=>
   rw [D]at h;simp only[AR]at h|-;obtain⟨r,C,B⟩:=h;refine⟨r,C,fun T=>Au (B T) rfl (by cases r<;>rfl) fun env2 w E u=>?_⟩;simp only[AC.wp,w.sP (xs:=xs) (fun s h=>h),D,AR];exact⟨r,C,fun _=>u⟩
 |uc Z x=>
  simp only[AC.wp]at h|-;split at h
  .rename_i t d A
   try simp only[A]
   cases D:Cg Z t.cells with
   |none=>rw[D]at h;exact h.elim|some cs=>
    rw [D]at h;simp only[AR]at h|-;refine⟨h.1,h.2,.none,rfl,trivial,by simp,by simp,(fun s he=>by cases he),fun _=>⟨rfl,fun d' hd=>?_⟩,by simp,fun env2 w E u=>?_⟩
    .simp only[se]at hd;subst hd;exact h.1
    .simp only[AC.wp,w.val (x:=x) (fun s h=>h),A,D,AR];exact⟨w.new rfl _ rfl h.1,u⟩
  .exact h.elim
 |vC x i n=>
  simp only[AC.wp]at h|-;cases A:x.sv O with
  |none=>rw[A]at h;exact h.elim|some p=>
   rw [A]at h;simp only[AR]at h|-;split at h
   .rename_i ik j X
    try simp only[X]
    obtain ⟨⟨C,B⟩,I,U,h5⟩:=h;have G:∃n∈x.sl,(O.get n).sE=some p.1.1:=by
     cases x with
     |c t=>simp[AD.ev,EV.sE]at C|s n=>exact⟨n,by simp[AD.sl],C⟩
    obtain ⟨m,hm',hr⟩:=G;refine⟨⟨C,B⟩,I,U,h5,.none,rfl,trivial,by simp,by simp,?_,by simp[AC.sg],by simp,fun env2 w E u=>?_⟩
    .intro R he;simp only[EV.sE,se]at he;subst he;exact .inr ⟨m,Cc hm',hr⟩
    .have e1:=w.sv (x:=x) (fun s h=>Cc h);have e2:=w.val (x:=i) (fun s h=>Cy h);have e3:=(w.ev (x:=x) (fun s h=>Cc h)).sE;simp only[AC.wp,e1,A,e2,X,AR,e3,C];exact⟨⟨trivial,B⟩,I,U,u⟩
   .exact h.elim
 |xfa x k=>
  simp only[AC.wp]at h|-;split at h
  .rename_i q i c A;split at h
   .rename_i p J
    try simp only[A,J]
    have G:∃n∈x.sl,O.get n=.lp q i c:=by
     cases x with
     |c t=>simp[AD.ev]at A|s n=>exact⟨n,by simp[AD.sl],A⟩
    obtain ⟨n,N,L⟩:=G;refine⟨h,.none,rfl,trivial,by simp,by simp,?_,by simp[AC.sg],by simp,fun env2 w E u=>?_⟩
    .intro R he;simp only[EV.sE,se]at he;subst he;exact .inr ⟨n,N,by rw[L];rfl⟩
    .have C:=(w.ev (x:=x) (fun s h=>h)).vb (q:=q) (by rw[A];rfl);have B:=(w.bp n N q (by rw[L];rfl)).sf i;rw[J]at B;simp only[AC.wp,C,A,B];exact u
   .exact h.elim
  .exact h.elim
 |vL x=>
  simp only[AC.wp]at h|-;split at h
  .rename_i q i c A;split at h
   .rename_i p J
    try simp only[A,J]
    cases D:(p.2.flatMap TV.cells)[c]? with
    |none=>rw[D]at h;exact h.elim|some t=>
     rw [D]at h;simp only[AR]at h|-;have G:∃n∈x.sl,O.get n=.lp q i c:=by
      cases x with
      |c t=>simp[AD.ev]at A|s n=>exact⟨n,by simp[AD.sl],A⟩
     obtain ⟨n,N,L⟩:=G;refine Au h rfl rfl fun env2 w E u=>?_;have C:=(w.ev (x:=x) (fun s h=>h)).vb (q:=q) (by rw[A];rfl);have B:=(w.bp n N q (by rw[L];rfl)).sf i;rw[J]at B;simp only[AC.wp,C,A,B,D,AR];exact u
   .exact h.elim
  .exact h.elim
 |uB _ _ _=>cases H
 |rel _=>cases H
 |ud _=>cases H
 |uR _=>cases H
 |t6 _ _ _=>cases H
 |tj g xs=>
  simp only[AC.wp]at h|-;split at h
  .rename_i d;obtain⟨P,h⟩:=h;refine⟨P,?_⟩;cases D:Go.Sf.vals O xs with
   |none=>rw[D]at h;exact h.elim|some Q=>
    rw [D]at h;simp only[AR]at h|-;obtain⟨n,es,C,B⟩:=h;refine⟨n,es,C,fun T=>⟨B T,.none,rfl,trivial,by simp,by simp,(fun s he=>by cases he),fun _=>⟨rfl,fun d' hd=>?_⟩,by simp,fun env2 w E u=>?_⟩⟩
    .simp only[se]at hd;subst hd;exact P
    .simp only[AC.wp,w.vals (xs:=xs) (fun s h=>h),D,AR];exact⟨w.new rfl _ rfl P,n,es,C,fun _=>u⟩
  .exact h.elim
 |uv n z x=>
  simp only[AC.wp]at h|-;split at h
  .rename_i d k j A
   try simp only[A]
   obtain ⟨P,C,B,I⟩:=h;refine⟨P,C,B,I,.none,rfl,trivial,by simp,by simp,(fun s he=>by cases he),fun _=>⟨rfl,fun d' hd=>?_⟩,by simp,fun env2 w E u=>?_⟩
   .simp only[se]at hd;subst hd;exact P
   .simp only[AC.wp,w.val (x:=x) (fun s h=>h),A];exact⟨w.new rfl _ rfl P,C,B,u⟩
  .exact h.elim
 |tD _ _=>cases H
 |tF _ _=>cases H
 |sZ _=>cases H
 |ut _=>cases H
 |tK _ _=>cases H
 |uU _ _=>cases H
 |uL _=>cases H
 |tG _ _ _=>cases H
 |vO _ _=>cases H
 |vj _ _ _ _=>cases H
 |uT=>cases H
 |vh _=>cases H
 |tB _ _=>cases H
 |vI _ _ _=>cases H
 |vf _ _ _ _=>cases H
 |su _ _=>cases H
 |vB _=>cases H
 |vu _=>cases H
 |ub _=>cases H
 |stx _ _ _=>cases H
 |vn _=>cases H
 |tN g xs=>
  simp only[AC.wp]at h|-;cases D:Go.Sf.vals O xs with
  |none=>rw[D]at h;exact h.elim|some Q=>
   rw [D]at h;simp only[AR]at h|-;obtain⟨r,C,B⟩:=h;refine⟨r,C,fun T=>Au (B T) rfl rfl fun env2 w E u=>?_⟩;simp only[AC.wp,w.vals (xs:=xs) (fun s h=>h),D,AR];exact⟨r,C,fun _=>u⟩
 |tw g xs=>
  simp only[AC.wp]at h|-;cases D:Go.Sf.vals O xs with
  |none=>rw[D]at h;exact h.elim|some Q=>
   rw [D]at h;simp only[AR]at h|-;obtain⟨r,C,I,B⟩:=h;refine⟨r,C,I,fun T=>Au (B T) rfl rfl fun env2 w E u=>?_⟩;simp only[AC.wp,w.vals (xs:=xs) (fun s h=>h),D,AR];exact⟨r,C,I,fun _=>u⟩
 |ux x k n agg=>
  simp only[AC.wp]at h|-;split at h
  .rename_i cs A
   try simp only[A]
   obtain ⟨C,B⟩:=h;refine⟨C,?_⟩;cases agg with
   |true=>
    simp only[if_true]at B|-;refine Au B rfl rfl fun env2 w E u=>?_;simp only[AC.wp,w.val (x:=x) (fun s h=>h),A,if_true];exact⟨C,u⟩
   |false=>
    simp only[Bool.false_eq_true,if_false]at B|-;cases D:ED (cs.drop k)with
    |none=>rw[D]at B;exact B.elim|some t=>
     rw [D]at B;simp only[AR]at B|-;refine Au B rfl rfl fun env2 w E u=>?_;simp only[AC.wp,w.val (x:=x) (fun s h=>h),A,Bool.false_eq_true,if_false,D,AR];exact⟨C,u⟩
  .exact h.elim
end
end Go.Sf
