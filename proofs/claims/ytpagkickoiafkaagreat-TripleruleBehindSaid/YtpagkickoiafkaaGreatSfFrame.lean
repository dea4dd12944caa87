/- What an operation leans on: the slots that it reads, whether or not they own their lists. -/
import Derived.Test.YtpagkickoiafkaaGreatSfCode
set_option linter.all false
open Option renaming some->Y,none->W
open Bool renaming true->X,false->T
open List renaming map_map->l!,getElem?_map->l?,mem_append->m_,map_drop->m?
namespace Go.Sf
theorem YK{cs ds:List AI}(h:ds.map AI.key=cs.map AI.key):ds.map (·.t)=cs.map (·.t):=by
 have:=congrArg (List.map Prod.fst) h;simpa[l!,Function.comp_def,AI.key]using this
def Tg(p:TV×Bool):TV:=match p with
 |(.xl n es,X)=>.list n es|p=>p.1
theorem SX{cs ds:List AI}(h:ds.map AI.key=cs.map AI.key):ds.map AI.mg=cs.map AI.mg:=by
 have a:∀c:AI,c.mg=Tg c.key:=by
  rintro ⟨_|_,t⟩<;>cases t<;>rfl
 have:=congrArg (List.map Tg) h;simpa[l!,Function.comp_def,<-a]using this
def dR(p:TV×Bool):Option (Nat×Fq):=match p with
 |(.xl n es,X)=>Y (n,es)|_=>W
theorem aS{cs ds:List AI}(h:ds.map AI.key=cs.map AI.key)(k:Nat):(match ds[k]? with
  |some ⟨X,.xl n es⟩=>Y (n,es)|_=>W)=(match cs[k]? with
  |some ⟨X,.xl n es⟩=>Y (n,es)|_=>W):=by
 have a:∀o:Option AI,(match o with
  |some ⟨X,.xl n es⟩=>Y (n,es)|_=>W)=(o.map AI.key).bind dR:=by
  rintro (_|⟨_|_,t⟩)
  .rfl
  .cases t<;>rfl
  .cases t<;>rfl
 rw [a,a];have:=congrArg (λl=>l[k]?) h;simp only[l?]at this;rw[this]
def dT(p:TV×Bool):Option Fq:=match p with
 |(.xn es,X)=>Y es|_=>W
theorem aT{cs ds:List AI}(h:ds.map AI.key=cs.map AI.key)(k:Nat):(match ds[k]? with
  |some ⟨X,.xn es⟩=>Y es|_=>W)=(match cs[k]? with
  |some ⟨X,.xn es⟩=>Y es|_=>W):=by
 have a:∀o:Option AI,(match o with
  |some ⟨X,.xn es⟩=>Y es|_=>W)=(o.map AI.key).bind dT:=by
  rintro (_|⟨_|_,t⟩)
  .rfl
  .cases t<;>rfl
  .cases t<;>rfl
 rw [a,a];have:=congrArg (λl=>l[k]?) h;simp only[l?]at this;rw[this]
def EV.like(e e2:EV):Prop:=
 e2=e\/(∃n es,(e=.tv (.list n es)/\e2=.ow (.list n es))\/(e=.ow (.list n es)/\e2=.tv (.list n es)))\/∃cs ds,e=.bx cs/\e2=.bx ds/\ds.map AI.key=cs.map AI.key
theorem EV.like.rfl'(e:EV):e.like e:=.inl rfl
variable{e e2:EV}
theorem EV.like.symm(h:e.like e2):e2.like e:=by
 rcases h with rfl|⟨n,es,⟨rfl,rfl⟩|⟨rfl,rfl⟩⟩|⟨cs,ds,rfl,rfl,h⟩
 .exact .inl rfl
 .exact .inr (.inl ⟨n,es,.inr ⟨rfl,rfl⟩⟩)
 .exact .inr (.inl ⟨n,es,.inl ⟨rfl,rfl⟩⟩)
 .exact .inr (.inr ⟨ds,cs,rfl,rfl,h.symm⟩)
theorem EV.like.jZ(h:e.like e2):e2.jZ=e.jZ:=by
 rcases h with rfl|⟨n,es,⟨rfl,rfl⟩|⟨rfl,rfl⟩⟩|⟨cs,ds,rfl,rfl,h⟩<;>rfl
variable{q:Nat}
theorem EV.like.l6(h:e.like e2)(a:e.jZ=Y q):e2=e:=by
 rcases h with rfl|⟨n,es,⟨rfl,rfl⟩|⟨rfl,rfl⟩⟩|⟨cs,ds,rfl,rfl,h⟩
 .rfl
 .cases a
 .cases a
 .cases a
theorem EV.like.xo(h:e.like e2){n:Nat}{es:Fq}(he:e=.xo n es):e2=.xo n es:=by
 subst he;rcases h with rfl|⟨n,es,⟨h,_⟩|⟨h,_⟩⟩|⟨cs,ds,h,_⟩
 .rfl
 .cases h
 .cases h
 .cases h
theorem EV.like.val(h:e.like e2):e2.val=e.val:=by
 rcases h with rfl|⟨n,es,⟨rfl,rfl⟩|⟨rfl,rfl⟩⟩|⟨cs,ds,rfl,rfl,h⟩<;>rfl
theorem EV.like.pt(h:e.like e2){row:Fq}(he:e=.tv (.pt row)):e2=.tv (.pt row):=by
 subst he;rcases h with rfl|⟨n,es,⟨h,rfl⟩|⟨h,rfl⟩⟩|⟨cs,ds,h,rfl,a⟩
 .rfl
 .simp at h
 .cases h
 .cases h
theorem EV.like.bp(h:e.like e2){q a:Nat}(he:e=.bp q a):e2=.bp q a:=by
 subst he;rcases h with rfl|⟨n,es,⟨h,rfl⟩|⟨h,rfl⟩⟩|⟨cs,ds,h,rfl,b⟩
 .rfl
 .cases h
 .cases h
 .cases h
theorem EV.like.tp(h:e.like e2){a:Fq}(he:e=.tp a):e2=.tp a:=by
 subst he;rcases h with rfl|⟨n,es,⟨h,rfl⟩|⟨h,rfl⟩⟩|⟨cs,ds,h,rfl,b⟩
 .rfl
 .cases h
 .cases h
 .cases h
theorem EV.like.bx(h:e.like e2){cs:List AI}(he:e=.bx cs):∃ds,e2=.bx ds/\ds.map AI.key=cs.map AI.key:=by
 subst he;rcases h with rfl|⟨n,es,⟨h,rfl⟩|⟨h,rfl⟩⟩|⟨cs',ds,h,rfl,a⟩
 .exact⟨cs,rfl,rfl⟩
 .cases h
 .cases h
 .simp only[EV.bx.injEq]at h;subst h;exact⟨ds,rfl,a⟩
def AC.sl:AC->Ne
 |.s n=>[n]|.c _=>[]
def Qh:Option AC->Ne
 |some x=>x.sl|none=>[]
def Bi:List AC->Ne
 |[]=>[]|x::xs=>x.sl++Bi xs
def KH:List (Nat×Nat×AC)->Ne
 |[]=>[]|x::xs=>x.2.2.sl++KH xs
def AB.slots:AB->Ne
 |.mv x=>x.sl|.tk s=>[s]|.mr _=>[]|.kK x _=>x.sl|.bad s _=>[s]|.l4 x i _=>x.sl++i.sl|.mZ x i _ _=>x.sl++i.sl|.ld x=>x.sl|.mn x _=>x.sl|.nM s _=>[s]|.nK x=>x.sl|.bin _ _ x y=>x.sl++y.sl|.not x=>x.sl|.neg x=>x.sl|.pick c a b=>c.sl++(a.sl++b.sl)|.len x=>x.sl|.mR x=>x.sl|.lx _ x lo hi=>x.sl++(Qh lo++Qh hi)|.k8 x lo hi=>x.sl++(Qh lo++Qh hi)|.ma _ ps=>KH ps|.mE _ ps=>Bi ps|.app _ x y=>x.sl++y.sl|.call _ xs=>Bi xs|.l8 x xs=>x.sl++Bi xs|.kL _ xs=>Bi xs|.ext x _=>x.sl|.mt _ x=>x.sl|.kQ x i=>x.sl++i.sl|.mq x=>x.sl|.mG x=>x.sl|.mm _ x y=>x.sl++y.sl|.mP _=>[]|.st _ x v=>x.sl++v.sl|.mh _ s v=>s::v.sl|.nk s=>[s]|.mF x _ _ _=>x.sl|.nm s=>[s]|.mz x=>x.sl|.nB x i _=>x.sl++i.sl|.xfa x _=>x.sl|.nv x=>x.sl|.mf x v _=>x.sl++v.sl|.rel s=>[s]|.mc _=>[]|.l9 _=>[]|.mO s=>[s]|.lL _ s y=>s::y.sl|.kW _ xs=>Bi xs|.lY _ _ x=>x.sl|.nF _ _ x=>x.sl|.kU _ x ys=>x.sl++Bi ys|.lu _ x=>x.sl|.ky gs=>gs.flatMap GC.sl|.stx _ s q=>[s,q]|.lH _ xs=>Bi xs|.kS _ xs=>Bi xs|.ni x=>x.sl|.nI x _=>x.sl|.nP x _=>x.sl|.nH x=>x.sl|.m8 x=>x.sl|.nA x q=>x.sl++[q]|.cut _ s hi=>s::hi.sl|.k9 _ xs=>Bi xs|.ml _ x=>x.sl|.md _ s _ x=>s::x.sl|.lJ _ xs=>Bi xs|.kD _ xs _=>Bi xs|.mj q=>[q]|.k7 s q=>[s,q]|.nD x=>x.sl|.mL x i=>x.sl++i.sl|.ng x=>x.sl|.mK x v=>x.sl++v.sl|.mH q=>[q]|.lc _ xs _=>Bi xs|.ldg s _=>[s]|.nj _ _ x v=>x.sl++v.sl|.mJ=>[]|.nG s=>[s]|.kX _ xs=>Bi xs|.nN s m x=>s::(m.sl++x.sl)|.nf s m x v=>s::(m.sl++(x.sl++v.sl))|.j7 s m=>s::m.sl|.nC s=>[s]|.nE s=>[s]|.nJ x i _=>x.sl++i.sl|.nu x=>x.sl
def AB.me:AB->Ne
 |.tk s=>[s]|.app _ x _=>x.sl|_=>[]
def AB.mov:AB->Bool
 |.st ..=>T|.mh ..=>T|.nk _=>T|.mf ..=>T|.rel _=>T|.mc _=>T|.l9 _=>T|.mO _=>T|.lL ..=>T|.kU ..=>T|.lu ..=>T|.ky _=>T|.stx ..=>T|.ni _=>T|.m8 _=>T|.nA ..=>T|.cut ..=>T|.md ..=>T|.kD ..=>T|.mj _=>T|.k7 ..=>T|.mK ..=>T|.mH _=>T|.lc ..=>T|.ldg ..=>T|.nj ..=>T|.mJ=>T|.nG _=>T|.kX ..=>T|.nN ..=>T|.nf ..=>T|.j7 ..=>T|.nC _=>T|.nE _=>T|_=>X
def AB.jY:AB->Bool
 |.mP _=>X|.mG _=>X|.ml ..=>X|.kW ..=>X|.lY ..=>X|.nF ..=>X|_=>T
def AB.lG:AB->Ne
 |.bad s _=>[s]|.nm s=>[s]|_=>[]
inductive An where
 |none
 |slot (s:Nat) (t:TV)
 |cell (s off:Nat) (t:TV)
def An.app:An->AA->AA
 |.none,O=>O|.slot s t,O=>(s,.tv t)::O|.cell s off t,O=>match O.get s with
  |.bx cs=>(s,.bx (cs.set off ⟨T,t⟩))::O|_=>O
def An.ok:An->AA->Prop
 |.none,_=>True|.slot s t,O=>O.get s=.ow t|.cell s off t,O=>∃cs,O.get s=.bx cs/\cs[off]?=Y ⟨X,t⟩
structure CO(op:AB)(f:An)(dst:Option Nat)(O env2:AA):Prop where
 sl:∀s∈op.slots,(O.get s).like (env2.get s)
 bp:∀s∈op.slots,∀q,(O.get s).jZ=Y q->(O.get q).like (env2.get q)
 me:∀s∈op.me,(∀cs,O.get s≠.bx cs)->env2.get s=O.get s
 eff:f.ok env2
 new:op.jY=X->∀d,dst=Y d->O.je d=X->env2.je d=X
section
variable{op:AB}{f:An}{dst:Option Nat}{O env2:AA}
variable{x:AC}
theorem CO.val(h:CO op f dst O env2)(a:∀s∈x.sl,s∈op.slots):x.val env2=x.val O:=by
 cases x with
 |c t=>rfl|s n=>exact(h.sl n (a n a!)).val
theorem CO.ev(h:CO op f dst O env2)(a:∀s∈x.sl,s∈op.slots):(x.ev O).like (x.ev env2):=by
 cases x with
 |c t=>exact .inl rfl|s n=>exact h.sl n (a n a!)
theorem CO.vals(h:CO op f dst O env2):∀{xs:List AC},(∀s∈Bi xs,s∈op.slots)->Go.Sf.vals env2 xs=Go.Sf.vals O xs
 |[],_=>rfl|x::xs,b=>by
  simp only[Bi,m_]at b;simp only[Go.Sf.vals,h.val (x:=x) (λs a=>b s (.inl a)),h.vals (xs:=xs) (λs a=>b s (.inr a))]
theorem CO.parts(h:CO op f dst O env2):∀{xs:List (Nat×Nat×AC)},(∀s∈KH xs,s∈op.slots)->CS env2 xs=CS O xs
 |[],_=>rfl|(i,n,x)::xs,b=>by
  simp only[KH,m_]at b;simp only[CS,h.val (x:=x) (λs a=>b s (.inl a)),h.parts (xs:=xs) (λs a=>b s (.inr a))]
theorem CO.nx(h:CO op f dst O env2){x:Option AC}{k:Int}(a:∀s∈Qh x,s∈op.slots):Dc env2 k x=Dc O k x:=by
 cases x with
 |none=>rfl|some x=>exact h.val a
theorem CO.addr(h:CO op f dst O env2)(j:∀s∈x.sl,s∈op.slots):Ao env2 (x.ev env2)=Ao O (x.ev O):=by
 cases x with
 |c t=>cases t<;>rfl
 |s n=>
  have g:=j n a!;have a:=h.sl n g;have i:=h.bp n g;simp only[AC.ev];generalize O.get n=e at a i;generalize env2.get n=e2 at a;rcases a with rfl|⟨n,es,⟨rfl,rfl⟩|⟨rfl,rfl⟩⟩|⟨cs,ds,rfl,rfl,d⟩
  .cases e2 with
   |bp q k=>
    have b:=i q rfl;simp only[Ao];generalize O.get q=e1 at b;generalize env2.get q=e2 at b;rcases b with rfl|⟨n,es,⟨rfl,rfl⟩|⟨rfl,rfl⟩⟩|⟨cs,ds,rfl,rfl,d⟩
    .rfl
    .rfl
    .rfl
    .simp only[m?,YK d]
   |tv t=>cases t<;>rfl
   |_=>rfl
  .rfl
  .rfl
  .simp only[Ao,YK d]
theorem CO.place(h:CO op f dst O env2)(d:∀s∈x.sl,s∈op.slots):x.place env2=x.place O:=by
 cases x with
 |c t=>rfl|s n=>
  have g:=h.sl n (d n a!);simp only[AC.place];rcases g with a|⟨n,es,⟨a,b⟩|⟨a,b⟩⟩|⟨cs,ds,a,b,_⟩
  .rw[a]
  .rw[a,b]
  .rw[a,b]
  .rw[a,b]
variable{q:Nat}
theorem EV.like.jT{O env2:AA}(h:(O.get q).like (env2.get q))(i:Option Nat):env2.jT q i=O.jT q i:=by
 rcases h with a|⟨n,es,⟨a,b⟩|⟨a,b⟩⟩|⟨cs,ds,a,b,c⟩
 .exact AA.kE a
 .cases i<;>simp only[AA.jT,a,b]
 .cases i<;>simp only[AA.jT,a,b]
 .cases i with
  |none=>simp only[AA.jT,a,b]|some k=>simp only[AA.jT,a,b];exact aS c k
theorem EV.like.nat{O env2:AA}(h:(O.get q).like (env2.get q))(i:Nat):env2.nat q i=O.nat q i:=by
 rcases h with a|⟨n,es,⟨a,b⟩|⟨a,b⟩⟩|⟨cs,ds,a,b,c⟩
 .exact AA.kM a
 .simp only[AA.nat,a,b]
 .simp only[AA.nat,a,b]
 .simp only[AA.nat,a,b];exact aT c i
variable{e e2:EV}
theorem EV.like.nh(h:e.like e2){q i:Nat}{k:NK}(he:e=.nh q i k):e2=.nh q i k:=by
 subst he;exact h.l6 rfl
theorem CO.kc(h:CO op f dst O env2)(g:∀s∈x.sl,s∈op.slots):x.kc env2=x.kc O:=by
 cases x with
 |c t=>rfl|s n=>
  have d:=g n a!;have j:=h.sl n d;have k:=h.bp n d;simp only[AC.kc];rcases j with a|⟨m,es,⟨a,b⟩|⟨a,b⟩⟩|⟨cs,ds,a,b,_⟩
  .rw[a];cases he:O.get n with
   |la q i=>simp only[(k q (by rw[he];rfl)).jT i]|_=>rfl
  .rw[a,b]
  .rw[a,b]
  .rw[a,b]
theorem CO.mC(h:CO op f dst O env2)(i:∀s∈x.sl,s∈op.slots):x.mC env2=x.mC O:=by
 unfold AC.mC;rw[h.kc i];cases x.kc O with
 |some p=>rfl|none=>
  cases x with
  |c t=>cases t<;>rfl
  |s n=>
   have j:=i n a!;have k:=h.sl n j;have o:=h.bp n j;simp only[AC.ev];rcases k with a|⟨m,es,⟨a,d⟩|⟨a,d⟩⟩|⟨cs,ds,a,d,u⟩
   .rw[a];cases he:O.get n with
    |bp q w=>
     have r:=o q (by rw[he];rfl);simp only;rcases r with b|⟨m,es,⟨b,g⟩|⟨b,g⟩⟩|⟨cs,ds,b,g,v⟩
     .rw[b]
     .rw[b,g]
     .rw[b,g]
     .rw[b,g];have:=SX v;simp only[m?,this]
    |_=>rfl
   .rw[a,d];rfl
   .rw[a,d];rfl
   .rw[a,d];simp only[SX u]
theorem CO.kz(h:CO op f dst O env2):∀{xs:List AC},(∀s∈Bi xs,s∈op.slots)->Go.Sf.kz env2 xs=Go.Sf.kz O xs
 |[],_=>rfl|x::xs,b=>by
  simp only[Bi,m_]at b;simp only[Go.Sf.kz,h.mC (x:=x) (λs a=>b s (.inl a)),h.kz (xs:=xs) (λs a=>b s (.inr a))]
end
structure U9(S:FuncId->Fq->AZ->Prop)(op:AB)(dst:Option Nat)(O:AA)(e:EV)(env':AA)(f:An):Prop where
 env':env'=f.app O
 ok:f.ok O
 slot:∀s t,f=.slot s t->s∈op.me
 cell:∀s off t,f=.cell s off t->(s∈op.slots\/∃x∈op.slots,(O.get x).jZ=Y s)
 jZ:∀s,e.jZ=Y s->(s∈op.lG\/∃x∈op.slots,(O.get x).jZ=Y s)
 new:op.jY=X->e.jZ=W/\∀d,dst=Y d->O.je d=X
 xl:∀s off t,f=.cell s off t->t.kR=T
 again:∀env2,CO op f dst O env2->∀K2:EV->AA->Prop,K2 e (f.app env2)->op.wp S env2 dst K2
section
variable{S:FuncId->Fq->AZ->Prop}{op:AB}{dst:Option Nat}{O:AA}{K:EV->AA->Prop}
variable{e:EV}
theorem Al(b:K e O)(c:op.jY=T)(d:e.jZ=W)(h:∀env2,CO op .none dst O env2->∀a:EV->AA->Prop,a e env2->op.wp S env2 dst a):K e O/\∃f,U9 S op dst O e O f:=
 ⟨b,.none,rfl,trivial,V,V,(λs he=>by rw[d]at he;cases he),by simp[c],V,h⟩
variable{α:Type}{l m:List α}
theorem B0{x:α}(h:x∈m):x∈l++m:=List.mem_append_right _ h
theorem Bk{x:α}(h:x∈l):x∈l++m:=List.mem_append_left _ h
theorem frame(J:op.mov=X)(h:op.wp S O dst K):op.wp S O dst λe env'=>K e env'/\∃f,U9 S op dst O e env' f:=by
 cases op with
 |mv x=>
  simp only[AB.wp]at h|-;have key:∀t,(x.ev O).val=Y t->∀env2,CO (.mv x) .none dst O env2->∀E:EV->AA->Prop,E (.tv t) env2->(AB.mv x).wp S env2 dst E:=by
   intro t ht env2 w E u;have hv:=w.val (x:=x) (λs h=>h);simp only[AC.val]at hv;rw[ht]at hv;simp only[AB.wp];cases he:x.ev env2<;>rw[he]at hv<;>simp[EV.val]at hv<;>subst hv<;>exact u
  split at h
  .rename_i t A
   try simp only[A]
   exact Al h rfl rfl (key t h?)
  .rename_i t A
   try simp only[A]
   exact Al h rfl rfl (key t h?)
  .rename_i Q A
   try simp only[A]
   refine Al h rfl rfl λenv2 w E u=>?_;cases x with
   |c t=>simp[AC.ev]at A|s n=>
    simp only[AC.ev]at A;have B:env2.get n=.tp Q:=(w.sl n j_).tp A;simp only[AB.wp,AC.ev,B];exact u
  .exact h.elim
 |tk s=>
  simp only[AB.wp]at h|-;split at h
  .rename_i t P
   try simp only[P]
   refine ⟨h,.slot s t,rfl,P,?_,V,(λs he=>g!),d_,V,λenv2 w E u=>?_⟩
   .intro R t' he;simp only[An.slot.injEq]at he;simp[AB.me,he.1]
   .have:=w.eff;simp only[An.ok]at this;simp only[AB.wp,this];exact u
  .rename_i t P
   try simp only[P]
   refine Al h rfl rfl λenv2 w E u=>?_;have:=w.me s (by simp[AB.me]) (by simp[P]);simp only[AB.wp,this,P];exact u
  .exact h.elim
 |mr n=>exact Al h rfl rfl λenv2 w E u=>u|kK x k=>
  simp only[AB.wp]at h|-;split at h
  .rename_i row A
   try simp only[A]
   refine Al h rfl rfl λenv2 w E u=>?_;have:=(w.ev (x:=x) (λs h=>h)).pt A;simp only[AB.wp,this];exact u
  .rename_i s F A;split at h
   .rename_i cs P
    try simp only[A,P]
    have G:∃n∈x.sl,O.get n=.bp s F:=by
     cases x with
     |c t=>simp[AC.ev]at A|s n=>exact⟨n,a!,A⟩
    obtain ⟨n,M,L⟩:=G;refine⟨h,.none,rfl,trivial,V,V,?_,d_,V,λenv2 w E u=>?_⟩
    .intro R he;simp only[EV.jZ,jR]at he;subst he;exact .inr ⟨n,M,c!⟩
    .have C:=(w.ev (x:=x) (λs h=>h)).bp A;have B:=w.bp n M s c!;rw[P]at B;obtain⟨ds,I,_⟩:=B.bx rfl;simp only[AB.wp,C,I];exact u
   .exact h.elim
  .exact h.elim
 |bad s k=>
  simp only[AB.wp]at h|-;split at h
  .rename_i cs P
   try simp only[P]
   refine ⟨h,.none,rfl,trivial,V,V,?_,d_,V,λenv2 w E u=>?_⟩
   .intro R he;simp only[EV.jZ,jR]at he;exact .inl (by simp[AB.lG,he])
   .have B:=w.sl s b!;rw[P]at B;obtain⟨ds,I,_⟩:=B.bx rfl;simp only[AB.wp,I];exact u
  .rename_i row P
   try simp only[P]
   refine Al h rfl rfl λenv2 w E u=>?_;have:=(w.sl s b!).pt P;simp only[AB.wp,this];exact u
  .exact h.elim
 |l4 x i n=>
  simp only[AB.wp]at h|-;split at h
  .rename_i m es k j A hi
   try simp only[A,hi]
   obtain ⟨C,B,e,I,ε⟩:=h;refine⟨C,B,e,I,Al ε rfl rfl λenv2 w E u=>?_⟩;simp only[AB.wp,w.val (x:=x) (λs h=>Bk h),w.val (x:=i) (λs h=>B0 h),A,hi];exact⟨C,B,e,I,u⟩
  .exact h.elim
 |mZ x i n k=>
  simp only[AB.wp]at h|-;split at h
  .rename_i row kk j A hi
   try simp only[A,hi]
   obtain ⟨C,B,I,ε⟩:=h;refine⟨C,B,I,Al ε rfl rfl λenv2 w E u=>?_⟩;have:=(w.ev (x:=x) (λs h=>Bk h)).pt A;simp only[AB.wp,this,w.val (x:=i) (λs h=>B0 h),hi];exact⟨C,B,I,u⟩
  .exact h.elim
 |ld x=>
  simp only[AB.wp]at h|-;cases D:Ao O (x.ev O)with
  |none=>rw[D]at h;exact h.elim|some cs=>
   rw [D]at h;simp only[AS]at h|-;cases hf:Cd cs with
   |none=>rw[hf]at h;exact h.elim|some t=>
    rw [hf]at h;refine⟨h.1,Al h.2 rfl rfl λenv2 w E u=>?_⟩;simp only[AB.wp,w.addr (x:=x) (λs h=>h),D,AS,hf];exact⟨h.1,u⟩
 |mn x n=>
  simp only[AB.wp]at h|-;cases D:Ao O (x.ev O)with
  |none=>rw[D]at h;exact h.elim|some cs=>
   rw [D]at h;simp only[AS]at h|-;refine⟨h.1,Al h.2 rfl rfl λenv2 w E u=>?_⟩;simp only[AB.wp,w.addr (x:=x) (λs h=>h),D,AS];exact⟨h.1,u⟩
 |nM s n=>
  simp only[AB.wp]at h|-;split at h
  .rename_i cs D
   try simp only[D]
   refine ⟨h.1,Al h.2 rfl rfl λenv2 w E u=>?_⟩;have C:=w.addr (x:=.s s) (λs h=>h);obtain⟨ds,I,_⟩:=(w.sl s b!).bx D;simp only[AC.ev,D,I,Ao,jR]at C;simp only[AB.wp,I,C];exact⟨h.1,u⟩
  .exact h.elim
 |nK x=>
  simp only[AB.wp]at h|-;split at h
  .rename_i s F ζ;split at h
   .rename_i cs P;split at h
    .rename_i n es D
     try simp only[ζ,P,D]
     refine ⟨h,.cell s F (.list n es),by simp[An.app,P],⟨cs,P,D⟩,V,?_,(λs he=>g!),d_,(λs F t he=>by cases he;rfl),λenv2 w E u=>?_⟩
     .intro R off' t' he;simp only[An.cell.injEq]at he;obtain⟨rfl,rfl,rfl⟩:=he;cases x with
      |c t=>simp[AC.place]at ζ|s n=>
       simp only[AC.place]at ζ;split at ζ
       next q o H=>simp only[jR,Prod.mk.injEq]at ζ;exact .inr ⟨n,j_,by rw[H,ζ.1];rfl⟩
       .simp only[jR,Prod.mk.injEq]at ζ;exact .inl (by simp[AB.slots,AC.sl,ζ.1])
       .cases ζ
     .obtain⟨ds,C,B⟩:=w.eff;simp only[An.app,C]at u;simp only[AB.wp,w.place (x:=x) (λs h=>h),ζ,C,B];exact u
    .exact h.elim
   .exact h.elim
  .exact h.elim
 |bin k op x y=>
  simp only[AB.wp]at h|-;split at h
  .rename_i a b A δ
   try simp only[A,δ]
   cases L:Gc k op a b with
   |none=>rw[L]at h;exact h.elim|some t=>
    rw [L]at h;refine Al h rfl rfl λenv2 w E u=>?_;simp only[AB.wp,w.val (x:=x) (λs h=>Bk h),w.val (x:=y) (λs h=>B0 h),A,δ,L,AS];exact u
  .exact h.elim
 |not x=>
  simp only[AB.wp]at h|-;split at h
  .rename_i b A
   try simp only[A]
   refine Al h rfl rfl λenv2 w E u=>?_;simp only[AB.wp,w.val (x:=x) (λs h=>h),A];exact u
  .exact h.elim
 |neg x=>
  simp only[AB.wp]at h|-;split at h
  .rename_i k n A
   try simp only[A]
   refine Al h rfl rfl λenv2 w E u=>?_;simp only[AB.wp,w.val (x:=x) (λs h=>h),A];exact u
  .exact h.elim
 |pick c a b=>
  simp only[AB.wp]at h|-;split at h
  .rename_i q D
   try simp only[D]
   have key:∀t,((if q=X then a else b).ev O).val=Y t->∀env2,CO (.pick c a b) .none dst O env2->∀E:EV->AA->Prop,E (.tv t) env2->(AB.pick c a b).wp S env2 dst E:=by
    intro t ht env2 w E u;have hv:=w.val (x:=if q=X then a else b) (λs h=>by
     cases q
     .exact B0 (B0 h)
     .exact B0 (Bk h))
    simp only[AC.val]at hv;rw[ht]at hv;simp only[AB.wp,w.val (x:=c) (λs h=>Bk h),D];cases he:(if q=X then a else b).ev env2<;>rw[he]at hv<;>simp[EV.val]at hv<;>subst hv<;>exact u
   split at h
   .rename_i t A
    try simp only[A]
    exact Al h rfl rfl (key t h?)
   .rename_i t A
    try simp only[A]
    exact Al h rfl rfl (key t h?)
   .exact h.elim
  .exact h.elim
 |len x=>
  simp only[AB.wp]at h|-;split at h
  .rename_i n es A
   try simp only[A]
   refine Al h rfl rfl λenv2 w E u=>?_;simp only[AB.wp,w.val (x:=x) (λs h=>h),A];exact u
  .exact h.elim
 |nI x k=>
  simp only[AB.wp]at h|-;split at h
  .rename_i row A
   try simp only[A]
   refine Al h rfl rfl λenv2 w E u=>?_;simp only[AB.wp,w.val (x:=x) (λs h=>h),A];exact u
  .exact h.elim
 |nP x n=>
  simp only[AB.wp]at h|-;split at h
  .rename_i row A
   try simp only[A]
   refine ⟨h.1,Al h.2 rfl rfl λenv2 w E u=>?_⟩;simp only[AB.wp,w.val (x:=x) (λs h=>h),A];exact⟨h.1,u⟩
  .exact h.elim
 |mR x=>
  simp only[AB.wp]at h|-;split at h
  .rename_i s A
   try simp only[A]
   refine Al h rfl rfl λenv2 w E u=>?_;simp only[AB.wp,w.val (x:=x) (λs h=>h),A];exact u
  .exact h.elim
 |lx n x lo hi=>
  simp only[AB.wp]at h|-;split at h
  .rename_i m es A
   try simp only[A]
   split at h
   .rename_i k1 l k2 hh C B
    try simp only[C,B]
    refine ⟨h.1,h.2.1,Al h.2.2 rfl rfl λenv2 w E u=>?_⟩;simp only[AB.wp,w.val (x:=x) (λs h=>Bk h),A,w.nx (x:=lo) (λs h=>B0 (Bk h)),w.nx (x:=hi) (λs h=>B0 (B0 h)),C,B];exact⟨h.1,h.2.1,u⟩
   .exact h.elim
  .exact h.elim
 |k8 x lo hi=>
  simp only[AB.wp]at h|-;split at h
  .rename_i str A
   try simp only[A]
   split at h
   .rename_i k1 l k2 hh C B
    try simp only[C,B]
    refine ⟨h.1,h.2.1,h.2.2.1,Al h.2.2.2 rfl rfl λenv2 w E u=>?_⟩;simp only[AB.wp,w.val (x:=x) (λs h=>Bk h),A,w.nx (x:=lo) (λs h=>B0 (Bk h)),w.nx (x:=hi) (λs h=>B0 (B0 h)),C,B];exact⟨h.1,h.2.1,h.2.2.1,u⟩
   .exact h.elim
  .exact h.elim
 |ma zero ps=>
  simp only[AB.wp]at h|-;cases D:CS O ps with
  |none=>rw[D]at h;exact h.elim|some Q=>
   rw [D]at h;simp only[AS]at h|-;cases hf:CX zero Q with
   |none=>rw[hf]at h;exact h.elim|some cs=>
    rw [hf]at h;refine Al h rfl rfl λenv2 w E u=>?_;simp only[AB.wp,w.parts (xs:=ps) (λs h=>h),D,AS,hf];exact u
 |mE n ps=>
  simp only[AB.wp]at h|-;cases D:Go.Sf.vals O ps with
  |none=>rw[D]at h;exact h.elim|some Q=>
   rw [D]at h;simp only[AS]at h|-;refine⟨h.1,Al h.2 rfl rfl λenv2 w E u=>?_⟩;simp only[AB.wp,w.vals (xs:=ps) (λs h=>h),D,AS];exact⟨h.1,u⟩
 |app n x y=>
  simp only[AB.wp]at h|-;split at h
  .rename_i m es m' fs A δ
   try simp only[A,δ]
   obtain ⟨C,B,I,ε⟩:=h;cases x with
   |c t=>simp[AC.ev]at A|s s=>
    simp only[AC.ev]at A;subst C;refine⟨rfl,B,I,ε,.slot s (.list m es),rfl,A,?_,V,(λs he=>g!),d_,V,λenv2 w E u=>?_⟩
    .intro R t' he;simp only[An.slot.injEq]at he;simp[AB.me,AC.sl,he.1]
    .have:=w.eff;simp only[An.ok]at this;simp only[AB.wp,AC.ev,this,w.val (x:=y) (λs h=>B0 h),δ];exact⟨trivial,B,I,u⟩
  .exact h.elim
 |call g xs=>
  simp only[AB.wp]at h|-;cases D:Go.Sf.vals O xs with
  |none=>rw[D]at h;exact h.elim|some Q=>
   rw [D]at h;simp only[AS]at h|-;obtain⟨r,C,B⟩:=h;refine⟨r,C,λκ=>Al (B κ) rfl (by cases r<;>rfl) λenv2 w E u=>?_⟩;simp only[AB.wp,w.vals (xs:=xs) (λs h=>h),D,AS];exact⟨r,C,λ_=>u⟩
 |l8 x xs=>
  simp only[AB.wp]at h|-;split at h
  .rename_i g caps Q A D
   try simp only[A,D]
   obtain ⟨r,C,B⟩:=h;refine⟨r,C,λκ=>Al (B κ) rfl (by cases r<;>rfl) λenv2 w E u=>?_⟩;simp only[AB.wp,w.val (x:=x) (λs h=>Bk h),w.vals (xs:=xs) (λs h=>B0 h),A,D];exact⟨r,C,λ_=>u⟩
  .exact h.elim
 |kL g xs=>
  simp only[AB.wp]at h|-;cases D:Go.Sf.vals O xs with
  |none=>rw[D]at h;exact h.elim|some Q=>
   rw [D]at h;simp only[AS]at h|-;refine Al h rfl rfl λenv2 w E u=>?_;simp only[AB.wp,w.vals (xs:=xs) (λs h=>h),D,AS];exact u
 |ext x i=>
  simp only[AB.wp]at h|-;split at h
  .rename_i Q A
   try simp only[A]
   cases hf:Q[i]? with
   |none=>rw[hf]at h;exact h.elim|some t=>
    rw [hf]at h;refine Al h rfl rfl λenv2 w E u=>?_;have:=(w.ev (x:=x) (λs h=>h)).tp A;simp only[AB.wp,this,hf,AS];exact u
  .exact h.elim
 |mt k x=>
  simp only[AB.wp]at h|-;split at h
  .rename_i k n A
   try simp only[A]
   refine Al h rfl rfl λenv2 w E u=>?_;simp only[AB.wp,w.val (x:=x) (λs h=>h),A];exact u
  .exact h.elim
 |kQ x i=>
  simp only[AB.wp]at h|-;split at h
  .rename_i str k j A hi
   try simp only[A,hi]
   obtain ⟨C,b,B,I⟩:=h;refine⟨C,b,B,Al I rfl rfl λenv2 w E u=>?_⟩;simp only[AB.wp,w.val (x:=x) (λs h=>Bk h),w.val (x:=i) (λs h=>B0 h),A,hi];exact⟨C,b,B,u⟩
  .exact h.elim
 |mq x=>
  simp only[AB.wp]at h|-;split at h
  .rename_i t A
   try simp only[A]
   refine Al h rfl rfl λenv2 w E u=>?_;simp only[AB.wp,w.val (x:=x) (λs h=>h),A];exact u
  .exact h.elim
 |mG x=>
  simp only[AB.wp]at h|-;split at h
  .rename_i t d A
   try simp only[A]
   refine ⟨h.1,h.2,.none,rfl,trivial,V,V,(λs he=>g!),λ_=>⟨rfl,λd' hd=>?_⟩,V,λenv2 w E u=>?_⟩
   .simp only[jR]at hd;subst hd;exact h.1
   .simp only[AB.wp,w.val (x:=x) (λs h=>h),A];exact⟨w.new rfl _ rfl h.1,u⟩
  .exact h.elim
 |mm mx x y=>
  simp only[AB.wp]at h|-;split at h
  .rename_i k a k' b A δ
   try simp only[A,δ]
   refine ⟨h.1,Al h.2 rfl rfl λenv2 w E u=>?_⟩;simp only[AB.wp,w.val (x:=x) (λs h=>Bk h),w.val (x:=y) (λs h=>B0 h),A,δ];exact⟨h.1,u⟩
  .exact h.elim
 |mP cs=>
  simp only[AB.wp]at h|-;split at h
  .rename_i d;refine⟨h.1,h.2,.none,rfl,trivial,V,V,(λs he=>g!),λ_=>⟨rfl,λd' hd=>?_⟩,V,λenv2 w E u=>?_⟩
   .simp only[jR]at hd;subst hd;exact h.1
   .simp only[AB.wp];exact⟨w.new rfl _ rfl h.1,u⟩
  .exact h.elim
 |st n x v=>cases J
 |mh n s v=>cases J
 |nk s=>cases J
 |nm s=>
  simp only[AB.wp]at h|-;split at h
  .rename_i n es P
   try simp only[P]
   refine ⟨h,.none,rfl,trivial,V,V,?_,d_,V,λenv2 w E u=>?_⟩
   .intro R he;simp only[EV.jZ,jR]at he;exact .inl (by simp[AB.lG,he])
   .have B:=(w.sl s b!).xo P;simp only[AB.wp,B];exact u
  .exact h.elim
 |mz x=>
  simp only[AB.wp]at h|-;cases A:x.kc O with
  |none=>rw[A]at h;exact h.elim|some p=>
   rw [A]at h;simp only[AS]at h|-;refine Al h rfl rfl λenv2 w E u=>?_;simp only[AB.wp,w.kc (x:=x) (λs h=>h),A,AS];exact u
 |nD x=>
  simp only[AB.wp]at h|-;split at h
  .rename_i s F A;cases H:O.nat s F with
   |none=>rw[H]at h;exact h.elim|some es=>
    rw [H]at h;simp only[AS]at h
    try simp only[A,H]
    have G:∃n∈x.sl,O.get n=.bp s F:=by
     cases x with
     |c t=>simp[AC.ev]at A|s n=>exact⟨n,a!,A⟩
    obtain ⟨n,M,L⟩:=G;refine⟨h,.none,rfl,trivial,V,V,?_,d_,V,λenv2 w E u=>?_⟩
    .intro R he;simp only[EV.jZ,jR]at he;subst he;exact .inr ⟨n,M,c!⟩
    .have C:=(w.ev (x:=x) (λs h=>h)).bp A;have B:=(w.bp n M s c!).nat F;rw[H]at B;simp only[AB.wp,C,B,AS];exact u
  .exact h.elim
 |ng x=>
  simp only[AB.wp]at h|-;split at h
  .rename_i s F r A;cases H:O.nat s F with
   |none=>rw[H]at h;exact h.elim|some es=>
    rw [H]at h;simp only[AS]at h;obtain⟨Z,h⟩:=h
    try simp only[A,H]
    have G:∃n∈x.sl,O.get n=.nh s F (.el r):=by
     cases x with
     |c t=>simp[AC.ev]at A|s n=>exact⟨n,a!,A⟩
    obtain ⟨n,M,L⟩:=G;refine⟨Z,h,.none,rfl,trivial,V,V,?_,d_,V,λenv2 w E u=>?_⟩
    .intro R he;simp only[EV.jZ,jR]at he;subst he;exact .inr ⟨n,M,c!⟩
    .have C:=(w.ev (x:=x) (λs h=>h)).nh A;have B:=(w.bp n M s c!).nat F;rw[H]at B;simp only[AB.wp,C,B,AS];exact⟨Z,u⟩
  .exact h.elim
 |mL x i=>
  simp only[AB.wp]at h|-;split at h
  .rename_i s F k j A η;cases H:O.nat s F with
   |none=>rw[H]at h;exact h.elim|some es=>
    rw [H]at h;simp only[AS]at h;obtain⟨Z,I,h⟩:=h
    try simp only[A,η,H]
    have G:∃n∈x.sl,O.get n=.nh s F .hd:=by
     cases x with
     |c t=>simp[AC.ev]at A|s n=>exact⟨n,a!,A⟩
    obtain ⟨n,M,L⟩:=G;refine⟨Z,I,h,.none,rfl,trivial,V,V,?_,d_,V,λenv2 w E u=>?_⟩
    .intro R he;simp only[EV.jZ,jR]at he;subst he;exact .inr ⟨n,Bk M,c!⟩
    .have C:=(w.ev (x:=x) (λs h=>Bk h)).nh A;have e2:=w.val (x:=i) (λs h=>B0 h);have B:=(w.bp n (Bk M) s c!).nat F;rw[H]at B;simp only[AB.wp,C,e2,η,B,AS];exact⟨Z,I,u⟩
  .rename_i s F r k j A η;cases H:O.nat s F with
   |none=>rw[H]at h;exact h.elim|some es=>
    rw [H]at h;simp only[AS]at h;obtain⟨Z,fs,I,ε,h⟩:=h
    try simp only[A,η,H]
    have G:∃n∈x.sl,O.get n=.nh s F (.rw r):=by
     cases x with
     |c t=>simp[AC.ev]at A|s n=>exact⟨n,a!,A⟩
    obtain ⟨n,M,L⟩:=G;refine⟨Z,fs,I,ε,h,.none,rfl,trivial,V,V,?_,d_,V,λenv2 w E u=>?_⟩
    .intro R he;simp only[EV.jZ,jR]at he;subst he;exact .inr ⟨n,Bk M,c!⟩
    .have C:=(w.ev (x:=x) (λs h=>Bk h)).nh A;have e2:=w.val (x:=i) (λs h=>B0 h);have B:=(w.bp n (Bk M) s c!).nat F;rw[H]at B;simp only[AB.wp,C,e2,η,B,AS];exact⟨Z,fs,I,ε,u⟩
  .exact h.elim
 |nH x=>
  simp only[AB.wp]at h|-;split at h
  .rename_i s F A;split at h
   .rename_i p H
    try simp only[A,H]
    have G:∃n∈x.sl,O.get n=.bp s F:=by
     cases x with
     |c t=>simp[AC.ev]at A|s n=>exact⟨n,a!,A⟩
    obtain ⟨n,M,L⟩:=G;refine⟨h,.none,rfl,trivial,V,V,?_,d_,V,λenv2 w E u=>?_⟩
    .intro R he;simp only[EV.jZ,jR]at he;subst he;exact .inr ⟨n,M,c!⟩
    .have C:=(w.ev (x:=x) (λs h=>h)).bp A;have B:=(w.bp n M s c!).jT (Y F);rw[H]at B;simp only[AB.wp,C,B];exact u
   .exact h.elim
  .exact h.elim
 |m8 _=>cases J
 |nA _ _=>cases J
 |cut _ _ _=>cases J
 |md _ _ _ _=>cases J
 |lJ g xs=>
  simp only[AB.wp]at h|-;cases D:Go.Sf.vals O xs with
  |none=>rw[D]at h;exact h.elim|some Q=>
   rw [D]at h;simp only[AS]at h|-;obtain⟨r,C,B⟩:=h;refine⟨r,C,Al B rfl rfl λenv2 w E u=>?_⟩;simp only[AB.wp,w.vals (xs:=xs) (λs h=>h),D,AS];exact⟨r,C,u⟩
 |kD _ _ _=>cases J
 |k9 g xs=>
  simp only[AB.wp]at h|-;cases D:Go.Sf.kz O xs with
  |none=>rw[D]at h;exact h.elim|some Q=>
   rw [D]at h;simp only[AS]at h|-;obtain⟨r,C,B⟩:=h;refine⟨r,C,λκ=>Al (B κ) rfl (by cases r<;>rfl) λenv2 w E u=>?_⟩;simp only[AB.wp,w.kz (xs:=xs) (λs h=>h),D,AS];exact⟨r,C,λ_=>u⟩
 |ml ps x=>
  simp only[AB.wp]at h|-;split at h
  .rename_i t d A
   try simp only[A]
   cases D:CP ps t.cells with
   |none=>rw[D]at h;exact h.elim|some cs=>
    rw [D]at h;simp only[AS]at h|-;refine⟨h.1,h.2,.none,rfl,trivial,V,V,(λs he=>g!),λ_=>⟨rfl,λd' hd=>?_⟩,V,λenv2 w E u=>?_⟩
    .simp only[jR]at hd;subst hd;exact h.1
    .simp only[AB.wp,w.val (x:=x) (λs h=>h),A,D,AS];exact⟨w.new rfl _ rfl h.1,u⟩
  .exact h.elim
 |nB x i n=>
  simp only[AB.wp]at h|-;cases A:x.kc O with
  |none=>rw[A]at h;exact h.elim|some p=>
   rw [A]at h;simp only[AS]at h|-;split at h
   .rename_i ik j η
    try simp only[η]
    obtain ⟨⟨C,B⟩,I,ε,h5⟩:=h;have G:∃n∈x.sl,(O.get n).jZ=Y p.1.1:=by
     cases x with
     |c t=>simp[AC.ev,EV.jZ]at C|s n=>exact⟨n,a!,C⟩
    obtain ⟨m,hm',hr⟩:=G;refine⟨⟨C,B⟩,I,ε,h5,.none,rfl,trivial,V,V,?_,d_,V,λenv2 w E u=>?_⟩
    .intro R he;simp only[EV.jZ,jR]at he;subst he;exact .inr ⟨m,Bk hm',hr⟩
    .have e1:=w.kc (x:=x) (λs h=>Bk h);have e2:=w.val (x:=i) (λs h=>B0 h);have θ:=(w.ev (x:=x) (λs h=>Bk h)).jZ;simp only[AB.wp,e1,A,e2,η,AS,θ,C];exact⟨⟨trivial,B⟩,I,ε,u⟩
   .exact h.elim
 |xfa x k=>
  simp only[AB.wp]at h|-;split at h
  .rename_i q i c A;split at h
   .rename_i p H
    try simp only[A,H]
    have G:∃n∈x.sl,O.get n=.lp q i c:=by
     cases x with
     |c t=>simp[AC.ev]at A|s n=>exact⟨n,a!,A⟩
    obtain ⟨n,M,L⟩:=G;refine⟨h,.none,rfl,trivial,V,V,?_,d_,V,λenv2 w E u=>?_⟩
    .intro R he;simp only[EV.jZ,jR]at he;subst he;exact .inr ⟨n,M,c!⟩
    .have C:=(w.ev (x:=x) (λs h=>h)).l6 (q:=q) h?;have B:=(w.bp n M q c!).jT i;rw[H]at B;simp only[AB.wp,C,A,B];exact u
   .exact h.elim
  .exact h.elim
 |nJ x i n=>
  simp only[AB.wp]at h|-;split at h
  .rename_i q ik j A η;split at h
   .rename_i m es H
    try simp only[A,η,H]
    have G:∃n∈x.sl,O.get n=.la q W:=by
     cases x with
     |c t=>simp[AC.ev]at A|s n=>exact⟨n,a!,A⟩
    obtain ⟨k,hk,L⟩:=G;obtain⟨C,B,I,ε⟩:=h;refine⟨C,B,I,ε,.none,rfl,trivial,V,V,?_,d_,V,λenv2 w E u=>?_⟩
    .intro R he;simp only[EV.jZ,jR]at he;subst he;exact .inr ⟨k,Bk hk,c!⟩
    .have e1:=(w.ev (x:=x) (λs h=>Bk h)).l6 (q:=q) h?;have e2:=w.val (x:=i) (λs h=>B0 h);have θ:=(w.bp k (Bk hk) q c!).jT W;simp only[AA.jT,H]at θ;have e4:env2.get q=.xo m es:=by
      cases he:env2.get q<;>rw[he]at θ<;>simp at θ;rw[θ.1,θ.2]
     simp only[AB.wp,e1,A,e2,η,e4];exact⟨C,B,I,u⟩
   .exact h.elim
  .exact h.elim
 |nu x=>
  simp only[AB.wp]at h|-;split at h
  .rename_i q c A;split at h
   .rename_i m es H
    try simp only[A,H]
    cases D:(es.flatMap TV.cells)[c]? with
    |none=>rw[D]at h;exact h.elim|some t=>
     rw [D]at h;simp only[AS]at h|-;have G:∃n∈x.sl,O.get n=.lp q W c:=by
      cases x with
      |c t=>simp[AC.ev]at A|s n=>exact⟨n,a!,A⟩
     obtain ⟨n,M,L⟩:=G;refine Al h rfl rfl λenv2 w E u=>?_;have C:=(w.ev (x:=x) (λs h=>h)).l6 (q:=q) h?;have θ:=(w.bp n M q c!).jT W;simp only[AA.jT,H]at θ;have e4:env2.get q=.xo m es:=by
      cases he:env2.get q<;>rw[he]at θ<;>simp at θ;rw[θ.1,θ.2]
     simp only[AB.wp,C,A,e4,D,AS];exact u
   .exact h.elim
  .exact h.elim
 |nv x=>
  simp only[AB.wp]at h|-;split at h
  .rename_i q i c A;split at h
   .rename_i p H
    try simp only[A,H]
    cases D:(p.2.flatMap TV.cells)[c]? with
    |none=>rw[D]at h;exact h.elim|some t=>
     rw [D]at h;simp only[AS]at h|-;have G:∃n∈x.sl,O.get n=.lp q i c:=by
      cases x with
      |c t=>simp[AC.ev]at A|s n=>exact⟨n,a!,A⟩
     obtain ⟨n,M,L⟩:=G;refine Al h rfl rfl λenv2 w E u=>?_;have C:=(w.ev (x:=x) (λs h=>h)).l6 (q:=q) h?;have B:=(w.bp n M q c!).jT i;rw[H]at B;simp only[AB.wp,C,A,B,D,AS];exact u
   .exact h.elim
  .exact h.elim
 |mf _ _ _=>cases J
 |rel _=>cases J
 |mc _=>cases J
 |mO _=>cases J
 |lL _ _ _=>cases J
 |kW g xs=>
  simp only[AB.wp]at h|-;split at h
  .rename_i d;obtain⟨N,h⟩:=h;refine⟨N,?_⟩;cases D:Go.Sf.vals O xs with
   |none=>rw[D]at h;exact h.elim|some Q=>
    rw [D]at h;simp only[AS]at h|-;obtain⟨n,es,C,B⟩:=h;refine⟨n,es,C,λκ=>⟨B κ,.none,rfl,trivial,V,V,(λs he=>g!),λ_=>⟨rfl,λd' hd=>?_⟩,V,λenv2 w E u=>?_⟩⟩
    .simp only[jR]at hd;subst hd;exact N
    .simp only[AB.wp,w.vals (xs:=xs) (λs h=>h),D,AS];exact⟨w.new rfl _ rfl N,n,es,C,λ_=>u⟩
  .exact h.elim
 |nF n z x=>
  simp only[AB.wp]at h|-;split at h
  .rename_i d k j A
   try simp only[A]
   obtain ⟨N,C,B,I⟩:=h;refine⟨N,C,B,I,.none,rfl,trivial,V,V,(λs he=>g!),λ_=>⟨rfl,λd' hd=>?_⟩,V,λenv2 w E u=>?_⟩
   .simp only[jR]at hd;subst hd;exact N
   .simp only[AB.wp,w.val (x:=x) (λs h=>h),A];exact⟨w.new rfl _ rfl N,C,B,u⟩
  .exact h.elim
 |lY n z x=>
  simp only[AB.wp]at h|-;split at h
  .rename_i d k j A
   try simp only[A]
   obtain ⟨N,C,B,I⟩:=h;refine⟨N,C,B,I,.none,rfl,trivial,V,V,(λs he=>g!),λ_=>⟨rfl,λd' hd=>?_⟩,V,λenv2 w E u=>?_⟩
   .simp only[jR]at hd;subst hd;exact N
   .simp only[AB.wp,w.val (x:=x) (λs h=>h),A];exact⟨w.new rfl _ rfl N,C,B,u⟩
  .exact h.elim
 |kU _ _ _=>cases J
 |lu _ _=>cases J
 |ky _=>cases J
 |mj _=>cases J
 |k7 _ _=>cases J
 |mK _ _=>cases J
 |mH _=>cases J
 |lc _ _ _=>cases J
 |ldg _ _=>cases J
 |nj _ _ _ _=>cases J
 |mJ=>cases J
 |nG _=>cases J
 |kX _ _=>cases J
 |nN _ _ _=>cases J
 |nf _ _ _ _=>cases J
 |j7 _ _=>cases J
 |nC _=>cases J
 |nE _=>cases J
 |l9 _=>cases J
 |stx _ _ _=>cases J
 |ni _=>cases J
 |lH g xs=>
  simp only[AB.wp]at h|-;cases D:Go.Sf.kz O xs with
  |none=>rw[D]at h;exact h.elim|some Q=>
   rw [D]at h;simp only[AS]at h|-;obtain⟨r,C,B⟩:=h;refine⟨r,C,λκ=>Al (B κ) rfl rfl λenv2 w E u=>?_⟩;simp only[AB.wp,w.kz (xs:=xs) (λs h=>h),w.vals (xs:=xs) (λs h=>h),D,AS];exact⟨r,C,λ_=>u⟩
 |kS g xs=>
  simp only[AB.wp]at h|-;cases D:Go.Sf.vals O xs with
  |none=>rw[D]at h;exact h.elim|some Q=>
   rw [D]at h;simp only[AS]at h|-;obtain⟨r,C,I,B⟩:=h;refine⟨r,C,I,λκ=>Al (B κ) rfl rfl λenv2 w E u=>?_⟩;simp only[AB.wp,w.vals (xs:=xs) (λs h=>h),D,AS];exact⟨r,C,I,λ_=>u⟩
 |mF x k n agg=>
  simp only[AB.wp]at h|-;split at h
  .rename_i cs A
   try simp only[A]
   obtain ⟨C,B⟩:=h;refine⟨C,?_⟩;cases agg with
   |true=>
    simp only[if_true]at B|-;refine Al B rfl rfl λenv2 w E u=>?_;simp only[AB.wp,w.val (x:=x) (λs h=>h),A,if_true];exact⟨C,u⟩
   |false=>
    simp only[Bool.false_eq_true,if_false]at B|-;cases D:Cd (cs.drop k)with
    |none=>rw[D]at B;exact B.elim|some t=>
     rw [D]at B;simp only[AS]at B|-;refine Al B rfl rfl λenv2 w E u=>?_;simp only[AB.wp,w.val (x:=x) (λs h=>h),A,Bool.false_eq_true,if_false,D,AS];exact⟨C,u⟩
  .exact h.elim
end
end Go.Sf
