/- What an operation leans on: the slots that it reads, whether or not they own their lists. -/
import Derived.Test.YtiefejhapgafkaaGreatSfX
set_option linter.all false
open Option renaming some->Y,none->W
open Bool renaming true->X,false->T
open List renaming map_map->x!,getElem?_map->x?,mem_append->y_,map_drop->y!,all_eq_true->y?,getElem?_eq_some_iff->z_,mem_singleton->z!,getElem?_set->z?,map_cons->A_,cons_append->A',contains_eq_mem->A!,range->A?,mem_flatMap->B_,mem_range->B',mem_cons->B!,pairwise_cons->B?,pairwise_append->C_
open Bool renaming false_eq_true->C',not_eq_true'->C!,and_true->C?,or_eq_true->D_,not_true->D'
open Option renaming isSome_iff_exists->D!,toList_some->D?
open Array renaming getElem?_eq_some_iff->E_,getElem?_eq_getElem->E',getD_eq_getD_getElem?->E!,getElem?_replicate->E?
namespace Go.Sf
def tq{cs ds:List AS}(h:ds.map AS.key=cs.map AS.key):ds.map (·.t)=cs.map (·.t):=by
 have:=congrArg (List.map Prod.fst) h;simpa[x!,Function.comp_def,AS.key]using this
def jX(p:TV×Bool):TV:=match p with
 |(.xl n es,X)=>.list n es|p=>p.1
def ez{cs ds:List AS}(h:ds.map AS.key=cs.map AS.key):ds.map AS.Abl=cs.map AS.Abl:=by
 have b:∀c:AS,c.Abl=jX c.key:=by
  rintro ⟨_|_,t⟩<;>cases t<;>rfl
 have:=congrArg (List.map jX) h;simpa[x!,Function.comp_def,<-b]using this
def ABE(p:TV×Bool):Option (Nat×Fq):=match p with
 |(.xl n es,X)=>Y (n,es)|_=>W
def xi{cs ds:List AS}(h:ds.map AS.key=cs.map AS.key)(k:Nat):(match ds[k]? with
  |some ⟨X,.xl n es⟩=>Y (n,es)|_=>W)=(match cs[k]? with
  |some ⟨X,.xl n es⟩=>Y (n,es)|_=>W):=by
 have b:∀o:Option AS,(match o with
  |some ⟨X,.xl n es⟩=>Y (n,es)|_=>W)=(o.map AS.key).bind ABE:=by
  rintro (_|⟨_|_,t⟩)
  .rfl
  .cases t<;>rfl
  .cases t<;>rfl
 rw [b,b];have:=congrArg (λl=>l[k]?) h;simp only[x?]at this;rw[this]
def ABF(p:TV×Bool):Option Fq:=match p with
 |(.xn es,X)=>Y es|_=>W
def xj{cs ds:List AS}(h:ds.map AS.key=cs.map AS.key)(k:Nat):(match ds[k]? with
  |some ⟨X,.xn es⟩=>Y es|_=>W)=(match cs[k]? with
  |some ⟨X,.xn es⟩=>Y es|_=>W):=by
 have b:∀o:Option AS,(match o with
  |some ⟨X,.xn es⟩=>Y es|_=>W)=(o.map AS.key).bind ABF:=by
  rintro (_|⟨_|_,t⟩)
  .rfl
  .cases t<;>rfl
  .cases t<;>rfl
 rw [b,b];have:=congrArg (λl=>l[k]?) h;simp only[x?]at this;rw[this]
def EV.like(e e2:EV):Prop:=
 e2=e\/(∃n es,(e=.tv (.list n es)/\e2=.ow (.list n es))\/(e=.ow (.list n es)/\e2=.tv (.list n es)))\/∃cs ds,e=.bx cs/\e2=.bx ds/\ds.map AS.key=cs.map AS.key
def EV.like.rfl'(e:EV):e.like e:=.inl rfl
variable{e e2:EV}
def EV.like.symm(h:e.like e2):e2.like e:=by
 rcases h with rfl|⟨n,es,⟨rfl,rfl⟩|⟨rfl,rfl⟩⟩|⟨cs,ds,rfl,rfl,h⟩
 .exact .inl rfl
 .exact .inr (.inl ⟨n,es,.inr ⟨rfl,rfl⟩⟩)
 .exact .inr (.inl ⟨n,es,.inl ⟨rfl,rfl⟩⟩)
 .exact .inr (.inr ⟨ds,cs,rfl,rfl,h.symm⟩)
def EV.like.x6(h:e.like e2):e2.x6=e.x6:=by
 rcases h with rfl|⟨n,es,⟨rfl,rfl⟩|⟨rfl,rfl⟩⟩|⟨cs,ds,rfl,rfl,h⟩<;>rfl
def EV.like.AbB(h:e.like e2){q:Nat}(hr:e.x6=Y q):e2=e:=by
 rcases h with rfl|⟨n,es,⟨rfl,rfl⟩|⟨rfl,rfl⟩⟩|⟨cs,ds,rfl,rfl,h⟩
 .rfl
 .cases hr
 .cases hr
 .cases hr
variable{n:Nat}
def EV.like.xo(h:e.like e2){es:Fq}(he:e=.xo n es):e2=.xo n es:=by
 subst he;rcases h with rfl|⟨n,es,⟨h,_⟩|⟨h,_⟩⟩|⟨cs,ds,h,_⟩
 .rfl
 .cases h
 .cases h
 .cases h
def EV.like.val(h:e.like e2):e2.val=e.val:=by
 rcases h with rfl|⟨n,es,⟨rfl,rfl⟩|⟨rfl,rfl⟩⟩|⟨cs,ds,rfl,rfl,h⟩<;>rfl
def EV.like.pt(h:e.like e2){row:Fq}(he:e=.tv (.pt row)):e2=.tv (.pt row):=by
 subst he;rcases h with rfl|⟨n,es,⟨h,rfl⟩|⟨h,rfl⟩⟩|⟨cs,ds,h,rfl,b⟩
 .rfl
 .simp at h
 .cases h
 .cases h
def EV.like.bp(h:e.like e2){q off:Nat}(he:e=.bp q off):e2=.bp q off:=by
 subst he;rcases h with rfl|⟨n,es,⟨h,rfl⟩|⟨h,rfl⟩⟩|⟨cs,ds,h,rfl,b⟩
 .rfl
 .cases h
 .cases h
 .cases h
def EV.like.tp(h:e.like e2){b:Fq}(he:e=.tp b):e2=.tp b:=by
 subst he;rcases h with rfl|⟨n,es,⟨h,rfl⟩|⟨h,rfl⟩⟩|⟨cs,ds,h,rfl,c⟩
 .rfl
 .cases h
 .cases h
 .cases h
def EV.like.bx(h:e.like e2){cs:List AS}(he:e=.bx cs):∃ds,e2=.bx ds/\ds.map AS.key=cs.map AS.key:=by
 subst he;rcases h with rfl|⟨n,es,⟨h,rfl⟩|⟨h,rfl⟩⟩|⟨cs',ds,h,rfl,b⟩
 .exact⟨cs,rfl,rfl⟩
 .cases h
 .cases h
 .simp only[EV.bx.injEq]at h;subst h;exact⟨ds,rfl,b⟩
def AH.sl:AH->QQ
 |.s n=>[n]|.c _=>[]
def Yx:Option AH->QQ
 |some x=>x.sl|none=>[]
def G0:List AH->QQ
 |[]=>[]|x::xs=>x.sl++G0 xs
def Wj:List (Nat×Nat×AH)->QQ
 |[]=>[]|x::xs=>x.2.2.sl++Wj xs
def AF.slots:AF->QQ
 |.mv x=>x.sl|.tk s=>[s]|.Abu _=>[]|.fad x _=>x.sl|.bad s _=>[s]|.iad x i _=>x.sl++i.sl|.aad x i _ _=>x.sl++i.sl|.ld x=>x.sl|.lda x _=>x.sl|.ldb s _=>[s]|.ldt x=>x.sl|.bin _ _ x y=>x.sl++y.sl|.not x=>x.sl|.neg x=>x.sl|.pick c a b=>c.sl++(a.sl++b.sl)|.len x=>x.sl|.AbG x=>x.sl|.slc _ x lo hi=>x.sl++(Yx lo++Yx hi)|.Aai x lo hi=>x.sl++(Yx lo++Yx hi)|.bld _ ps=>Wj ps|.lst _ ps=>G0 ps|.app _ x y=>x.sl++y.sl|.call _ xs=>G0 xs|.Abc x xs=>x.sl++G0 xs|.clo _ xs=>G0 xs|.ext x _=>x.sl|.cvt _ x=>x.sl|.Aav x i=>x.sl++i.sl|.Abn x=>x.sl|.Aby x=>x.sl|.mm _ x y=>x.sl++y.sl|.alc _=>[]|.st _ x v=>x.sl++v.sl|.stb _ s v=>s::v.sl|.frz s=>[s]|.Abs x _ _ _=>x.sl|.xal s=>[s]|.Abt x=>x.sl|.xia x i _=>x.sl++i.sl|.xfa x _=>x.sl|.xld x=>x.sl|.xst x v _=>x.sl++v.sl|.rel s=>[s]|.Abh _=>[]|.Abk _=>[]|.tkx s=>[s]|.Aa4 _ s y=>s::y.sl|.AaE _ xs=>G0 xs|.mkx _ _ x=>x.sl|.AaB _ x ys=>x.sl++G0 ys|.AaY _ x=>x.sl|.Aaj gs=>gs.flatMap GC.sl|.stx _ s q=>[s,q]|.Aa2 _ xs=>G0 xs|.Aaz _ xs=>G0 xs|.isn x=>x.sl|.fdv x _=>x.sl|.ldv x _=>x.sl|.lac x=>x.sl|.ctk x=>x.sl|.cpt x q=>x.sl++[q]|.cut _ s hi=>s::hi.sl|.AaM _ xs=>G0 xs|.Abi _ x=>x.sl|.Abd _ s _ x=>s::x.sl|.Aa3 _ xs=>G0 xs|.Aas _ xs _=>G0 xs|.Abm q=>[q]|.AaJ s q=>[s,q]|.lan x=>x.sl|.nia x i=>x.sl++i.sl|.nld x=>x.sl|.nst x v=>x.sl++v.sl|.Abw q=>[q]|.AaL _ xs _=>G0 xs|.ldg s _=>[s]|.stq _ _ x v=>x.sl++v.sl|.mkm=>[]|.mvm s=>[s]|.AaF _ xs=>G0 xs|.mlk s m x=>s::(m.sl++x.sl)|.mup s m x v=>s::(m.sl++(x.sl++v.sl))|.tg s m=>s::m.sl|.mnx s=>[s]|.men s=>[s]
def AF.dem:AF->QQ
 |.tk s=>[s]|.app _ x _=>x.sl|_=>[]
def AF.mov:AF->Bool
 |.st ..=>T|.stb ..=>T|.frz _=>T|.xst ..=>T|.rel _=>T|.Abh _=>T|.Abk _=>T|.tkx _=>T|.Aa4 ..=>T|.AaB ..=>T|.AaY ..=>T|.Aaj _=>T|.stx ..=>T|.isn _=>T|.ctk _=>T|.cpt ..=>T|.cut ..=>T|.Abd ..=>T|.Aas ..=>T|.Abm _=>T|.AaJ ..=>T|.nst ..=>T|.Abw _=>T|.AaL ..=>T|.ldg ..=>T|.stq ..=>T|.mkm=>T|.mvm _=>T|.AaF ..=>T|.mlk ..=>T|.mup ..=>T|.tg ..=>T|.mnx _=>T|.men _=>T|_=>X
def AF.r0:AF->Bool
 |.alc _=>X|.Aby _=>X|.Abi ..=>X|.AaE ..=>X|.mkx ..=>X|_=>T
def AF.Aa1:AF->QQ
 |.bad s _=>[s]|.xal s=>[s]|_=>[]
inductive BV where
 |none
 |slot (s:Nat) (t:TV)
 |cell (s off:Nat) (t:TV)
def BV.app:BV->AB->AB
 |.none,O=>O|.slot s t,O=>(s,.tv t)::O|.cell s off t,O=>match O.get s with
  |.bx cs=>(s,.bx (cs.set off ⟨T,t⟩))::O|_=>O
def BV.ok:BV->AB->Prop
 |.none,_=>True|.slot s t,O=>O.get s=.ow t|.cell s off t,O=>∃cs,O.get s=.bx cs/\cs[off]?=Y ⟨X,t⟩
structure Ez(op:AF)(f:BV)(dst:Option Nat)(O env2:AB):Prop where
 sl:∀s∈op.slots,(O.get s).like (env2.get s)
 bp:∀s∈op.slots,∀q,(O.get s).x6=Y q->(O.get q).like (env2.get q)
 dem:∀s∈op.dem,(∀cs,O.get s≠.bx cs)->env2.get s=O.get s
 eff:f.ok env2
 new:op.r0=X->∀d,dst=Y d->O.gt d=X->env2.gt d=X
section
variable{op:AF}{f:BV}{dst:Option Nat}{O env2:AB}
variable{x:AH}
def Ez.val(h:Ez op f dst O env2)(b:∀s∈x.sl,s∈op.slots):x.val env2=x.val O:=by
 cases x with
 |c t=>rfl|s n=>exact(h.sl n (b n f_)).val
def Ez.ev(h:Ez op f dst O env2)(b:∀s∈x.sl,s∈op.slots):(x.ev O).like (x.ev env2):=by
 cases x with
 |c t=>exact .inl rfl|s n=>exact h.sl n (b n f_)
def Ez.vals(h:Ez op f dst O env2):∀{xs:List AH},(∀s∈G0 xs,s∈op.slots)->Go.Sf.vals env2 xs=Go.Sf.vals O xs
 |[],_=>rfl|x::xs,c=>by
  simp only[G0,y_]at c;simp only[Go.Sf.vals,h.val (x:=x) (λs b=>c s (.inl b)),h.vals (xs:=xs) (λs b=>c s (.inr b))]
def Ez.parts(h:Ez op f dst O env2):∀{xs:List (Nat×Nat×AH)},(∀s∈Wj xs,s∈op.slots)->Hw env2 xs=Hw O xs
 |[],_=>rfl|(i,n,x)::xs,c=>by
  simp only[Wj,y_]at c;simp only[Hw,h.val (x:=x) (λs b=>c s (.inl b)),h.parts (xs:=xs) (λs b=>c s (.inr b))]
def Ez.bnd(h:Ez op f dst O env2){x:Option AH}{k:Int}(b:∀s∈Yx x,s∈op.slots):IP env2 k x=IP O k x:=by
 cases x with
 |none=>rfl|some x=>exact h.val b
def Ez.addr(h:Ez op f dst O env2)(u:∀s∈x.sl,s∈op.slots):BT env2 (x.ev env2)=BT O (x.ev O):=by
 cases x with
 |c t=>cases t<;>rfl
 |s n=>
  have l:=u n f_;have b:=h.sl n l;have hb:=h.bp n l;simp only[AH.ev];generalize O.get n=e at b hb;generalize env2.get n=e2 at b;rcases b with rfl|⟨n,es,⟨rfl,rfl⟩|⟨rfl,rfl⟩⟩|⟨cs,ds,rfl,rfl,j⟩
  .cases e2 with
   |bp q off=>
    have g:=hb q rfl;simp only[BT];generalize O.get q=e1 at g;generalize env2.get q=e2 at g;rcases g with rfl|⟨n,es,⟨rfl,rfl⟩|⟨rfl,rfl⟩⟩|⟨cs,ds,rfl,rfl,j⟩
    .rfl
    .rfl
    .rfl
    .simp only[y!,tq j]
   |tv t=>cases t<;>rfl
   |_=>rfl
  .rfl
  .rfl
  .simp only[BT,tq j]
def Ez.place(h:Ez op f dst O env2)(j:∀s∈x.sl,s∈op.slots):x.place env2=x.place O:=by
 cases x with
 |c t=>rfl|s n=>
  have l:=h.sl n (j n f_);simp only[AH.place];rcases l with b|⟨n,es,⟨b,g⟩|⟨b,g⟩⟩|⟨cs,ds,b,g,_⟩
  .rw[b]
  .rw[b,g]
  .rw[b,g]
  .rw[b,g]
def EV.like.so{O env2:AB}{q:Nat}(h:(O.get q).like (env2.get q))(i:Option Nat):env2.so q i=O.so q i:=by
 rcases h with b|⟨n,es,⟨b,c⟩|⟨b,c⟩⟩|⟨cs,ds,b,c,g⟩
 .exact AB.Aal b
 .cases i<;>simp only[AB.so,b,c]
 .cases i<;>simp only[AB.so,b,c]
 .cases i with
  |none=>simp only[AB.so,b,c]|some k=>simp only[AB.so,b,c];exact xi g k
def EV.like.nat{O env2:AB}{q:Nat}(h:(O.get q).like (env2.get q))(i:Nat):env2.nat q i=O.nat q i:=by
 rcases h with b|⟨n,es,⟨b,c⟩|⟨b,c⟩⟩|⟨cs,ds,b,c,g⟩
 .exact AB.Aar b
 .simp only[AB.nat,b,c]
 .simp only[AB.nat,b,c]
 .simp only[AB.nat,b,c];exact xj g i
variable{e e2:EV}
def EV.like.nh(h:e.like e2){q i:Nat}{k:NK}(he:e=.nh q i k):e2=.nh q i k:=by
 subst he;exact h.AbB rfl
def Ez.x5(h:Ez op f dst O env2)(l:∀s∈x.sl,s∈op.slots):x.x5 env2=x.x5 O:=by
 cases x with
 |c t=>rfl|s n=>
  have j:=l n f_;have u:=h.sl n j;have hb:=h.bp n j;simp only[AH.x5];rcases u with b|⟨m,es,⟨b,g⟩|⟨b,g⟩⟩|⟨cs,ds,b,g,_⟩
  .rw[b];cases he:O.get n with
   |la q i=>simp only[(hb q (by rw[he];rfl)).so i]|_=>rfl
  .rw[b,g]
  .rw[b,g]
  .rw[b,g]
def Ez.Abz(h:Ez op f dst O env2)(u:∀s∈x.sl,s∈op.slots):x.Abz env2=x.Abz O:=by
 unfold AH.Abz;rw[h.x5 u];cases x.x5 O with
 |some p=>rfl|none=>
  cases x with
  |c t=>cases t<;>rfl
  |s n=>
   have z:=u n f_;have A:=h.sl n z;have hb:=h.bp n z;simp only[AH.ev];rcases A with b|⟨m,es,⟨b,j⟩|⟨b,j⟩⟩|⟨cs,ds,b,j,C⟩
   .rw[b];cases he:O.get n with
    |bp q off=>
     have B:=hb q (by rw[he];rfl);simp only;rcases B with g|⟨m,es,⟨g,l⟩|⟨g,l⟩⟩|⟨cs,ds,g,l,E⟩
     .rw[g]
     .rw[g,l]
     .rw[g,l]
     .rw[g,l];have:=ez E;simp only[y!,this]
    |_=>rfl
   .rw[b,j];rfl
   .rw[b,j];rfl
   .rw[b,j];simp only[ez C]
def Ez.Aau(h:Ez op f dst O env2):∀{xs:List AH},(∀s∈G0 xs,s∈op.slots)->Go.Sf.Aau env2 xs=Go.Sf.Aau O xs
 |[],_=>rfl|x::xs,c=>by
  simp only[G0,y_]at c;simp only[Go.Sf.Aau,h.Abz (x:=x) (λs b=>c s (.inl b)),h.Aau (xs:=xs) (λs b=>c s (.inr b))]
end
structure mj(S:FuncId->Fq->BA->Prop)(op:AF)(dst:Option Nat)(O:AB)(e:EV)(env':AB)(f:BV):Prop where
 env':env'=f.app O
 ok:f.ok O
 slot:∀s t,f=.slot s t->s∈op.dem
 cell:∀s off t,f=.cell s off t->(s∈op.slots\/∃x∈op.slots,(O.get x).x6=Y s)
 x6:∀s,e.x6=Y s->(s∈op.Aa1\/∃x∈op.slots,(O.get x).x6=Y s)
 new:op.r0=X->e.x6=W/\∀d,dst=Y d->O.gt d=X
 xl:∀s off t,f=.cell s off t->t.AaI=T
 again:∀env2,Ez op f dst O env2->∀K2:EV->AB->Prop,K2 e (f.app env2)->op.wp S env2 dst K2
section
variable{S:FuncId->Fq->BA->Prop}{op:AF}{dst:Option Nat}{O:AB}{K:EV->AB->Prop}
variable{e:EV}
def BJ(c:K e O)(g:op.r0=T)(hr:e.x6=W)(h:∀env2,Ez op .none dst O env2->∀b:EV->AB->Prop,b e env2->op.wp S env2 dst b):K e O/\∃f,mj S op dst O e O f:=
 ⟨c,.none,rfl,trivial,V,V,(λs he=>by rw[hr]at he;cases he),by simp[g],V,h⟩
variable{α:Type}
def Em{x:α}{l m:List α}(h:x∈m):x∈l++m:=List.mem_append_right _ h
def D9{x:α}{l m:List α}(h:x∈l):x∈l++m:=List.mem_append_left _ h
def frame(I:op.mov=X)(h:op.wp S O dst K):op.wp S O dst λe env'=>K e env'/\∃f,mj S op dst O e env' f:=by
 cases op with
 |mv x=>
  simp only[AF.wp]at h|-;have key:∀t,(x.ev O).val=Y t->∀env2,Ez (.mv x) .none dst O env2->∀G:EV->AB->Prop,G (.tv t) env2->(AF.mv x).wp S env2 dst G:=by
   intro t ht env2 A G u;have hv:=A.val (x:=x) (λs h=>h);simp only[AH.val]at hv;rw[ht]at hv;simp only[AF.wp];cases he:x.ev env2<;>rw[he]at hv<;>simp[EV.val]at hv<;>subst hv<;>exact u
  split at h
  .rename_i t B
   try simp only[B]
   exact BJ h rfl rfl (key t (by rw[B];rfl))
  .rename_i t B
   try simp only[B]
   exact BJ h rfl rfl (key t (by rw[B];rfl))
  .rename_i θ B
   try simp only[B]
   refine BJ h rfl rfl λenv2 A G u=>?_;cases x with
   |c t=>simp[AH.ev]at B|s n=>
    simp only[AH.ev]at B;have C:env2.get n=.tp θ:=(A.sl n (by simp[AF.slots,AH.sl])).tp B;simp only[AF.wp,AH.ev,C];exact u
  .exact h.elim
 |tk s=>
  simp only[AF.wp]at h|-;split at h
  .rename_i t M
   try simp only[M]
   refine ⟨h,.slot s t,rfl,M,?_,V,(λs he=>p!),h!,V,λenv2 A G u=>?_⟩
   .intro s' t' he;simp only[BV.slot.injEq]at he;simp[AF.dem,he.1]
   .have:=A.eff;simp only[BV.ok]at this;simp only[AF.wp,this];exact u
  .rename_i t M
   try simp only[M]
   refine BJ h rfl rfl λenv2 A G u=>?_;have:=A.dem s (by simp[AF.dem]) (by simp[M]);simp only[AF.wp,this,M];exact u
  .exact h.elim
 |Abu n=>exact BJ h rfl rfl λenv2 A G u=>u|fad x k=>
  simp only[AF.wp]at h|-;split at h
  .rename_i row B
   try simp only[B]
   refine BJ h rfl rfl λenv2 A G u=>?_;have:=(A.ev (x:=x) (λs h=>h)).pt B;simp only[AF.wp,this];exact u
  .rename_i s off B;split at h
   .rename_i cs M
    try simp only[B,M]
    have H:∃n∈x.sl,O.get n=.bp s off:=by
     cases x with
     |c t=>simp[AH.ev]at B|s n=>exact⟨n,f_,B⟩
    obtain ⟨n,Q,hb⟩:=H;refine⟨h,.none,rfl,trivial,V,V,?_,h!,V,λenv2 A G u=>?_⟩
    .intro s' he;simp only[EV.x6,p0]at he;subst he;exact .inr ⟨n,Q,g!⟩
    .have E:=(A.ev (x:=x) (λs h=>h)).bp B;have C:=A.bp n Q s g!;rw[M]at C;obtain⟨ds,J,_⟩:=C.bx rfl;simp only[AF.wp,E,J];exact u
   .exact h.elim
  .exact h.elim
 |bad s k=>
  simp only[AF.wp]at h|-;split at h
  .rename_i cs M
   try simp only[M]
   refine ⟨h,.none,rfl,trivial,V,V,?_,h!,V,λenv2 A G u=>?_⟩
   .intro s' he;simp only[EV.x6,p0]at he;exact .inl (by simp[AF.Aa1,he])
   .have C:=A.sl s g_;rw[M]at C;obtain⟨ds,J,_⟩:=C.bx rfl;simp only[AF.wp,J];exact u
  .rename_i row M
   try simp only[M]
   refine BJ h rfl rfl λenv2 A G u=>?_;have:=(A.sl s g_).pt M;simp only[AF.wp,this];exact u
  .exact h.elim
 |iad x i n=>
  simp only[AF.wp]at h|-;split at h
  .rename_i m es k j B hi
   try simp only[B,hi]
   obtain ⟨E,C,e,J,κ⟩:=h;refine⟨E,C,e,J,BJ κ rfl rfl λenv2 A G u=>?_⟩;simp only[AF.wp,A.val (x:=x) (λs h=>D9 h),A.val (x:=i) (λs h=>Em h),B,hi];exact⟨E,C,e,J,u⟩
  .exact h.elim
 |aad x i n k=>
  simp only[AF.wp]at h|-;split at h
  .rename_i row kk j B hi
   try simp only[B,hi]
   obtain ⟨E,C,J,κ⟩:=h;refine⟨E,C,J,BJ κ rfl rfl λenv2 A G u=>?_⟩;have:=(A.ev (x:=x) (λs h=>D9 h)).pt B;simp only[AF.wp,this,A.val (x:=i) (λs h=>Em h),hi];exact⟨E,C,J,u⟩
  .exact h.elim
 |ld x=>
  simp only[AF.wp]at h|-;cases F:BT O (x.ev O)with
  |none=>rw[F]at h;exact h.elim|some cs=>
   rw [F]at h;simp only[A0]at h|-;cases hf:IJ cs with
   |none=>rw[hf]at h;exact h.elim|some t=>
    rw [hf]at h;refine⟨h.1,BJ h.2 rfl rfl λenv2 A G u=>?_⟩;simp only[AF.wp,A.addr (x:=x) (λs h=>h),F,A0,hf];exact⟨h.1,u⟩
 |lda x n=>
  simp only[AF.wp]at h|-;cases F:BT O (x.ev O)with
  |none=>rw[F]at h;exact h.elim|some cs=>
   rw [F]at h;simp only[A0]at h|-;refine⟨h.1,BJ h.2 rfl rfl λenv2 A G u=>?_⟩;simp only[AF.wp,A.addr (x:=x) (λs h=>h),F,A0];exact⟨h.1,u⟩
 |ldb s n=>
  simp only[AF.wp]at h|-;split at h
  .rename_i cs F
   try simp only[F]
   refine ⟨h.1,BJ h.2 rfl rfl λenv2 A G u=>?_⟩;have E:=A.addr (x:=.s s) (λs h=>h);obtain⟨ds,J,_⟩:=(A.sl s g_).bx F;simp only[AH.ev,F,J,BT,p0]at E;simp only[AF.wp,J,E];exact⟨h.1,u⟩
  .exact h.elim
 |ldt x=>
  simp only[AF.wp]at h|-;split at h
  .rename_i s off η;split at h
   .rename_i cs M;split at h
    .rename_i n es F
     try simp only[η,M,F]
     refine ⟨h,.cell s off (.list n es),by simp[BV.app,M],⟨cs,M,F⟩,V,?_,(λs he=>p!),h!,(λs off t he=>by cases he;rfl),λenv2 A G u=>?_⟩
     .intro s' off' t' he;simp only[BV.cell.injEq]at he;obtain⟨rfl,rfl,rfl⟩:=he;cases x with
      |c t=>simp[AH.place]at η|s n=>
       simp only[AH.place]at η;split at η
       next q o L=>simp only[p0,Prod.mk.injEq]at η;exact .inr ⟨n,by simp[AF.slots,AH.sl],by rw[L,η.1];rfl⟩
       .simp only[p0,Prod.mk.injEq]at η;exact .inl (by simp[AF.slots,AH.sl,η.1])
       .cases η
     .obtain⟨ds,E,C⟩:=A.eff;simp only[BV.app,E]at u;simp only[AF.wp,A.place (x:=x) (λs h=>h),η,E,C];exact u
    .exact h.elim
   .exact h.elim
  .exact h.elim
 |bin k op x y=>
  simp only[AF.wp]at h|-;split at h
  .rename_i a b B ζ
   try simp only[B,ζ]
   cases hb:NN k op a b with
   |none=>rw[hb]at h;exact h.elim|some t=>
    rw [hb]at h;refine BJ h rfl rfl λenv2 A G u=>?_;simp only[AF.wp,A.val (x:=x) (λs h=>D9 h),A.val (x:=y) (λs h=>Em h),B,ζ,hb,A0];exact u
  .exact h.elim
 |not x=>
  simp only[AF.wp]at h|-;split at h
  .rename_i b B
   try simp only[B]
   refine BJ h rfl rfl λenv2 A G u=>?_;simp only[AF.wp,A.val (x:=x) (λs h=>h),B];exact u
  .exact h.elim
 |neg x=>
  simp only[AF.wp]at h|-;split at h
  .rename_i k n B
   try simp only[B]
   refine BJ h rfl rfl λenv2 A G u=>?_;simp only[AF.wp,A.val (x:=x) (λs h=>h),B];exact u
  .exact h.elim
 |pick c a b=>
  simp only[AF.wp]at h|-;split at h
  .rename_i q F
   try simp only[F]
   have key:∀t,((if q=X then a else b).ev O).val=Y t->∀env2,Ez (.pick c a b) .none dst O env2->∀G:EV->AB->Prop,G (.tv t) env2->(AF.pick c a b).wp S env2 dst G:=by
    intro t ht env2 A G u;have hv:=A.val (x:=if q=X then a else b) (λs h=>by
     cases q
     .exact Em (Em h)
     .exact Em (D9 h))
    simp only[AH.val]at hv;rw[ht]at hv;simp only[AF.wp,A.val (x:=c) (λs h=>D9 h),F];cases he:(if q=X then a else b).ev env2<;>rw[he]at hv<;>simp[EV.val]at hv<;>subst hv<;>exact u
   split at h
   .rename_i t B
    try simp only[B]
    exact BJ h rfl rfl (key t (by rw[B];rfl))
   .rename_i t B
    try simp only[B]
    exact BJ h rfl rfl (key t (by rw[B];rfl))
   .exact h.elim
  .exact h.elim
 |len x=>
  simp only[AF.wp]at h|-;split at h
  .rename_i n es B
   try simp only[B]
   refine BJ h rfl rfl λenv2 A G u=>?_;simp only[AF.wp,A.val (x:=x) (λs h=>h),B];exact u
  .exact h.elim
 |fdv x k=>
  simp only[AF.wp]at h|-;split at h
  .rename_i row B
   try simp only[B]
   refine BJ h rfl rfl λenv2 A G u=>?_;simp only[AF.wp,A.val (x:=x) (λs h=>h),B];exact u
  .exact h.elim
 |ldv x n=>
  simp only[AF.wp]at h|-;split at h
  .rename_i row B
   try simp only[B]
   refine ⟨h.1,BJ h.2 rfl rfl λenv2 A G u=>?_⟩;simp only[AF.wp,A.val (x:=x) (λs h=>h),B];exact⟨h.1,u⟩
  .exact h.elim
 |AbG x=>
  simp only[AF.wp]at h|-;split at h
  .rename_i s B
   try simp only[B]
   refine BJ h rfl rfl λenv2 A G u=>?_;simp only[AF.wp,A.val (x:=x) (λs h=>h),B];exact u
  .exact h.elim
 |slc n x lo hi=>
  simp only[AF.wp]at h|-;split at h
  .rename_i m es B
   try simp only[B]
   split at h
   .rename_i k1 l k2 hh E C
    try simp only[E,C]
    refine ⟨h.1,h.2.1,BJ h.2.2 rfl rfl λenv2 A G u=>?_⟩;simp only[AF.wp,A.val (x:=x) (λs h=>D9 h),B,A.bnd (x:=lo) (λs h=>Em (D9 h)),A.bnd (x:=hi) (λs h=>Em (Em h)),E,C];exact⟨h.1,h.2.1,u⟩
   .exact h.elim
  .exact h.elim
 |Aai x lo hi=>
  simp only[AF.wp]at h|-;split at h
  .rename_i str B
   try simp only[B]
   split at h
   .rename_i k1 l k2 hh E C
    try simp only[E,C]
    refine ⟨h.1,h.2.1,h.2.2.1,BJ h.2.2.2 rfl rfl λenv2 A G u=>?_⟩;simp only[AF.wp,A.val (x:=x) (λs h=>D9 h),B,A.bnd (x:=lo) (λs h=>Em (D9 h)),A.bnd (x:=hi) (λs h=>Em (Em h)),E,C];exact⟨h.1,h.2.1,h.2.2.1,u⟩
   .exact h.elim
  .exact h.elim
 |bld zero ps=>
  simp only[AF.wp]at h|-;cases F:Hw O ps with
  |none=>rw[F]at h;exact h.elim|some θ=>
   rw [F]at h;simp only[A0]at h|-;cases hf:F1 zero θ with
   |none=>rw[hf]at h;exact h.elim|some cs=>
    rw [hf]at h;refine BJ h rfl rfl λenv2 A G u=>?_;simp only[AF.wp,A.parts (xs:=ps) (λs h=>h),F,A0,hf];exact u
 |lst n ps=>
  simp only[AF.wp]at h|-;cases F:Go.Sf.vals O ps with
  |none=>rw[F]at h;exact h.elim|some θ=>
   rw [F]at h;simp only[A0]at h|-;refine⟨h.1,BJ h.2 rfl rfl λenv2 A G u=>?_⟩;simp only[AF.wp,A.vals (xs:=ps) (λs h=>h),F,A0];exact⟨h.1,u⟩
 |app n x y=>
  simp only[AF.wp]at h|-;split at h
  .rename_i m es m' fs B ζ
   try simp only[B,ζ]
   obtain ⟨E,C,J,κ⟩:=h;cases x with
   |c t=>simp[AH.ev]at B|s s=>
    simp only[AH.ev]at B;subst E;refine⟨rfl,C,J,κ,.slot s (.list m es),rfl,B,?_,V,(λs he=>p!),h!,V,λenv2 A G u=>?_⟩
    .intro s' t' he;simp only[BV.slot.injEq]at he;simp[AF.dem,AH.sl,he.1]
    .have:=A.eff;simp only[BV.ok]at this;simp only[AF.wp,AH.ev,this,A.val (x:=y) (λs h=>Em h),ζ];exact⟨trivial,C,J,u⟩
  .exact h.elim
 |call g xs=>
  simp only[AF.wp]at h|-;cases F:Go.Sf.vals O xs with
  |none=>rw[F]at h;exact h.elim|some θ=>
   rw [F]at h;simp only[A0]at h|-;obtain⟨r,E,C⟩:=h;refine⟨r,E,λε=>BJ (C ε) rfl (by cases r<;>rfl) λenv2 A G u=>?_⟩;simp only[AF.wp,A.vals (xs:=xs) (λs h=>h),F,A0];exact⟨r,E,λ_=>u⟩
 |Abc x xs=>
  simp only[AF.wp]at h|-;split at h
  .rename_i g caps θ B F
   try simp only[B,F]
   obtain ⟨r,E,C⟩:=h;refine⟨r,E,λε=>BJ (C ε) rfl (by cases r<;>rfl) λenv2 A G u=>?_⟩;simp only[AF.wp,A.val (x:=x) (λs h=>D9 h),A.vals (xs:=xs) (λs h=>Em h),B,F];exact⟨r,E,λ_=>u⟩
  .exact h.elim
 |clo g xs=>
  simp only[AF.wp]at h|-;cases F:Go.Sf.vals O xs with
  |none=>rw[F]at h;exact h.elim|some θ=>
   rw [F]at h;simp only[A0]at h|-;refine BJ h rfl rfl λenv2 A G u=>?_;simp only[AF.wp,A.vals (xs:=xs) (λs h=>h),F,A0];exact u
 |ext x i=>
  simp only[AF.wp]at h|-;split at h
  .rename_i θ B
   try simp only[B]
   cases hf:θ[i]? with
   |none=>rw[hf]at h;exact h.elim|some t=>
    rw [hf]at h;refine BJ h rfl rfl λenv2 A G u=>?_;have:=(A.ev (x:=x) (λs h=>h)).tp B;simp only[AF.wp,this,hf,A0];exact u
  .exact h.elim
 |cvt k x=>
  simp only[AF.wp]at h|-;split at h
  .rename_i k n B
   try simp only[B]
   refine BJ h rfl rfl λenv2 A G u=>?_;simp only[AF.wp,A.val (x:=x) (λs h=>h),B];exact u
  .exact h.elim
 |Aav x i=>
  simp only[AF.wp]at h|-;split at h
  .rename_i str k j B hi
   try simp only[B,hi]
   obtain ⟨E,b,C,J⟩:=h;refine⟨E,b,C,BJ J rfl rfl λenv2 A G u=>?_⟩;simp only[AF.wp,A.val (x:=x) (λs h=>D9 h),A.val (x:=i) (λs h=>Em h),B,hi];exact⟨E,b,C,u⟩
  .exact h.elim
 |Abn x=>
  simp only[AF.wp]at h|-;split at h
  .rename_i t B
   try simp only[B]
   refine BJ h rfl rfl λenv2 A G u=>?_;simp only[AF.wp,A.val (x:=x) (λs h=>h),B];exact u
  .exact h.elim
 |Aby x=>
  simp only[AF.wp]at h|-;split at h
  .rename_i t d B
   try simp only[B]
   refine ⟨h.1,h.2,.none,rfl,trivial,V,V,(λs he=>p!),λ_=>⟨rfl,λd' hd=>?_⟩,V,λenv2 A G u=>?_⟩
   .simp only[p0]at hd;subst hd;exact h.1
   .simp only[AF.wp,A.val (x:=x) (λs h=>h),B];exact⟨A.new rfl _ rfl h.1,u⟩
  .exact h.elim
 |mm mx x y=>
  simp only[AF.wp]at h|-;split at h
  .rename_i k a k' b B ζ
   try simp only[B,ζ]
   refine ⟨h.1,BJ h.2 rfl rfl λenv2 A G u=>?_⟩;simp only[AF.wp,A.val (x:=x) (λs h=>D9 h),A.val (x:=y) (λs h=>Em h),B,ζ];exact⟨h.1,u⟩
  .exact h.elim
 |alc cs=>
  simp only[AF.wp]at h|-;split at h
  .rename_i d;refine⟨h.1,h.2,.none,rfl,trivial,V,V,(λs he=>p!),λ_=>⟨rfl,λd' hd=>?_⟩,V,λenv2 A G u=>?_⟩
   .simp only[p0]at hd;subst hd;exact h.1
   .simp only[AF.wp];exact⟨A.new rfl _ rfl h.1,u⟩
  .exact h.elim
 |st n x v=>cases I
 |stb n s v=>cases I
 |frz s=>cases I
 |xal s=>
  simp only[AF.wp]at h|-;split at h
  .rename_i n es M
   try simp only[M]
   refine ⟨h,.none,rfl,trivial,V,V,?_,h!,V,λenv2 A G u=>?_⟩
   .intro s' he;simp only[EV.x6,p0]at he;exact .inl (by simp[AF.Aa1,he])
   .have C:=(A.sl s g_).xo M;simp only[AF.wp,C];exact u
  .exact h.elim
 |Abt x=>
  simp only[AF.wp]at h|-;cases B:x.x5 O with
  |none=>rw[B]at h;exact h.elim|some p=>
   rw [B]at h;simp only[A0]at h|-;refine BJ h rfl rfl λenv2 A G u=>?_;simp only[AF.wp,A.x5 (x:=x) (λs h=>h),B,A0];exact u
 |lan x=>
  simp only[AF.wp]at h|-;split at h
  .rename_i s off B;cases L:O.nat s off with
   |none=>rw[L]at h;exact h.elim|some es=>
    rw [L]at h;simp only[A0]at h
    try simp only[B,L]
    have H:∃n∈x.sl,O.get n=.bp s off:=by
     cases x with
     |c t=>simp[AH.ev]at B|s n=>exact⟨n,f_,B⟩
    obtain ⟨n,Q,hb⟩:=H;refine⟨h,.none,rfl,trivial,V,V,?_,h!,V,λenv2 A G u=>?_⟩
    .intro s' he;simp only[EV.x6,p0]at he;subst he;exact .inr ⟨n,Q,g!⟩
    .have E:=(A.ev (x:=x) (λs h=>h)).bp B;have C:=(A.bp n Q s g!).nat off;rw[L]at C;simp only[AF.wp,E,C,A0];exact u
  .exact h.elim
 |nld x=>
  simp only[AF.wp]at h|-;split at h
  .rename_i s off r B;cases L:O.nat s off with
   |none=>rw[L]at h;exact h.elim|some es=>
    rw [L]at h;simp only[A0]at h;obtain⟨Z,h⟩:=h
    try simp only[B,L]
    have H:∃n∈x.sl,O.get n=.nh s off (.el r):=by
     cases x with
     |c t=>simp[AH.ev]at B|s n=>exact⟨n,f_,B⟩
    obtain ⟨n,Q,hb⟩:=H;refine⟨Z,h,.none,rfl,trivial,V,V,?_,h!,V,λenv2 A G u=>?_⟩
    .intro s' he;simp only[EV.x6,p0]at he;subst he;exact .inr ⟨n,Q,g!⟩
    .have E:=(A.ev (x:=x) (λs h=>h)).nh B;have C:=(A.bp n Q s g!).nat off;rw[L]at C;simp only[AF.wp,E,C,A0];exact⟨Z,u⟩
  .exact h.elim
 |nia x i=>
  simp only[AF.wp]at h|-;split at h
  .rename_i s off k j B δ;cases L:O.nat s off with
   |none=>rw[L]at h;exact h.elim|some es=>
    rw [L]at h;simp only[A0]at h;obtain⟨Z,J,h⟩:=h
    try simp only[B,δ,L]
    have H:∃n∈x.sl,O.get n=.nh s off .hd:=by
     cases x with
     |c t=>simp[AH.ev]at B|s n=>exact⟨n,f_,B⟩
    obtain ⟨n,Q,hb⟩:=H;refine⟨Z,J,h,.none,rfl,trivial,V,V,?_,h!,V,λenv2 A G u=>?_⟩
    .intro s' he;simp only[EV.x6,p0]at he;subst he;exact .inr ⟨n,D9 Q,g!⟩
    .have E:=(A.ev (x:=x) (λs h=>D9 h)).nh B;have e2:=A.val (x:=i) (λs h=>Em h);have C:=(A.bp n (D9 Q) s g!).nat off;rw[L]at C;simp only[AF.wp,E,e2,δ,C,A0];exact⟨Z,J,u⟩
  .rename_i s off r k j B δ;cases L:O.nat s off with
   |none=>rw[L]at h;exact h.elim|some es=>
    rw [L]at h;simp only[A0]at h;obtain⟨Z,fs,J,κ,h⟩:=h
    try simp only[B,δ,L]
    have H:∃n∈x.sl,O.get n=.nh s off (.rw r):=by
     cases x with
     |c t=>simp[AH.ev]at B|s n=>exact⟨n,f_,B⟩
    obtain ⟨n,Q,hb⟩:=H;refine⟨Z,fs,J,κ,h,.none,rfl,trivial,V,V,?_,h!,V,λenv2 A G u=>?_⟩
    .intro s' he;simp only[EV.x6,p0]at he;subst he;exact .inr ⟨n,D9 Q,g!⟩
    .have E:=(A.ev (x:=x) (λs h=>D9 h)).nh B;have e2:=A.val (x:=i) (λs h=>Em h);have C:=(A.bp n (D9 Q) s g!).nat off;rw[L]at C;simp only[AF.wp,E,e2,δ,C,A0];exact⟨Z,fs,J,κ,u⟩
  .exact h.elim
 |lac x=>
  simp only[AF.wp]at h|-;split at h
  .rename_i s off B;split at h
   .rename_i p L
    try simp only[B,L]
    have H:∃n∈x.sl,O.get n=.bp s off:=by
     cases x with
     |c t=>simp[AH.ev]at B|s n=>exact⟨n,f_,B⟩
    obtain ⟨n,Q,hb⟩:=H;refine⟨h,.none,rfl,trivial,V,V,?_,h!,V,λenv2 A G u=>?_⟩
    .intro s' he;simp only[EV.x6,p0]at he;subst he;exact .inr ⟨n,Q,g!⟩
    .have E:=(A.ev (x:=x) (λs h=>h)).bp B;have C:=(A.bp n Q s g!).so (Y off);rw[L]at C;simp only[AF.wp,E,C];exact u
   .exact h.elim
  .exact h.elim
 |ctk _=>cases I
 |cpt _ _=>cases I
 |cut _ _ _=>cases I
 |Abd _ _ _ _=>cases I
 |Aa3 g xs=>
  simp only[AF.wp]at h|-;cases F:Go.Sf.vals O xs with
  |none=>rw[F]at h;exact h.elim|some θ=>
   rw [F]at h;simp only[A0]at h|-;obtain⟨r,E,C⟩:=h;refine⟨r,E,BJ C rfl rfl λenv2 A G u=>?_⟩;simp only[AF.wp,A.vals (xs:=xs) (λs h=>h),F,A0];exact⟨r,E,u⟩
 |Aas _ _ _=>cases I
 |AaM g xs=>
  simp only[AF.wp]at h|-;cases F:Go.Sf.Aau O xs with
  |none=>rw[F]at h;exact h.elim|some θ=>
   rw [F]at h;simp only[A0]at h|-;obtain⟨r,E,C⟩:=h;refine⟨r,E,λε=>BJ (C ε) rfl (by cases r<;>rfl) λenv2 A G u=>?_⟩;simp only[AF.wp,A.Aau (xs:=xs) (λs h=>h),F,A0];exact⟨r,E,λ_=>u⟩
 |Abi ps x=>
  simp only[AF.wp]at h|-;split at h
  .rename_i t d B
   try simp only[B]
   cases F:E2 ps t.cells with
   |none=>rw[F]at h;exact h.elim|some cs=>
    rw [F]at h;simp only[A0]at h|-;refine⟨h.1,h.2,.none,rfl,trivial,V,V,(λs he=>p!),λ_=>⟨rfl,λd' hd=>?_⟩,V,λenv2 A G u=>?_⟩
    .simp only[p0]at hd;subst hd;exact h.1
    .simp only[AF.wp,A.val (x:=x) (λs h=>h),B,F,A0];exact⟨A.new rfl _ rfl h.1,u⟩
  .exact h.elim
 |xia x i n=>
  simp only[AF.wp]at h|-;cases B:x.x5 O with
  |none=>rw[B]at h;exact h.elim|some p=>
   rw [B]at h;simp only[A0]at h|-;split at h
   .rename_i ik j δ
    try simp only[δ]
    obtain ⟨⟨E,C⟩,J,κ,h5⟩:=h;have H:∃n∈x.sl,(O.get n).x6=Y p.1.1:=by
     cases x with
     |c t=>simp[AH.ev,EV.x6]at E|s n=>exact⟨n,f_,E⟩
    obtain ⟨m,hm',hr⟩:=H;refine⟨⟨E,C⟩,J,κ,h5,.none,rfl,trivial,V,V,?_,h!,V,λenv2 A G u=>?_⟩
    .intro s' he;simp only[EV.x6,p0]at he;subst he;exact .inr ⟨m,D9 hm',hr⟩
    .have e1:=A.x5 (x:=x) (λs h=>D9 h);have e2:=A.val (x:=i) (λs h=>Em h);have e3:=(A.ev (x:=x) (λs h=>D9 h)).x6;simp only[AF.wp,e1,B,e2,δ,A0,e3,E];exact⟨⟨trivial,C⟩,J,κ,u⟩
   .exact h.elim
 |xfa x k=>
  simp only[AF.wp]at h|-;split at h
  .rename_i q i c B;split at h
   .rename_i p L
    try simp only[B,L]
    have H:∃n∈x.sl,O.get n=.lp q i c:=by
     cases x with
     |c t=>simp[AH.ev]at B|s n=>exact⟨n,f_,B⟩
    obtain ⟨n,Q,hb⟩:=H;refine⟨h,.none,rfl,trivial,V,V,?_,h!,V,λenv2 A G u=>?_⟩
    .intro s' he;simp only[EV.x6,p0]at he;subst he;exact .inr ⟨n,Q,g!⟩
    .have E:=(A.ev (x:=x) (λs h=>h)).AbB (q:=q) (by rw[B];rfl);have C:=(A.bp n Q q g!).so i;rw[L]at C;simp only[AF.wp,E,B,C];exact u
   .exact h.elim
  .exact h.elim
 |xld x=>
  simp only[AF.wp]at h|-;split at h
  .rename_i q i c B;split at h
   .rename_i p L
    try simp only[B,L]
    cases F:(p.2.flatMap TV.cells)[c]? with
    |none=>rw[F]at h;exact h.elim|some t=>
     rw [F]at h;simp only[A0]at h|-;have H:∃n∈x.sl,O.get n=.lp q i c:=by
      cases x with
      |c t=>simp[AH.ev]at B|s n=>exact⟨n,f_,B⟩
     obtain ⟨n,Q,hb⟩:=H;refine BJ h rfl rfl λenv2 A G u=>?_;have E:=(A.ev (x:=x) (λs h=>h)).AbB (q:=q) (by rw[B];rfl);have C:=(A.bp n Q q g!).so i;rw[L]at C;simp only[AF.wp,E,B,C,F,A0];exact u
   .exact h.elim
  .exact h.elim
 |xst _ _ _=>cases I
 |rel _=>cases I
 |Abh _=>cases I
 |tkx _=>cases I
 |Aa4 _ _ _=>cases I
 |AaE g xs=>
  simp only[AF.wp]at h|-;split at h
  .rename_i d;obtain⟨R,h⟩:=h;refine⟨R,?_⟩;cases F:Go.Sf.vals O xs with
   |none=>rw[F]at h;exact h.elim|some θ=>
    rw [F]at h;simp only[A0]at h|-;obtain⟨n,es,E,C⟩:=h;refine⟨n,es,E,λε=>⟨C ε,.none,rfl,trivial,V,V,(λs he=>p!),λ_=>⟨rfl,λd' hd=>?_⟩,V,λenv2 A G u=>?_⟩⟩
    .simp only[p0]at hd;subst hd;exact R
    .simp only[AF.wp,A.vals (xs:=xs) (λs h=>h),F,A0];exact⟨A.new rfl _ rfl R,n,es,E,λ_=>u⟩
  .exact h.elim
 |mkx n z x=>
  simp only[AF.wp]at h|-;split at h
  .rename_i d k j B
   try simp only[B]
   obtain ⟨R,E,C,J⟩:=h;refine⟨R,E,C,J,.none,rfl,trivial,V,V,(λs he=>p!),λ_=>⟨rfl,λd' hd=>?_⟩,V,λenv2 A G u=>?_⟩
   .simp only[p0]at hd;subst hd;exact R
   .simp only[AF.wp,A.val (x:=x) (λs h=>h),B];exact⟨A.new rfl _ rfl R,E,C,u⟩
  .exact h.elim
 |AaB _ _ _=>cases I
 |AaY _ _=>cases I
 |Aaj _=>cases I
 |Abm _=>cases I
 |AaJ _ _=>cases I
 |nst _ _=>cases I
 |Abw _=>cases I
 |AaL _ _ _=>cases I
 |ldg _ _=>cases I
 |stq _ _ _ _=>cases I
 |mkm=>cases I
 |mvm _=>cases I
 |AaF _ _=>cases I
 |mlk _ _ _=>cases I
 |mup _ _ _ _=>cases I
 |tg _ _=>cases I
 |mnx _=>cases I
 |men _=>cases I
 |Abk _=>cases I
 |stx _ _ _=>cases I
 |isn _=>cases I
 |Aa2 g xs=>
  simp only[AF.wp]at h|-;cases F:Go.Sf.vals O xs with
  |none=>rw[F]at h;exact h.elim|some θ=>
   rw [F]at h;simp only[A0]at h|-;obtain⟨r,E,C⟩:=h;refine⟨r,E,λε=>BJ (C ε) rfl rfl λenv2 A G u=>?_⟩;simp only[AF.wp,A.vals (xs:=xs) (λs h=>h),F,A0];exact⟨r,E,λ_=>u⟩
 |Aaz g xs=>
  simp only[AF.wp]at h|-;cases F:Go.Sf.vals O xs with
  |none=>rw[F]at h;exact h.elim|some θ=>
   rw [F]at h;simp only[A0]at h|-;obtain⟨r,E,J,C⟩:=h;refine⟨r,E,J,λε=>BJ (C ε) rfl rfl λenv2 A G u=>?_⟩;simp only[AF.wp,A.vals (xs:=xs) (λs h=>h),F,A0];exact⟨r,E,J,λ_=>u⟩
 |Abs x k n agg=>
  simp only[AF.wp]at h|-;split at h
  .rename_i cs B
   try simp only[B]
   obtain ⟨E,C⟩:=h;refine⟨E,?_⟩;cases agg with
   |true=>
    simp only[if_true]at C|-;refine BJ C rfl rfl λenv2 A G u=>?_;simp only[AF.wp,A.val (x:=x) (λs h=>h),B,if_true];exact⟨E,u⟩
   |false=>
    simp only[C',if_false]at C|-;cases F:IJ (cs.drop k)with
    |none=>rw[F]at C;exact C.elim|some t=>
     rw [F]at C;simp only[A0]at C|-;refine BJ C rfl rfl λenv2 A G u=>?_;simp only[AF.wp,A.val (x:=x) (λs h=>h),B,C',if_false,F,A0];exact⟨E,u⟩
  .exact h.elim
end
end Go.Sf
namespace Go.Sf
open Go.RowKit (Below)
theorem AB.ek(d k:Nat)(e:EV)(O:AB):AB.gt d ((k,e)::O)=(e.noR d&&AB.gt d O):=rfl
variable{d:Nat}{e:EV}
def Vs(h:∀s,e.x6=Y s->s≠d):e.noR d=X:=by grind[EV.noR]
def BV.gt(f:BV)(O:AB)(d:Nat):AB.gt d (f.app O)=AB.gt d O:=by
 cases f with
 |none=>rfl|slot s t=>simp[BV.app,AB.ek,EV.noR,EV.x6]|cell s off t=>
  grind [BV.app,AB.ek,EV.noR,EV.x6]
def BV.on(f:BV)(n:Nat)(e:EV):EV:=
 match f with
 |.none=>e|.slot s t=>if s=n then .tv t else e|.cell s off t=>if s=n then(match e with|.bx cs=>.bx (cs.set off ⟨T,t⟩)|e=>e)else e
def BV.get(f:BV)(O:AB)(n:Nat):AB.get (f.app O) n=f.on n (O.get n):=by
 cases f with
 |none=>rfl|slot s t=>simp[BV.app,AB.d7,BV.on]|cell s off t=>
  simp [BV.app,BV.on]
  grind [AB.d7]
def Ow(O env2:AB):Prop:=(∀n,O.get n=env2.get n)/\∀d,O.gt d=env2.gt d
def Ow.refl(O:AB):Ow O O:=⟨λ_=>rfl,λ_=>rfl⟩
def Ow.trans{a b c:AB}(h:Ow a b)(g:Ow b c):Ow a c:=⟨λn=>(h.1 n).trans (g.1 n),λd=>(h.2 d).trans (g.2 d)⟩
def Ow.symm{a b:AB}(h:Ow a b):Ow b a:=⟨λn=>(h.1 n).symm,λd=>(h.2 d).symm⟩
variable{a:Act}{w:World}
def CE.congr{F0:Nat->Nat->Prop}{w0:W0}{O env2:AB}(h:CE F0 w0 O a w)(he:∀n,O.get n=env2.get n):CE F0 w0 env2 a w:=by
 obtain ⟨G,h⟩:=h;refine⟨G,h.ln,h.lt,h.below,h.defers,λq b=>?_,λq b=>?_,λq=>?_⟩
 .rw[<-he];exact h.dom q b
 .rw[<-he];refine AN.kept (RY _ _) (λ_=>rfl) (λ_ _ _ _=>rfl) rfl BY.rfl' (λr i k hr⟨p,c⟩=>⟨⟨p,(AB.Aar (he r)).trans c⟩,λ_ hv=>hv⟩) (λr off hr⟨cs,g⟩=>⟨⟨cs,by rw[he];exact g⟩,rfl⟩) (λr i hr⟨p,c⟩=>⟨⟨p,(AB.Aal (he r)).trans c⟩,λ_ hv=>hv⟩) (h.slots q b)
 .rw[<-he];exact h.wf q
def F6(S:FuncId->Fq->BA->Prop)(K:AB->Prop):List PR->AB->Prop
 |[],O=>∃e,Ow e O/\K e|r::rs,O=>∃e,Ow e O/\r.wp S e (F6 S K rs)
section
variable{S:FuncId->Fq->BA->Prop}{K:AB->Prop}
variable{rs:List PR}
theorem JF{O env2:AB}(h:F6 S K rs O)(he:Ow O env2):F6 S K rs env2:=by
 cases rs with
 |nil=>obtain⟨e,b,c⟩:=h;exact⟨e,b.trans he,c⟩
 |cons r rs=>obtain⟨e,b,c⟩:=h;exact⟨e,b.trans he,c⟩
theorem qB:∀{rs:List PR}{O:AB},wpOps S K rs O->F6 S K rs O
 |[],O,h=>⟨O,.refl _,h⟩|r::rs,O,h=>⟨O,.refl _,PR.ls S O (λe he=>qB he) r h⟩
def PR.gsl(r:PR):QQ:=
 match r.guard with
 |some (g,_)=>[g]|none=>[]
structure Qv(S:FuncId->Fq->BA->Prop)(r:PR)(d:Nat)(O l3:AB)(e:EV)(f:BV):Prop where
 l3:l3=(d,e)::f.app O
 ok:f.ok O
 slot:∀s t,f=.slot s t->s∈r.op.dem
 cell:∀s off t,f=.cell s off t->(s∈r.op.slots\/∃x∈r.op.slots,(O.get x).x6=Y s)
 x6:∀s,e.x6=Y s->(s∈r.op.Aa1\/∃x∈r.op.slots,(O.get x).x6=Y s)
 new:r.op.r0=X->e.x6=W/\O.gt d=X
 xl:∀s off t,f=.cell s off t->t.AaI=T
 again:∀env2,Ez r.op f (Y d) O env2->(∀g∈r.gsl,env2.get g=O.get g)->∀K2:AB->Prop,K2 ((d,e)::f.app env2)->r.wp S env2 K2
variable{r:PR}{d:Nat}
def Q2{O:AB}(hd:r.dst=Y d)(G:r.op.mov=X)(L:r.op.r0=X->r.guard=W)(h:r.wp S O K):r.wp S O λl3=>K l3/\∃e f,Qv S r d O l3 e f:=by
 have F:∀(z:∀env2,(∀g∈r.gsl,env2.get g=O.get g)->∀A:AB->Prop,(r.op.wp S env2 (Y d) λe env'=>A (env'.put (Y d) e))->r.wp S env2 A),(r.op.wp S O (Y d) λe env'=>K (env'.put (Y d) e))->r.op.wp S O (Y d) λe env'=>K (env'.put (Y d) e)/\∃e' f,Qv S r d O (env'.put (Y d) e) e' f:=by
  intro z I;refine AF.ls S O (Y d) (λe env' he=>?_) r.op (frame G I);obtain⟨J,f,c⟩:=he;refine⟨J,e,f,?_,c.ok,c.slot,c.cell,c.x6,λB=>⟨(c.new B).1,(c.new B).2 d rfl⟩,c.xl,λenv2 H l A j=>?_⟩
  .simp[AB.put];rw[c.env']
  .exact z env2 l A (c.again env2 H _ j)
 unfold PR.wp at h|-;cases u:r.guard with
 |none=>
  grind [PR.wp]
 |some gb=>
  obtain ⟨g,b⟩:=gb;rw[u]at h;rw[hd]at h|-;simp only at h|-;have l:g∈r.gsl:=by simp[PR.gsl,u]
  split at h
  .rename_i q E;refine⟨λhb=>F (λenv2 c A j=>?_) (h.1 hb),λhb=>⟨h.2 hb,.sk,.none,rfl,trivial,V,V,(λs he=>p!),λB=>?_,V,λenv2 _ c A j=>?_⟩⟩
   .grind[PR.wp]
   .grind
   .unfold PR.wp;rw[u,hd];simp only;rw[c g l,E];exact⟨λC=>by subst C;cases q<;>simp at hb,λ_=>j⟩
  .rename_i E;refine⟨h,.sk,.none,rfl,trivial,V,V,(λs he=>p!),λB=>?_,V,λenv2 _ c A j=>?_⟩
   .grind
   .unfold PR.wp;rw[u,hd];simp only;rw[c g l,E];exact j
  .exact h.elim
end
section
variable{P:Program}{F0:Nat->Nat->Prop}{w0:W0}{N:Nat}{ops:Array Oper}{K:AB->Prop}
def Nw(F0:Nat->Nat->Prop)(w0:W0)(N:Nat)(O:AB):Prop:=∃a w,a.tmps.size=N/\CE F0 w0 O a w
def Nw.congr{O env2:AB}(h:Nw F0 w0 N O)(he:Ow O env2):Nw F0 w0 N env2:=by
 obtain ⟨a,w,b,c⟩:=h;exact⟨a,w,b,c.congr he.1⟩
variable{s:Nat}{t:TV}
def Nw.list{O:AB}(h:Nw F0 w0 N O)(b:O.get s=.ow t):∃n es,t=.list n es:=by
 obtain ⟨a,w,_,G,c⟩:=h;have:=At c b V;simp[AN]at this;cases t<;>simp[CI]at this;exact⟨_,_,rfl⟩
variable{o:Oper}{a:Act}{w:World}
def mg{ζ:Prop}(h:o.wp P a w (λ_ _=>ζ) (λ_ _ _=>False)):ζ:=by
 unfold Oper.wp at h;generalize (execOp a.eval o).run P w=r at h;cases r with
 |ok n w'=>
  cases n with
  |value v=>exact h|skip=>exact h|defer d=>exact h|enter f args=>
   rw [Oper.upon_enter]at h;obtain⟨e,g,fr,b,_⟩:=h [];cases e with
   |returned v=>exact b|panicked c=>exact b.elim|outgrown=>obtain⟨_,_,j⟩:=b;exact j.elim
  |row r args=>
   rw [Oper.upon_row]at h;obtain⟨v,g,b,_⟩:=h default [];exact b
  |_=>exact h.elim
 |halt x w'=>
  cases x<;>exact h.elim
variable{r:PR}
def Gi{O:AB}(c:Nw F0 w0 N O)(b:N2 P N ops o r=X)(h:r.wp (AV P) O K):∃env',K env'/\Nw F0 w0 N env':=by
 obtain ⟨a,w,u,z⟩:=c;have:=Xk (p:=W) (next:=λ_ _=>∃env',K env'/\Nw F0 w0 N env') (Q:=λ_ _ _=>False) z ⟨u,V⟩ V b h λenv' a' w' g j l=>⟨env',g,a',w',j.size,l⟩;split at this
 .exact mg this
 .exact this
end
def Ff(xs ys:QQ):Bool:=xs.all λx=>!ys.contains x
theorem BC{xs ys:QQ}(h:Ff xs ys=X){x:Nat}(b:x∈xs)(c:x∈ys):False:=by grind[Ff,y?,C!]
def PR.old(r:PR):QQ:=
 if r.op.r0 then[]else r.dst.toList
def PR.Aae(D:QQ)(r:PR):Bool:=
 r.op.mov&&r.dst.isSome&&(!r.op.r0||r.guard.isNone)&&Ff r.op.Aa1 D&&r.old.all D.contains
def Yv(D:QQ)(p q:PR):Bool:=
 PR.Aae D p&&PR.Aae D q&&Ff p.dst.toList (q.dst.toList++(q.op.slots++q.gsl))&&Ff q.dst.toList (p.op.slots++p.gsl)&&Ff p.op.dem (q.op.dem++q.gsl)&&Ff q.op.dem p.gsl
variable{s:Nat}
theorem Cp{op:AF}(h:s∈op.dem):s∈op.slots:=by
 cases op<;>simp only[AF.dem,List.not_mem_nil]at h<;>simp only[AF.slots]
 .exact h
 .exact D9 h
def kv{op:AF}(h:s∈op.Aa1):s∈op.slots:=by
 cases op<;>simp[AF.Aa1]at h<;>simp[AF.slots]
 all_goals exact h
def JD(D:QQ)(O:AB):Prop:=∀d∈D,O.gt d=X
def JD.congr{D:QQ}{O env2:AB}(h:JD D O)(he:Ow O env2):JD D env2:=λd hd=>by rw[<-he.2];exact h d hd
def JD.no{D:QQ}{O:AB}(h:JD D O){x s:Nat}(b:(O.get x).x6=Y s):s∉D:=λhd=>AB.z5 s O (h s hd) x b
section
variable{S:FuncId->Fq->BA->Prop}
variable{r:PR}{d:Nat}{e:EV}
def Qv.jd{D:QQ}{O l3:AB}{f:BV}(h:Qv S r d O l3 e f)(hb:Ff r.op.Aa1 D=X)(g:JD D O):JD D l3:=by
 intro x c;rw[h.l3,AB.ek,BV.gt,g x c,C?];refine Vs (λs he b=>?_);subst b;rcases h.x6 s he with j|⟨y,_,l⟩
 .exact BC hb j c
 .exact g.no l c
def BV.like(f:BV){O:AB}(b:f.ok O)(c:∀s t,O.get s=.ow t->∃n es,t=.list n es)(h:∀s off t,f=.cell s off t->t.AaI=T)(n:Nat):(O.get n).like (f.on n (O.get n)):=by
 cases f with
 |none=>exact .inl rfl|slot s t=>
  simp [BV.on];split
  next e=>subst e;simp[BV.ok]at b;obtain⟨m,es,rfl⟩:=c s t b;exact .inr (.inl ⟨m,es,.inr ⟨b,rfl⟩⟩)
  .exact .inl rfl
 |cell s off t=>
  simp [BV.on];split
  .rename_i e;subst e;obtain⟨cs,g,j⟩:=b;rw[g];refine .inr (.inr ⟨cs,_,rfl,rfl,?_⟩);rw[List.map_set];refine List.ext_getElem? λi=>?_
   grind [c9,z_,AS.key]
  .exact .inl rfl
end
variable{r:PR}
def UV{S:FuncId->Fq->BA->Prop}{O:AB}{K:AB->Prop}(h:r.wp S O K):∀g∈r.gsl,∃b,O.get g=b/\(∀cs,b≠.bx cs)/\(∀t,b≠.ow t)/\∀cs,b≠.oag cs:=by grind[PR.gsl,PR.wp,z!]
section
variable{P:Program}{F0:Nat->Nat->Prop}{w0:W0}{N:Nat}{ops:Array Oper}{K:AB->Prop}{D:QQ}
variable{rs:List PR}
theorem swap{O:AB}(hR:Nw F0 w0 N O)(hj:JD D O){op oq:Oper}{p q:PR}(hp:N2 P N ops op p=X)(hq:N2 P N ops oq q=X)(κ:Yv D p q=X)(h:F6 (AV P) K (p::q::rs) O):F6 (AV P) K (q::p::rs) O:=by
 simp [Yv,PR.Aae,C!]at κ;obtain⟨⟨⟨⟨⟨⟨⟨⟨⟨pm,pd⟩,pg⟩,pb⟩,pD⟩,⟨⟨⟨qm,qd⟩,qg⟩,qb⟩,qD⟩,c1⟩,c2⟩,c3⟩,c4⟩:=κ;obtain⟨J,hdp⟩:=D!.1 pd;obtain⟨H,hdq⟩:=D!.1 qd;rw[hdp]at c1;rw[hdq]at c1 c2;simp at c1 c2;have hpq:J≠H:=λe=>BC c1 (x:=J) V d_;have M:J∉q.op.slots:=λe=>BC c1 (x:=J) V d_;have pngq:J∉q.gsl:=λe=>BC c1 (x:=J) V d_;have θ:H∉p.op.slots:=λe=>BC c2 (x:=H) V d_;have qngp:H∉p.gsl:=λe=>BC c2 (x:=H) V d_;have dd:∀s,s∈p.op.dem->s∈q.op.dem->False:=λs c u=>BC c3 c (D9 u);have dg1:∀s,s∈p.op.dem->s∈q.gsl->False:=λs c u=>BC c3 c (Em u);have dg2:∀s,s∈q.op.dem->s∈p.gsl->False:=λs c u=>BC c4 c u;have oldp:p.op.r0=X\/J∈D:=by
  cases I:p.op.r0 with
  |true=>exact .inl rfl|false=>exact .inr (by simpa[PR.old,I,hdp]using pD)
 have oldq:q.op.r0=X\/H∈D:=by
  cases I:q.op.r0 with
  |true=>exact .inl rfl|false=>exact .inr (by simpa[PR.old,I,hdq]using qD)
 have pg':p.op.r0=X->p.guard=W:=λI=>by
  rcases pg with h|h
  .rw[I]at h;cases h
  .simpa using h
 have qg':q.op.r0=X->q.guard=W:=λI=>by
  rcases qg with h|h
  .rw[I]at h;cases h
  .simpa using h
 obtain ⟨e',heq,h⟩:=h;have hR':=hR.congr heq.symm;have hj':=hj.congr heq.symm;obtain⟨l3,⟨⟨e1,G,hw⟩,ep,ε,E⟩,hR1⟩:=Gi hR' hp (Q2 hdp pm pg' h);have hRe1:=hR1.congr G.symm;have hj1:=E.jd pb hj';have hje1:=hj1.congr G.symm;obtain⟨X1,⟨hK,eq,L,R⟩,_⟩:=Gi hRe1 hq (Q2 hdq qm qg' hw);have g1:∀n,e1.get n=if J=n then ep else ε.on n (e'.get n):=λn=>by
  rw [G.1,E.l3,AB.d7,BV.get]
 have η:∀x s,(e1.get x).x6=Y s->s≠J:=by
  intro x s hx F;subst F;rcases oldp with I|hd
  .refine AB.z5 s e1 ?_ x hx;rw[G.2,E.l3,AB.ek,BV.gt,(E.new I).2,C?];exact Vs (λs he _=>by rw[(E.new I).1]at he;cases he)
  .exact hje1.no hx hd
 have nq':∀x s,(e'.get x).x6=Y s->s≠H:=by
  intro x s hx F;subst F;rcases oldq with I|hd
  .have c:=(R.new I).2;rw[G.2,E.l3,AB.ek,BV.gt,mo]at c;exact AB.z5 s e' c.2 x hx
  .exact hj'.no hx hd
 have lk:∀n,n≠J->(e1.get n).like (e'.get n):=by
  intro n I;rw[g1,ae (λe=>I e.symm)];exact(BV.like ε E.ok (λs t F=>hR'.list F) E.xl n).symm
 have fpdq:∀e,ε.on H e=e:=by
  intro e;have:=E.slot;have u:=E.cell;cases ε with
  |none=>rfl|slot s t=>
   simp only[BV.on];rw[ae];intro he;subst he;exact θ (Cp (this _ _ rfl))
  |cell s off t=>
   simp only[BV.on];rw[ae];intro he;subst he;rcases u _ _ _ rfl with z|⟨x,_,Q⟩
   .exact θ z
   .exact nq' x _ Q rfl
 have ζ:∀e,L.on J e=e:=by
  intro e;have:=R.slot;have u:=R.cell;cases L with
  |none=>rfl|slot s t=>
   simp only[BV.on];rw[ae];intro he;subst he;exact M (Cp (this _ _ rfl))
  |cell s off t=>
   simp only[BV.on];rw[ae];intro he;subst he;rcases u _ _ _ rfl with z|⟨x,_,Q⟩
   .exact M z
   .exact η x _ Q rfl
 have B:L.ok e':=by
  have l:=R.ok;have hsl:=R.slot;have hc:=ζ;cases L with
  |none=>trivial|slot s t=>
   simp [BV.ok]at l|-;have F:=hsl s t rfl;have j:J≠s:=λe=>M (e▸Cp F);rw[g1,ae j]at l;have c:=E.slot;have u:=E.ok;cases ε with
   |none=>exact l|slot s' C=>
    simp [BV.on]at l;rw[ae (λ(e:s'=s)=>dd s' (c _ _ rfl) (by rw[e];exact F))]at l;exact l
   |cell s' off C=>
    simp [BV.on]at l;split at l
    next e=>subst e;obtain⟨cs,z,_⟩:=u;rw[z]at l;cases l
    .exact l
  |cell s off t=>
   obtain ⟨cs,c,u⟩:=l;have j:J≠s:=λe=>by
    have:=hc (.bx [⟨X,.undef⟩,⟨X,.undef⟩]);rcases R.cell s off t rfl with z|⟨x,_,Q⟩
    .exact M (e▸z)
    .exact η x s Q e.symm
   rw [g1,ae j]at c;have z:=E.ok;cases ε with
   |none=>exact⟨cs,c,u⟩|slot s' C=>
    simp [BV.on]at c;split at c
    .cases c
    .exact⟨cs,c,u⟩
   |cell s' A C=>
    simp [BV.on]at c;split at c
    .rename_i e;subst e;obtain⟨cs',Q,h5⟩:=z;rw[Q]at c;simp[EV.bx.injEq]at c;subst c;rw[z?]at u;split at u
     .split at u
      .simp at u
      .cases u
     .exact⟨cs',Q,u⟩
    .exact⟨cs,c,u⟩
 have L1:Ez q.op L (Y H) e1 e':=by
  refine ⟨λs F=>lk s (λe=>M (e▸F)),λs F r hb=>lk r (η s r hb),λs F hnb=>?_,B,λI d hd Z=>?_⟩
  .have j:J≠s:=λe=>M (e▸Cp F);rw[g1,ae j];have c:=E.slot;have u:=E.ok;cases ε with
   |none=>rfl|slot s' C=>
    simp only[BV.on];rw[ae (λ(e:s'=s)=>dd s' (c _ _ rfl) (by rw[e];exact F))]
   |cell s' off C=>
    simp only[BV.on];split
    next e=>subst e;obtain⟨cs,z,_⟩:=u;exfalso;refine hnb (cs.set off ⟨T,C⟩) ?_;rw[g1,ae j];simp[BV.on,z]
    .rfl
  .rw[G.2,E.l3,AB.ek,BV.gt,mo]at Z;exact Z.2
 have hgq:∀g∈q.gsl,e'.get g=e1.get g:=by
  intro g hg;have j:J≠g:=λe=>pngq (e▸hg);obtain⟨b,hb,hnx,_⟩:=UV hw g hg;have δ:=hb;rw[g1,ae j]at δ;rw[g1,ae j];have c:=E.slot;have u:=E.ok;cases ε with
  |none=>rfl|slot s' C=>
   simp only[BV.on];rw[ae (λ(e:s'=g)=>dg1 s' (c _ _ rfl) (by rw[e];exact hg))]
  |cell s' off C=>
   simp only[BV.on]at δ|-;split
   next e=>subst e;obtain⟨cs,z,_⟩:=u;rw[z]at δ;simp at δ;exact absurd δ.symm (hnx _)
   .rfl
 have hgp:∀g∈p.gsl,AB.get ((H,eq)::L.app e') g=e'.get g:=by
  intro g hg;have j:H≠g:=λe=>qngp (e▸hg);obtain⟨b,hb,hnx,_⟩:=UV h g hg;rw[AB.d7,ae j,BV.get];have c:=R.slot;cases L with
  |none=>rfl|slot s' C=>
   simp only[BV.on];rw[ae (λ(e:s'=g)=>dg2 s' (c _ _ rfl) (by rw[e];exact hg))]
  |cell s' off C=>
   simp only[BV.on];split
   next e=>subst e;obtain⟨cs,z,_⟩:=B;rw[z]at hb;exact absurd hb.symm (hnx _)
   .rfl
 have offs:∀s off t A C,ε=.cell s off t->L=.cell s A C->off≠A:=by
  intro s off t A C c u ho;subst ho;have z:=R.ok;have Q:=E.ok;have h5:=ζ;rw[c]at Q;rw[u]at z;obtain⟨cs,h6,h7⟩:=Q;obtain⟨ds,h8,h9⟩:=z;have j:J≠s:=λe=>by
   rcases R.cell s off C u with z|⟨x,_,Q⟩
   .exact M (e▸z)
   .exact η x s Q e.symm
  rw [g1,ae j,c]at h8;simp[BV.on,h6,EV.bx.injEq]at h8;subst h8;rw[z?,ac rfl]at h9;split at h9
  .simp at h9
  .cases h9
 have g2:∀n,AB.get ((H,eq)::L.app e') n=if H=n then eq else L.on n (e'.get n):=λn=>by
  rw [AB.d7,BV.get]
 have lk2:∀n,n≠H->(e'.get n).like (AB.get ((H,eq)::L.app e') n):=by
  intro n I;rw[g2,ae (λe=>I e.symm)];exact BV.like L B (λs t F=>hR'.list F) R.xl n
 have L2:Ez p.op ε (Y J) e' ((H,eq)::L.app e'):=by
  refine ⟨λs F=>lk2 s (λe=>θ (e▸F)),λs F r hb=>lk2 r (nq' s r hb),λs F hnb=>?_,?_,λI d hd Z=>?_⟩
  .have j:H≠s:=λe=>θ (e▸Cp F);rw[g2,ae j];have c:=R.slot;cases L with
   |none=>rfl|slot s' C=>
    simp only[BV.on];rw[ae (λ(e:s'=s)=>dd s' (by rw[e];exact F) (c _ _ rfl))]
   |cell s' off C=>
    simp only[BV.on];split
    next e=>subst e;obtain⟨cs,z,_⟩:=B;exact absurd z (hnb cs)
    .rfl
  .have l:=E.ok;have hsl:=E.slot;have hcl:=E.cell;cases ε with
   |none=>trivial|slot s t=>
    simp [BV.ok]at l|-;have F:=hsl s t rfl;have j:H≠s:=λe=>θ (e▸Cp F);rw[g2,ae j];have c:=R.slot;cases L with
    |none=>exact l|slot s' C=>
     simp [BV.on];rw[ae (λ(e:s'=s)=>dd s' (by rw[e];exact F) (c _ _ rfl))];exact l
    |cell s' off C=>
     simp [BV.on];split
     next e=>subst e;obtain⟨cs,z,_⟩:=B;rw[z]at l;cases l
     .exact l
   |cell s off t=>
    obtain ⟨cs,c,u⟩:=l;have j:H≠s:=λe=>by
     rcases hcl s off t rfl with z|⟨x,_,Q⟩
     .exact θ (e▸z)
     .exact nq' x s Q e.symm
    simp [BV.ok];rw[g2,ae j];have z:=B;cases L with
    |none=>exact⟨cs,c,u⟩|slot s' C=>
     simp [BV.on];split
     next e=>subst e;simp[BV.ok]at z;rw[z]at c;cases c
     .exact⟨cs,c,u⟩
    |cell s' A C=>
     simp [BV.on];split
     next e=>subst e;rw[c];have:=offs s' off t A C rfl rfl;refine⟨_,rfl,?_⟩;rw[z?,ae (λe=>this e.symm)];exact u
     .exact⟨cs,c,u⟩
  .simp at hd;subst hd;rw[AB.ek,BV.gt,Z,C?];refine Vs (λs he=>?_);rcases R.x6 s he with c|⟨x,_,u⟩
   .exact λe=>M (e▸kv c)
   .exact η x s u
 refine ⟨e',heq,R.again e' L1 hgq _ ⟨_,.refl _,E.again _ L2 hgp _ (JF hK ?_)⟩⟩;rw[R.l3];refine⟨λn=>?_,λd=>?_⟩
 .rw[AB.d7,BV.get,g1,AB.d7,BV.get,g2];by_cases c:H=n
  .subst c;rw[ac rfl,ae hpq,ac rfl,fpdq]
  .rw[ae c,ae c];by_cases u:J=n
   .subst u;rw[ac rfl,ac rfl,ζ]
   .rw[ae u,ae u];have z:=E.ok;have Q:=E.slot;have h5:=R.slot;cases ε with
    |none=>rfl|slot s t=>
     cases L with
     |none=>rfl|slot s' C=>
      have j:s≠s':=λe=>dd s (Q _ _ rfl) (e▸h5 _ _ rfl);simp[BV.on];by_cases e1:s=n<;>by_cases e2:s'=n<;>simp[e1,e2];exact absurd (e1.trans e2.symm) j
     |cell s' A C=>
      have j:s≠s':=λe=>by
       obtain ⟨cs,h6,_⟩:=B;simp[BV.ok]at z;rw[<-e,z]at h6;cases h6
      simp [BV.on];by_cases e1:s=n<;>by_cases e2:s'=n<;>simp[e1,e2]
    |cell s off t=>
     cases L with
     |none=>rfl|slot s' C=>
      have j:s≠s':=λe=>by
       obtain ⟨cs,h6,_⟩:=z;simp[BV.ok]at B;rw[e,B]at h6;cases h6
      simp [BV.on];by_cases e1:s=n<;>by_cases e2:s'=n<;>simp[e1,e2]
     |cell s' A C=>
      obtain ⟨cs,h6,_⟩:=z;simp[BV.on];by_cases e1:s=n
      .by_cases e2:s'=n
       .subst e1;subst e2;have:=offs s' off t A C rfl rfl;simp[h6];rw[List.set_comm _ _ this]
       .simp[e1,e2]
      .simp[e1]
 .rw[AB.ek,BV.gt,G.2,E.l3,AB.ek,BV.gt,AB.ek,BV.gt,AB.ek,BV.gt];cases EV.noR d eq<;>cases EV.noR d ep<;>rfl
end
end Go.Sf
namespace Go.Sf
open Go.RowKit (Below)
def AaU(D:QQ)(p q:PR):Bool:=
 match q.op,q.guard,q.dst with
 |.stb _ b v,W,W=>PR.Aae D p&&D.contains b&&Ff p.dst.toList (b::v.sl)&&Ff [b] (p.op.slots++p.gsl)&&Ff p.op.dem v.sl|.stx _ b s,W,W=>PR.Aae D p&&D.contains b&&Ff p.dst.toList (b::[s])&&Ff [b] (p.op.slots++p.gsl)&&Ff p.op.dem [s]&&Ff [s] p.op.slots&&D.contains s|_,_,_=>T
def P3(b:Nat)(cs:List AS)(q:Option (Nat×EV))(O:AB):AB:=
 (b,.bx cs)::(match q with|some (s,t)=>(s,t)::O|none=>O)
theorem F5(b:Nat)(cs:List AS)(q:Option (Nat×EV))(O:AB)(n:Nat):AB.get (P3 b cs q O) n=if b=n then .bx cs else(match q with|some (s,t)=>if s=n then t else O.get n|none=>O.get n):=by
 cases q with
 |none=>rfl|some st=>rfl
def Gn(b:Nat)(cs:List AS)(q:Option (Nat×EV))(O:AB)(d:Nat)(h:∀s e,q=Y (s,e)->e.noR d=X):AB.gt d (P3 b cs q O)=AB.gt d O:=by
 cases q with
 |none=>simp[P3,AB.ek,EV.noR,EV.x6]|some p=>
  obtain ⟨s,e⟩:=p;have c:=h s e rfl;simp[P3,AB.ek,c];simp[EV.noR,EV.x6]
structure wZ(S:FuncId->Fq->BA->Prop)(q:PR)(b:Nat)(v:AH)(O l3:AB)(cs cs':List AS)(o:Option (Nat×EV)):Prop where
 l3:l3=P3 b cs' o O
 box:O.get b=.bx cs
 own:∀s e,o=Y (s,e)->v=.s s/\((∃t,e=.tv t/\O.get s=.ow t)\/(e=.undef/\(∃ds,O.get s=.oag ds)/\∃n,q.op=.stx n b s))/\s≠b
 val:∀cs,v.ev O≠.bx cs
 again:∀env2,env2.gt b=X->env2.get b=.bx cs->v.ev env2=v.ev O->∀K2:AB->Prop,K2 (P3 b cs' o env2)->q.wp S env2 K2
variable{q:PR}{v:AH}
def xT{S:FuncId->Fq->BA->Prop}{O:AB}{K:AB->Prop}{n b:Nat}(g:q.op=.stb n b v\/∃s,v=.s s/\q.op=.stx n b s)(u:q.guard=W)(hd:q.dst=W)(h:q.wp S O K):∃l3,K l3/\∃cs cs' o,wZ S q b v O l3 cs cs' o:=by
 rcases g with g|⟨s,rfl,g⟩
 .unfold PR.wp at h;rw[u,g,hd]at h;simp only[AF.wp]at h;split at h
  .rename_i cs A;split at h
   .rename_i t hv;cases v with
    |c t=>exact h.elim|s E=>
     simp only at h;simp[AH.ev]at hv;refine⟨_,h.2.2.2,cs,_,Y (E,.tv t),rfl,A,?_,?_,λenv2 B z l C j=>?_⟩
     .grind
     .grind[AH.ev]
     .simp[AH.ev]at l;unfold PR.wp;rw[u,g,hd];simp[AF.wp,z,AH.ev,l,hv];exact⟨h.1,h.2.1,h.2.2.1,j⟩
   next t hv=>refine⟨_,h.2.2,cs,_,W,rfl,A,V,j!,λenv2 B z l C j=>?_⟩;unfold PR.wp;rw[u,g,hd];simp only[AF.wp,z,l,hv];exact⟨h.1,h.2.1,j⟩
   .exact h.elim
  .exact h.elim
 .unfold PR.wp at h;rw[u,g,hd]at h;simp only[AF.wp]at h;split at h
  .rename_i cs ds A hv;refine⟨_,h.2.2.2,cs,_,Y (s,.undef),rfl,A,?_,by simp[AH.ev,hv],λenv2 B z l C j=>?_⟩
   .grind
   .simp[AH.ev]at l;unfold PR.wp;rw[u,g,hd];simp only[AF.wp,z,l,hv];exact⟨h.1,⟨h.2.1.1,by rw[AB.noX_ref B,Bool.or_true]⟩,h.2.2.1,j⟩
  .exact h.elim
section
variable{P:Program}{F0:Nat->Nat->Prop}{w0:W0}{N:Nat}{ops:Array Oper}{K:AB->Prop}{D:QQ}
variable{rs:List PR}
theorem wN{O:AB}(hR:Nw F0 w0 N O)(hj:JD D O){op:Oper}{p q:PR}(hp:N2 P N ops op p=X)(j:AaU D p q=X)(h:F6 (AV P) K (p::q::rs) O):F6 (AV P) K (q::p::rs) O:=by
 have key:∃n b v,(q.op=.stb n b v\/∃s,v=.s s/\q.op=.stx n b s)/\q.guard=W/\q.dst=W/\(((((PR.Aae D p=X/\D.contains b=X)/\Ff p.dst.toList (b::v.sl)=X)/\Ff [b] (p.op.slots++p.gsl)=X)/\Ff p.op.dem v.sl=X)/\(∀n s,q.op=.stx n b s->Ff [s] p.op.slots=X/\D.contains s=X)):=by
  unfold AaU at j;split at j
  .grind
  .rename_i n b s θ δ hd;simp only[mo]at j;refine⟨n,b,.s s,.inr ⟨s,rfl,θ⟩,δ,hd,j.1.1,λn' s' h=>?_⟩
   grind
  .cases j
 clear j;obtain⟨n,b,v,θ,δ,hd,j,hstx⟩:=key
 .simp[PR.Aae,C!]at j;obtain⟨⟨⟨⟨⟨⟨⟨⟨pm,pd⟩,pg⟩,pb⟩,pD⟩,Z⟩,c1⟩,c2⟩,c3⟩:=j;obtain⟨J,hdp⟩:=D!.1 pd;rw[hdp]at c1;simp at c1;have Z:b∈D:=by simpa using Z
  have hpb:J≠b:=λe=>BC c1 (x:=J) V d_;have pnv:J∉v.sl:=λe=>BC c1 (x:=J) V d_;have B:b∉p.op.slots:=λe=>BC c2 (x:=b) V (D9 e);have bng:b∉p.gsl:=λe=>BC c2 (x:=b) V (Em e);have dv:∀s,s∈p.op.dem->s∈v.sl->False:=λs z l=>BC c3 z l;have pg':p.op.r0=X->p.guard=W:=λhn=>by
   rcases pg with h|h
   .rw[hn]at h;cases h
   .simpa using h
  obtain ⟨e',κ,h⟩:=h;have hR':=hR.congr κ.symm;have C:=hj.congr κ.symm;obtain⟨l3,⟨⟨e1,Q,hw⟩,ep,η,F⟩,hR1⟩:=Gi hR' hp (Q2 hdp pm pg' h);have hj1:=F.jd pb C;have g1:∀n,e1.get n=if J=n then ep else η.on n (e'.get n):=λn=>by
   rw [Q.1,F.l3,AB.d7,BV.get]
  have ε:∀e,η.on b e=e:=by
   intro e;have:=F.slot;have l:=F.cell;cases η with
   |none=>rfl|slot s t=>
    simp only[BV.on];rw[ae];intro he;subst he;exact B (Cp (this _ _ rfl))
   |cell s off t=>
    simp only[BV.on];rw[ae];intro he;subst he;rcases l _ _ _ rfl with E|⟨x,_,I⟩
    .exact B E
    .exact C.no I Z
  have gb:e1.get b=e'.get b:=by rw[g1,ae hpb,ε]
  obtain ⟨X1,hK,cs,cs',o,Fs⟩:=xT θ δ hd hw;have hbox:e'.get b=.bx cs:=by rw[<-gb];exact Fs.box
  have hv:v.ev e'=v.ev e1:=by
   cases v with
   |c t=>rfl|s m=>
    have hm:J≠m:=λe=>pnv (by simp[AH.sl,e]);simp[AH.ev];have A:=Fs.val;simp[AH.ev]at A;rw[g1,ae hm]at A|-;have z:=F.slot;have l:=F.ok;cases η with
    |none=>rfl|slot s t=>
     simp only[BV.on];rw[ae (λ(e:s=m)=>dv s (z _ _ rfl) (by simp[AH.sl,e]))]
    |cell s off t=>
     simp only[BV.on]at A|-;split
     next e=>subst e;obtain⟨ds,E,_⟩:=l;rw[ac rfl,E]at A;exact absurd rfl (A _)
     .rfl
  have u:∀s e,o=Y (s,e)->((∃t,e=.tv t/\e'.get s=.ow t)\/(e=.undef/\∃ds,e'.get s=.oag ds))/\s≠b/\s∈v.sl/\s≠J:=by
   intro s t ho;obtain⟨z,l,E⟩:=Fs.own s t ho;subst z;simp[AH.ev]at hv;refine⟨?_,E,f_,λe=>pnv (by simp[AH.sl,e])⟩;rw[hv];rcases l with l|⟨l,I,_⟩
   .exact .inl l
   .exact .inr ⟨l,I⟩
  have G:∀s,o=Y (s,.undef)->s∉p.op.slots/\s∈D:=by
   intro s ho;obtain⟨_,l,_⟩:=Fs.own s _ ho;rcases l with⟨t,l,_⟩|⟨_,_,n',I⟩
   .cases l
   .obtain⟨h5,h6⟩:=hstx n' s I;exact⟨λe=>BC h5 V e,by simpa using h6⟩
  have H:∀d s e,o=Y (s,e)->e.noR d=X:=by
   intro d s e ho;rcases(u s e ho).1 with⟨t,rfl,_⟩|⟨rfl,_⟩<;>rfl
  have M:∀s e,o=Y (s,e)->∀ds,e'.get s≠.bx ds:=by
   intro s e ho ds h;rcases(u s e ho).1 with⟨t,_,l⟩|⟨_,ds',l⟩<;>rw[l]at h<;>cases h
  have g2:∀n,b≠n->(∀s t,o=Y (s,t)->s≠n)->AB.get (P3 b cs' o e') n=e'.get n:=by
   intro n z l;rw[F5,ae z];cases o with
   |none=>rfl|some st=>
    obtain ⟨s,t⟩:=st;simp only;rw[ae (l s t rfl)]
  have lk:∀n,b≠n->o≠Y (n,.undef)->(e'.get n).like (AB.get (P3 b cs' o e') n):=by
   intro n z h0;rw[F5,ae z];cases o with
   |none=>exact .inl rfl|some st=>
    obtain ⟨s,t⟩:=st;simp only;split
    .rename_i e;subst e;rcases(u s t rfl).1 with⟨t,rfl,E⟩|⟨rfl,_⟩
     .obtain⟨m,es,rfl⟩:=hR'.list E;exact .inr (.inl ⟨m,es,.inr ⟨E,rfl⟩⟩)
     .exact absurd rfl h0
    .exact .inl rfl
  have L:Ez p.op η (Y J) e' (P3 b cs' o e'):=by
   refine ⟨λs ζ=>lk s (λe=>B (e▸ζ)) (λe=>(G s e).1 ζ),λs ζ r hb=>lk r (λe=>C.no hb (e▸Z)) (λe=>C.no hb (G r e).2),λs ζ _=>g2 s (λe=>B (e▸Cp ζ)) (λs' t ho e=>dv s ζ (e▸(u s' t ho).2.2.1)),?_,λhn d hd R=>by rw[Gn _ _ _ _ _ (H d)];exact R⟩;have z:=F.slot;have l:=F.ok;have E:=ε;have I:=F.cell;cases η with
   |none=>trivial|slot s t=>
    simp [BV.ok]at l|-;rw[g2 s (λe=>B (e▸Cp (z _ _ rfl))) (λs' t ho e=>dv s (z _ _ rfl) (e▸(u s' t ho).2.2.1))];exact l
   |cell s off t=>
    obtain ⟨ds,h5,h6⟩:=l;refine⟨ds,?_,h6⟩;rw[g2 s (λe=>?_) (λs' t' ho e=>?_)]
    .exact h5
    .rcases I _ _ _ rfl with h7|⟨x,_,h8⟩
     .exact B (e▸h7)
     .exact C.no h8 (e▸Z)
    .exact M s' t' ho _ (e▸h5)
  have hgp:∀g∈p.gsl,AB.get (P3 b cs' o e') g=e'.get g:=by
   intro g δ;obtain⟨bb,hb,_,R,hno'⟩:=UV h g δ;refine g2 g (λe=>bng (e▸δ)) (λs t ho e=>?_);rcases(u s t ho).1 with⟨t,_,l⟩|⟨_,ds',l⟩
   .rw[<-e,l]at hb;exact absurd hb.symm (R _)
   .rw[<-e,l]at hb;exact absurd hb.symm (hno' _)
  refine ⟨e',κ,Fs.again e' (C _ Z) hbox hv _ ⟨_,.refl _,F.again _ L hgp _ (JF hK ?_)⟩⟩;rw[Fs.l3];refine⟨λn=>?_,λd=>?_⟩
  .rw[AB.d7,BV.get,F5,F5];by_cases z:J=n
   .subst z;rw[ae (λe=>hpb e.symm),ac rfl];cases o with
    |none=>simp only;rw[g1,ac rfl]|some st=>
     obtain ⟨s,t⟩:=st;simp only;rw[ae (u s t rfl).2.2.2,g1,ac rfl]
   .rw[ae z];by_cases l:b=n
    .subst l;rw[ac rfl,ac rfl,ε]
    .rw[ae l,ae l];cases o with
     |none=>simp only;rw[g1,ae z]|some st=>
      obtain ⟨s,t⟩:=st;simp only;by_cases E:s=n
      .subst E;rw[ac rfl,ac rfl];have I:=F.slot;have h5:=F.ok;have h6:=(u s t rfl);have h6':=M s t rfl;have h6'':∀ds,t≠.bx ds:=by
        intro ds h;rcases h6.1 with⟨t,rfl,_⟩|⟨rfl,_⟩<;>cases h
       cases η with
       |none=>rfl|slot s' t'=>
        simp only[BV.on];rw[ae (λ(e:s'=s)=>dv s' (I _ _ rfl) (by rw[e];exact h6.2.2.1))]
       |cell s' off t'=>
        simp only[BV.on];split
        next e=>subst e;obtain⟨ds,h7,_⟩:=h5;exact absurd h7 (h6' _)
        .rfl
      .rw[ae E,ae E,g1,ae z]
  .rw[Gn _ _ _ _ _ (H d),Q.2,F.l3,AB.ek,BV.gt,AB.ek,BV.gt,Gn _ _ _ _ _ (H d)]
def Aa8(D:QQ)(p q:PR):Bool:=
 match q.op,q.guard,q.dst with
 |.tkx s,W,Y d=>PR.Aae D p&&D.contains s&&D.contains d&&Ff p.dst.toList [s,d]&&Ff [s,d] (p.op.slots++p.gsl)|_,_,_=>T
variable{q:PR}{s d:Nat}
def kP{S:FuncId->Fq->BA->Prop}{O:AB}{K:AB->Prop}(b:q.op=.tkx s)(c:q.guard=W)(hd:q.dst=Y d)(h:q.wp S O K):∃n es,O.get s=.xo n es/\O.gt d=X/\d≠s/\K ((d,.xo n es)::(s,.undef)::O):=by
 simp [PR.wp,b,c,hd,AF.wp,AB.put]at h
 grind
variable{n:Nat}
def kQ{S:FuncId->Fq->BA->Prop}{O:AB}{K:AB->Prop}{es:Fq}(b:q.op=.tkx s)(c:q.guard=W)(hd:q.dst=Y d)(g:O.get s=.xo n es)(j:O.gt d=X)(l:d≠s)(h:K ((d,.xo n es)::(s,.undef)::O)):q.wp S O K:=by
 simp [PR.wp,b,c,hd,AF.wp,AB.put,g];exact⟨j,l,h⟩
theorem zK{O:AB}(hR:Nw F0 w0 N O)(hj:JD D O){op:Oper}{p q:PR}(hp:N2 P N ops op p=X)(b:Aa8 D p q=X)(h:F6 (AV P) K (p::q::rs) O):F6 (AV P) K (q::p::rs) O:=by
 unfold Aa8 at b;split at b
 .rename_i s d R hg hd;simp[PR.Aae,C!]at b;obtain⟨⟨⟨⟨⟨⟨⟨⟨pm,pd⟩,pg⟩,pb⟩,pD⟩,I⟩,ε⟩,Z⟩,c2⟩:=b;obtain⟨F,η⟩:=D!.1 pd;rw[η]at Z;simp at Z;have I:s∈D:=s_
  have ε:d∈D:=by simpa using ε
  have κ:F≠s:=λe=>BC Z (x:=F) V d_;have hpd:F≠d:=λe=>BC Z (x:=F) V d_;have j:s∉p.op.slots:=λe=>BC c2 (x:=s) V (D9 e);have u:d∉p.op.slots:=λe=>BC c2 (x:=d) V (D9 e);have sng:s∉p.gsl:=λe=>BC c2 (x:=s) V (Em e);have dng:d∉p.gsl:=λe=>BC c2 (x:=d) V (Em e);have pg':p.op.r0=X->p.guard=W:=λhn=>by
   rcases pg with h|h
   .rw[hn]at h;cases h
   .simpa using h
  obtain ⟨e',G,h⟩:=h;have hR':=hR.congr G.symm;have z:=hj.congr G.symm;obtain⟨l3,⟨⟨e1,A,hw⟩,ep,ζ,C⟩,hR1⟩:=Gi hR' hp (Q2 η pm pg' h);have g1:∀n,e1.get n=if F=n then ep else ζ.on n (e'.get n):=λn=>by
   rw [A.1,C.l3,AB.d7,BV.get]
  have E:∀x,x∈D->x∉p.op.slots->∀e,ζ.on x e=e:=by
   intro x hxD θ e;have:=C.slot;have l:=C.cell;cases ζ with
   |none=>rfl|slot s t=>
    simp only[BV.on];rw[ae];intro he;subst he;exact θ (Cp (this _ _ rfl))
   |cell s off t=>
    simp only[BV.on];rw[ae];intro he;subst he;rcases l _ _ _ rfl with M|⟨y,_,δ⟩
    .exact θ M
    .exact z.no δ hxD
  obtain ⟨n,es,k1,k2,k3,hK⟩:=kP R hg hd hw;rw[g1,ae κ,E s I j]at k1;rw[A.2,C.l3,AB.ek,BV.gt,mo]at k2;have J:∀m,m≠d->m≠s->AB.get ((d,.xo n es)::(s,.undef)::e') m=e'.get m:=λm B l=>by
   rw [AB.d7,ae (λe=>B e.symm),AB.d7,ae (λe=>l e.symm)]
  have nr:∀c,AB.gt c ((d,EV.xo n es)::(s,EV.undef)::e')=AB.gt c e':=λc=>by
   simp [AB.ek,EV.noR,EV.x6]
  have L:Ez p.op ζ (Y F) e' ((d,.xo n es)::(s,.undef)::e'):=by
   refine ⟨λx H=>.inl (J x (λe=>u (e▸H)) (λe=>j (e▸H))),λx H r hr=>.inl (J r (λe=>z.no hr (e▸ε)) (λe=>z.no hr (e▸I))),λx H _=>J x (λe=>u (e▸Cp H)) (λe=>j (e▸Cp H)),?_,λhn d' hd' hno=>by rw[nr];exact hno⟩;have B:=C.slot;have l:=C.ok;have δ:=C.cell;cases ζ with
   |none=>trivial|slot x t=>
    simp [BV.ok]at l|-;rw[J x (λe=>u (e▸Cp (B _ _ rfl))) (λe=>j (e▸Cp (B _ _ rfl)))];exact l
   |cell x off t=>
    obtain ⟨ds,h5,h6⟩:=l;refine⟨ds,?_,h6⟩;rw[J x (λe=>?_) (λe=>?_)]
    .exact h5
    .rcases δ _ _ _ rfl with h7|⟨y,_,h8⟩
     .exact u (e▸h7)
     .exact z.no h8 (e▸ε)
    .rcases δ _ _ _ rfl with h7|⟨y,_,h8⟩
     .exact j (e▸h7)
     .exact z.no h8 (e▸I)
  have hgp:∀g∈p.gsl,AB.get ((d,.xo n es)::(s,.undef)::e') g=e'.get g:=λg Q=>J g (λe=>dng (e▸Q)) (λe=>sng (e▸Q));refine⟨e',G,kQ R hg hd k1 k2.2 k3 ⟨_,.refl _,C.again _ L hgp _ (JF hK ?_)⟩⟩;refine⟨λm=>?_,λc=>?_⟩
  .simp[AB.d7,BV.get,g1];by_cases B:d=m
   .subst B;rw[ac rfl,ae hpd,E d ε u,ac rfl]
   .rw[ae B];by_cases l:s=m
    .subst l;rw[ac rfl,ae κ,E s I j,ae B,ac rfl]
    .rw[ae l];by_cases M:F=m
     .rw[ac M,ac M]
     .rw[ae M,ae M,ae B,ae l]
  .simp[AB.ek,BV.gt,A.2,C.l3];have e1:EV.noR c (EV.xo n es)=X:=rfl;have e2:EV.noR c EV.undef=X:=rfl;rw[e1,e2];cases EV.noR c ep<;>rfl
 .cases b
def yp:AF->Bool
 |.xal _=>X|.mv _=>X|.bad _ _=>X|.fad _ _=>X|.ld _=>X|_=>T
def Aa7(D:QQ)(p q:PR):Bool:=
 match q.op,q.guard,q.dst,p.guard,p.dst with
 |.xst x v _,W,W,W,Y d=>PR.Aae D p&&yp p.op&&!(x.sl.contains d)&&!(v.sl.contains d)|_,_,_,_,_=>T
variable{i:Option Nat}
def QT{O:AB}{q:Nat}{es es':Fq}(h:O.so q i=Y (n,es)):(∃u,AB.get (O.Aad q i n es') q=u/\((∃m b,O.get q=.xo m b/\∃m' fs',u=.xo m' fs')\/(∃cs k,i=Y k/\cs[k]?=Y ⟨X,.xl n es⟩/\O.get q=.bx cs/\u=.bx (cs.set k ⟨X,.xl n es'⟩))))/\(∀m,q≠m->AB.get (O.Aad q i n es') m=O.get m)/\∀d,AB.gt d (O.Aad q i n es')=O.gt d:=by
 cases i with
 |none=>
  grind [AB.so,AB.Aad,AB.d7,AB.ek,EV.noR,EV.x6]
 |some k=>
  grind [AB.so,p0,AB.Aad,AB.d7,AB.ek,EV.noR,EV.x6]
def uy(l:List AS)(off:Nat):IJ ((l.drop off).map (·.t))=(l[off]?).map (·.t):=by
 rw [show l[off]?=(l.drop off)[0]? by rw[List.getElem?_drop,Nat.add_zero]];cases l.drop off<;>rfl
variable{k off:Nat}{t:TV}
theorem sI{ds:List AS}{es es':Fq}(c:t.AaI=T)(g:ds[k]?=Y ⟨X,.xl n es⟩)(b:IJ ((ds.drop off).map (·.t))=Y t):IJ (((ds.set k ⟨X,.xl n es'⟩).drop off).map (·.t))=Y t:=by
 rw [uy]at b|-;by_cases e:k=off
 .subst e;rw[g]at b;simp at b;subst b;cases c
 grind
def vz{S:FuncId->Fq->BA->Prop}{op:AF}(ho:yp op=X){O:AB}{dst:Option Nat}{K:EV->AB->Prop}(h:op.wp S O dst K):
  ∃e,K e O/\(∀m J,e≠.xo m J)/\(∀cs,e≠.bx cs)/\∀(q n:Nat)(i:Option Nat)(es es':Fq),O.so q i=Y (n,es)->∀A:EV->AB->Prop,A e (O.Aad q i n es')->op.wp S (O.Aad q i n es') dst A:=by
 have E:∀{q n:Nat}{i:Option Nat}{es es':Fq},O.so q i=Y (n,es)->∀m e,O.get m=e->(∀k J,e≠.xo k J)->(∀cs,e≠.bx cs)->AB.get (O.Aad q i n es') m=e:=λ{q n i es es'}g m e z G ε=>by
  obtain ⟨⟨u,M,j⟩,I,_⟩:=QT (es':=es') g
  grind
 have F:∀{q n:Nat}{i:Option Nat}{es es':Fq},O.so q i=Y (n,es)->∀m cs,O.get m=.bx cs->∃cs',AB.get (O.Aad q i n es') m=.bx cs'/\∀off t,t.AaI=T->IJ ((cs.drop off).map (·.t))=Y t->IJ ((cs'.drop off).map (·.t))=Y t:=λ{q n i es es'}g m cs z=>by
  obtain ⟨⟨u,M,j⟩,I,_⟩:=QT (es':=es') g
  grind [sI]
 have B:∀{q n:Nat}{i:Option Nat}{es es':Fq},O.so q i=Y (n,es)->∀(x:AH)e,x.ev O=e->(∀m J,e≠.xo m J)->(∀cs,e≠.bx cs)->x.ev (O.Aad q i n es')=e:=by
  intro q n i es es' g x e he z G;cases x with
  |c t=>exact he|s y=>exact E g y e he z G
 cases op with
 |mv x=>
  simp [AF.wp]at h|-;split at h
  next t l=>exact⟨_,h,V,V,λq n i es es' g A b=>j?⟩
  next t l=>exact⟨_,h,V,V,λq n i es es' g A b=>j?⟩
  next t l=>exact⟨_,h,V,V,λq n i es es' g A b=>j?⟩
  .exact h.elim
 |xal s=>
  simp [AF.wp]at h|-;split at h
  .rename_i m J C;refine⟨_,h,V,V,λq n i es es' g A b=>?_⟩;obtain⟨⟨u,M,j⟩,I,_⟩:=QT (es':=es') g;by_cases e:q=s
   .subst e;rcases j with⟨_,_,_,m',fs',rfl⟩|⟨_,_,_,_,θ,_⟩
    .rw[M];exact b
    .rw[C]at θ;cases θ
   .rw[I s e,C];exact b
  .exact h.elim
 |bad s k=>
  simp [AF.wp]at h|-;split at h
  next cs C=>refine⟨_,h,V,V,λq n i es es' g A b=>?_⟩;obtain⟨cs',z,_⟩:=F (es':=es') g s cs C;rw[z];exact b
  next row C=>exact⟨_,h,V,V,λq n i es es' g A b=>by rw[E g s _ C V V];exact b⟩
  .exact h.elim
 |fad x k=>
  simp [AF.wp]at h|-;split at h
  next row l=>exact⟨_,h,V,V,λq n i es es' g A b=>j?⟩
  .rename_i s off l;split at h
   next cs C=>refine⟨_,h,V,V,λq n i es es' g A b=>?_⟩;obtain⟨cs',z,_⟩:=F (es':=es') g s cs C;rw[B g x _ l V V];simp only;rw[z];exact b
   .exact h.elim
  .exact h.elim
 |ld x=>
  simp [AF.wp]at h|-;cases j:BT O (x.ev O)with
  |none=>rw[j]at h;exact h.elim|some cs=>
   rw [j]at h;simp[A0]at h;cases L:IJ cs with
   |none=>rw[L]at h;exact h.elim|some t=>
    rw [L]at h;obtain⟨Q,h⟩:=h;refine⟨_,h,V,V,λq n i es es' g A b=>?_⟩;have ha:∃cs',BT (O.Aad q i n es') (x.ev (O.Aad q i n es'))=Y cs'/\IJ cs'=Y t:=by
     cases x with
     |c R=>exact⟨cs,by rw[<-j];cases R<;>rfl,L⟩
     |s y=>
      simp [AH.ev]at j|-;cases H:O.get y with
      |bp s off=>
       rw [E g y _ H V V];rw[H]at j;simp only[BT]at j|-;split at j
       next ds C=>cases j;obtain⟨cs',z,G⟩:=F (es':=es') g s ds C;rw[z];exact⟨_,rfl,G _ _ Q L⟩
       .cases j
      |tv R=>
       rw [E g y _ H V V];rw[H]at j;exact⟨cs,by rw[<-j];cases R<;>rfl,L⟩
      |bx ds=>
       rw [H]at j;simp[BT]at j;subst j;obtain⟨cs',z,G⟩:=F (es':=es') g y ds H;rw[z];have:=G 0 t Q (by simpa using L);exact⟨_,rfl,by simpa using this⟩
      |_=>rw[H]at j;cases j
    obtain ⟨cs',z,G⟩:=ha;rw[z];simp[A0,G];exact⟨Q,b⟩
 |_=>cases ho
variable{e:EV}
theorem bw{O e1:AB}{d t n:Nat}{es:Fq}(g:Ow e1 ((d,e)::O))(h:d≠t):Ow (e1.Aad t i n es) ((d,e)::O.Aad t i n es):=by
 have l:e1.get t=O.get t:=by rw[g.1,AB.d7,ae h]
 have b:∀u:EV,(∀c,EV.noR c u=X)->Ow ((t,u)::e1) ((d,e)::(t,u)::O):=by
  intro u j;refine⟨λm=>?_,λc=>?_⟩
  .rw[AB.d7,g.1,AB.d7,AB.d7,AB.d7]
   grind
  .rw[AB.ek,g.2,AB.ek,AB.ek,AB.ek,j];cases EV.noR c e<;>rfl
 cases i with
 |none=>exact b _ λc=>rfl|some k=>
  simp [AB.Aad,l];split
  .exact b _ λc=>rfl
  .exact g
theorem zO{O:AB}{p q:PR}(b:Aa7 D p q=X)(h:F6 (AV P) K (p::q::rs) O):F6 (AV P) K (q::p::rs) O:=by
 unfold Aa7 at b;split at b
 .rename_i x v δ d A B hd H I;simp[C!,decide_eq_false_iff_not]at b;obtain⟨⟨⟨_,ho⟩,C⟩,E⟩:=b;obtain⟨e',F,h⟩:=h;simp[PR.wp,H,I,AB.put]at h;obtain⟨e,⟨e1,j,l⟩,Q,R,G⟩:=vz ho h;have z:∀(y:AH),d∉y.sl->y.ev e1=y.ev e':=by
   intro y Z;cases y with
   |c t=>rfl|s m=>
    simp [AH.ev,j.1,AB.d7]
    grind [AH.sl]
  refine ⟨e',F,?_⟩;simp[PR.wp,B,hd,A,AF.wp,z x C,z v E]at l|-;split at l
  .rename_i t i c hx;split at l
   .rename_i n es u J L;obtain⟨θ,ε,es',κ,η,ζ,hK⟩:=l;have g:d≠t:=by
     intro g;have B:e1.get t=e:=by rw[j.1,AB.d7,ac g]
     cases i with
     |none=>
      grind [AB.so]
     |some k=>
      grind [AB.so]
    have M:e'.so t i=Y (n,es):=by
     have B:e1.get t=e'.get t:=by rw[j.1,AB.d7,ae g]
     grind [AB.Aal]
    rw [M,L];refine⟨θ,ε,es',κ,η,ζ,_,.refl _,?_⟩
    grind [PR.wp,AB.put,JF,bw]
   .exact l.elim
  .exact l.elim
 .cases b
end
end Go.Sf
namespace Go.Sf
def AF.tkn:AF->Option QQ
 |.Abk _=>Y []|.Abh _=>Y []|.tkx s=>Y [s]|.Aa4 _ s _=>Y [s]|.Abm q=>Y [q]|_=>W
def TJ(qs:QQ)(O:AB):AB:=qs.map (·,EV.undef)++O
def QO(qs:QQ)(O:AB)(n:Nat):AB.get (TJ qs O) n=if n∈qs then .undef else O.get n:=by
 induction qs with
 |nil=>rfl|cons q qs b=>
  grind [TJ,AB.d7]
def J8(qs:QQ)(O:AB)(c:Nat):AB.gt c (TJ qs O)=AB.gt c O:=by
 induction qs with
 |nil=>rfl|cons q qs b=>
  simp only[TJ,A_,A',AB.ek]at b|-;rw[b];rfl
structure ki(S:FuncId->Fq->BA->Prop)(op:AF)(qs:QQ)(d:Nat)(O:AB)(e:EV):Prop where
 dno:O.gt d=X
 AbA:e.x6=W
 slbx:∀n∈op.slots,∀cs,O.get n≠.bx cs
 sub:∀n∈qs,n∈op.slots
 again:∀env2,(∀n∈op.slots,env2.get n=O.get n)->env2.gt d=X->∀K2:EV->AB->Prop,K2 e (TJ qs env2)->op.wp S env2 (Y d) K2
variable{y:AH}
def zS{O env2:AB}(h:∀n∈y.sl,env2.get n=O.get n):y.val env2=y.val O:=by
 cases y with
 |c t=>rfl|s n=>simp only[AH.val,AH.ev,h n f_]
variable{t:TV}
theorem zR{O:AB}(h:y.val O=Y t):∀n∈y.sl,∀cs,O.get n≠.bx cs:=by
 intro n b cs g;cases y with
 |c t=>simp[AH.sl]at b|s m=>
  grind [AH.sl,z!,AH.val,AH.ev,EV.val]
variable{qs:QQ}{d:Nat}
theorem take{S:FuncId->Fq->BA->Prop}{op:AF}{O:AB}{K:EV->AB->Prop}(g:op.tkn=Y qs)(h:op.wp S O (Y d) K):∃e,ki S op qs d O e/\K e (TJ qs O):=by
 cases op<;>simp only[AF.tkn,reduceCtorEq,p0]at g
 case Abh n=>
  subst g;simp only[AF.wp]at h;exact⟨_,⟨h.1,rfl,g_,V,λenv2 _ b u c=>⟨b,c⟩⟩,h.2⟩
 case Abk n=>
  subst g;simp only[AF.wp]at h;exact⟨_,⟨h.1,rfl,g_,V,λenv2 _ b u c=>⟨b,c⟩⟩,h.2⟩
 case tkx s=>
  subst g;simp only[AF.wp]at h;split at h
  .rename_i C n es hd l;simp only[p0]at hd;subst hd;refine⟨.xo n es,⟨h.1,rfl,λm E cs A=>?_,g_,λenv2 j b u c=>?_⟩,h.2.2⟩
   .grind[AF.slots,z!]
   .have:=j s g_;simp only[AF.wp,this,l];exact⟨b,h.2.1,c⟩
  .exact h.elim
 case Abm q=>
  subst g;simp only[AF.wp]at h;split at h
  .rename_i C n z hd l;simp only[p0]at hd;subst hd;refine⟨.x1 n z,⟨h.1.1,rfl,λm E cs A=>?_,g_,λenv2 j b u c=>?_⟩,h.2⟩
   .grind[AF.slots,z!]
   .have:=j q g_;simp only[AF.wp,this,l];exact⟨⟨b,h.1.2⟩,c⟩
  .exact h.elim
 case Aa4 n s y=>
  subst g;simp only[AF.wp]at h;split at h
  .rename_i C m es m' z hd l F;simp only[p0]at hd;subst hd;obtain⟨G,H,I,J,L,M⟩:=h;refine⟨.xo n (es++z),⟨J,rfl,λx B cs A=>?_,g_,λenv2 j b u c=>?_⟩,M⟩
   .grind[AF.slots,zR]
   .have e1:=j s g_;have e2:=zS (O:=O) (env2:=env2) (y:=y) (λx B=>j x (by simp[AF.slots,B]));simp only[AF.wp,e1,l,e2,F];exact⟨G,H,I,b,L,c⟩
  .exact h.elim
def PR.tk(r:PR):Option (QQ×Nat):=
 match r.op.tkn,r.guard,r.dst with
 |some qs,W,Y d=>Y (qs,d)|_,_,_=>W
variable{r:PR}
def PR.tk_some(h:r.tk=Y (qs,d)):r.op.tkn=Y qs/\r.guard=W/\r.dst=Y d:=by
 unfold PR.tk at h
 grind
def ZI{S:FuncId->Fq->BA->Prop}{O:AB}{K:AB->Prop}(j:r.tk=Y (qs,d))(h:r.wp S O K):∃e,ki S r.op qs d O e/\K ((d,e)::TJ qs O)/\
  ∀env2,(∀n∈r.op.slots,env2.get n=O.get n)->env2.gt d=X->∀b:AB->Prop,b ((d,e)::TJ qs env2)->r.wp S env2 b:=by
 obtain ⟨A,B,C⟩:=PR.tk_some j;have z:r.op.wp S O (Y d) λe env'=>K ((d,e)::env'):=by
  grind [PR.wp,AB.put]
 obtain ⟨e,g,E⟩:=take A z;refine⟨e,g,E,λenv2 l u b c=>?_⟩;unfold PR.wp;rw[B];simp only[C,AB.put];exact g.again env2 l u (λe env'=>b ((d,e)::env')) c
def Aan(D:QQ)(p q:PR):Bool:=
 match q.tk with
 |some (qs,d)=>PR.Aae D p&&D.contains d&&qs.all D.contains&&Ff p.dst.toList (d::q.op.slots)&&Ff (d::qs) (p.op.slots++p.gsl)&&Ff p.op.dem q.op.slots|none=>T
def AaR(p q:PR):Bool:=
 match p.tk,q.tk with
 |some (_,dp),Y (_,dq)=>Ff (dp::p.op.slots) (dq::q.op.slots)|_,_=>T
section
variable{P:Program}{F0:Nat->Nat->Prop}{w0:W0}{N:Nat}{ops:Array Oper}{K:AB->Prop}{D:QQ}
variable{r:PR}{d:Nat}{e:EV}
def Qv.away{S:FuncId->Fq->BA->Prop}{O l3:AB}{f:BV}(h:Qv S r d O l3 e f){x:Nat}(b:x∉r.op.slots)(c:∀y,(O.get y).x6≠Y x)(u:EV):f.on x u=u:=by
 have g:=h.slot;have j:=h.cell;cases f with
 |none=>rfl|slot s t=>
  grind [BV.on,Cp]
 |cell s off t=>
  simp only[BV.on]
  grind
def Qv.stay{S:FuncId->Fq->BA->Prop}{O l3:AB}{f:BV}(h:Qv S r d O l3 e f){x:Nat}(b:x∉r.op.dem)(c:∀cs,O.get x≠.bx cs):f.on x (O.get x)=O.get x:=by
 have g:=h.slot;have j:=h.ok;cases f with
 |none=>rfl|slot s t=>
  grind [BV.on]
 |cell s off t=>
  simp only[BV.on]
  grind
def W7(h:PR.Aae D r=X):∃d,r.dst=Y d/\r.op.mov=X/\(r.op.r0=X->r.guard=W)/\Ff r.op.Aa1 D=X/\(r.op.r0=X\/d∈D):=by
 simp only[PR.Aae,mo,D_,C!]at h;obtain⟨⟨⟨⟨c,g⟩,j⟩,pb⟩,l⟩:=h;obtain⟨d,hd⟩:=D!.1 g;refine⟨d,hd,c,λb=>?_,pb,?_⟩
 .rcases j with h|h
  .rw[b]at h;cases h
  .simpa using h
 grind [PR.old]
variable{rs:List PR}
theorem zF{O:AB}(hR:Nw F0 w0 N O)(hj:JD D O){op:Oper}{p q:PR}(hp:N2 P N ops op p=X)(b:Aan D p q=X)(h:F6 (AV P) K (p::q::rs) O):F6 (AV P) K (q::p::rs) O:=by
 unfold Aan at b;split at b
 .rename_i qs d ht;simp only[mo,A!,qo,y?]at b;obtain⟨⟨⟨⟨⟨hm,dD⟩,sD⟩,δ⟩,Z⟩,c3⟩:=b;obtain⟨E,ε,pm,pg',pb,_⟩:=W7 hm;rw[ε]at δ;simp only[D?]at δ;have hpd:E≠d:=λe=>BC δ (x:=E) V d_;have R:E∉q.op.slots:=λe=>BC δ (x:=E) V d_;have l:d∉p.op.slots:=λe=>BC Z (x:=d) V (D9 e);have dng:d∉p.gsl:=λe=>BC Z (x:=d) V (Em e);have u:∀s∈qs,s∉p.op.slots:=λs hs e=>BC Z (x:=s) (by simp[hs]) (D9 e);have sng:∀s∈qs,s∉p.gsl:=λs hs e=>BC Z (x:=s) (by simp[hs]) (Em e);obtain⟨e',G,h⟩:=h;have hR':=hR.congr G.symm;have z:=hj.congr G.symm;obtain⟨l3,⟨⟨e1,A,hw⟩,ep,M,B⟩,hR1⟩:=Gi hR' hp (Q2 ε pm pg' h);have g1:∀n,e1.get n=if E=n then ep else M.on n (e'.get n):=λn=>by
   rw [A.1,B.l3,AB.d7,BV.get]
  have θ:∀x,x∈D->x∉p.op.slots->∀e,M.on x e=e:=λx hxD hxn e=>B.away hxn (λy hy=>z.no hy hxD) e;obtain⟨e,κ,hK,η⟩:=ZI ht hw;have F:∀n∈q.op.slots,e'.get n=e1.get n:=by
   intro n ζ;have hne:E≠n:=λe=>R (e▸ζ);have hb:=κ.slbx n ζ;rw[g1,ae hne]at hb|-;refine(B.stay (λhd=>BC c3 hd ζ) (λcs hc=>?_)).symm;refine hb (match M.on n (.bx cs)with|.bx cs'=>cs'|_=>cs) ?_;rw[hc];cases M with
   |none=>rfl|slot s t=>
    have:=B.ok;simp only[BV.on];split
    next e=>subst e;simp only[BV.ok]at this;rw[hc]at this;cases this
    .rfl
   |cell s off t=>
    simp only[BV.on];split<;>rfl
  have hdn:e'.gt d=X:=by
   have:=κ.dno;rw[A.2,B.l3,AB.ek,BV.gt,mo]at this;exact this.2
  refine ⟨e',G,η e' F hdn _ ⟨_,.refl _,?_⟩⟩;have I:∀m,m≠d->m∉qs->AB.get ((d,e)::TJ qs e') m=e'.get m:=λm C j=>by
   rw [AB.d7,ae (λe=>C e.symm),QO,ae j]
  have nr:∀c,AB.gt c ((d,e)::TJ qs e')=AB.gt c e':=λc=>by
   rw [AB.ek,J8,EV.noR,κ.AbA];rfl
  have L:Ez p.op M (Y E) e' ((d,e)::TJ qs e'):=by
   refine ⟨λx H=>.inl (I x (λe=>l (e▸H)) (λe=>u x e H)),λx H r hr=>.inl (I r (λe=>z.no hr (e▸dD)) (λe=>z.no hr (sD r e))),λx H _=>I x (λe=>l (e▸Cp H)) (λe=>u x e (Cp H)),?_,λζ d' hd' hno=>by rw[nr];exact hno⟩;have C:=B.slot;have j:=B.ok;have h4:=B.cell;cases M with
   |none=>trivial|slot x t=>
    simp only[BV.ok]at j|-;rw[I x (λe=>l (e▸Cp (C _ _ rfl))) (λe=>u x e (Cp (C _ _ rfl)))];exact j
   |cell x off t=>
    obtain ⟨ds,h5,h6⟩:=j;refine⟨ds,?_,h6⟩;rw[I x (λe=>?_) (λe=>?_)]
    .exact h5
    .rcases h4 _ _ _ rfl with h7|⟨y,_,h8⟩
     .exact l (e▸h7)
     .exact z.no h8 (e▸dD)
    .rcases h4 _ _ _ rfl with h7|⟨y,_,h8⟩
     .exact u x e h7
     .exact z.no h8 (sD x e)
  have hgp:∀g∈p.gsl,AB.get ((d,e)::TJ qs e') g=e'.get g:=λg Q=>I g (λe=>dng (e▸Q)) (λe=>sng g e Q);refine B.again _ L hgp _ (JF hK ?_);refine⟨λm=>?_,λc=>?_⟩
  .simp only[AB.d7,BV.get,g1,QO];by_cases C:d=m
   .subst C;rw[ac rfl,ae hpd,θ d dD l,ac rfl]
   .rw[ae C];by_cases J:E=m
    .have:m∉qs:=λhm=>R (J▸κ.sub m hm);rw[ae this,ac J,ac J]
    .rw[ae J];by_cases j:m∈qs
     .rw[ac j,ae J,θ m (sD m j) (u m j),ae C,ac j]
     .rw[ae j,ae J,ae C,ae j]
  .simp only[AB.ek,BV.gt,A.2,B.l3,J8,EV.noR,κ.AbA];cases(match ep.x6 with|some s=>c !=s|none=>X)<;>rfl
 .cases b
theorem zE{O:AB}(hR:Nw F0 w0 N O)(hj:JD D O){op oq:Oper}{p q:PR}(hp:N2 P N ops op p=X)(hq:N2 P N ops oq q=X)(b:Aan D q p=X)(h:F6 (AV P) K (p::q::rs) O):F6 (AV P) K (q::p::rs) O:=by
 unfold Aan at b;split at b
 .rename_i E d ht;simp only[mo,A!,qo,y?]at b;obtain⟨⟨⟨⟨⟨hm,ε⟩,sD⟩,c1⟩,c2⟩,c3⟩:=b;obtain⟨H,κ,qm,qg',qb,qold⟩:=W7 hm;rw[κ]at c1;simp only[D?]at c1;have hqd:H≠d:=λe=>BC c1 (x:=H) V d_;have R:H∉p.op.slots:=λe=>BC c1 (x:=H) V d_;have A:d∉q.op.slots:=λe=>BC c2 (x:=d) V (D9 e);have dng:d∉q.gsl:=λe=>BC c2 (x:=d) V (Em e);have B:∀s∈E,s∉q.op.slots:=λs hs e=>BC c2 (x:=s) (by simp[hs]) (D9 e);have sng:∀s∈E,s∉q.gsl:=λs hs e=>BC c2 (x:=s) (by simp[hs]) (Em e);obtain⟨e',I,h⟩:=h;have hR':=hR.congr I.symm;have hj':=hj.congr I.symm;obtain⟨l3,⟨⟨e1,j,hw⟩,Z,η,J,ζ⟩,hR1⟩:=Gi (K:=λl3=>(∃e1,Ow e1 l3/\q.wp (AV P) e1 (F6 (AV P) K rs))/\∃Z,ki (AV P) p.op E d e' Z/\l3=(d,Z)::TJ E e'/\∀env2,(∀n∈p.op.slots,env2.get n=e'.get n)->env2.gt d=X->∀K2:AB->Prop,K2 ((d,Z)::TJ E env2)->p.wp (AV P) env2 K2) hR' hp (by
   obtain ⟨e,k1,k2,k3⟩:=ZI ht h;exact k3 e' (λ_ _=>rfl) k1.dno _ ⟨k2,e,k1,rfl,k3⟩)
  subst J;have u:JD D e1:=by
   intro x C;rw[j.2,AB.ek,J8,EV.noR,η.AbA];exact hj' x C
  obtain ⟨X1,⟨hK,eq,δ,G⟩,_⟩:=Gi (hR1.congr j.symm) hq (Q2 κ qm qg' hw);have M:∀n,n≠d->n∉E->e1.get n=e'.get n:=λn l z=>by
   rw [j.1,AB.d7,ae (λe=>l e.symm),QO,ae z]
  have θ:∀x,x∈D->x∉q.op.slots->∀e,δ.on x e=e:=λx hxD hxn e=>G.away hxn (λy hy=>u.no hy hxD) e;have L:Ez q.op δ (Y H) e1 e':=by
   refine ⟨λx C=>.inl (M x (λe=>A (e▸C)) (λe=>B x e C)).symm,λx C r hr=>.inl (M r (λe=>u.no hr (e▸ε)) (λe=>u.no hr (sD r e))).symm,λx C _=>(M x (λe=>A (e▸Cp C)) (λe=>B x e (Cp C))).symm,?_,λhn d' hd' Q=>?_⟩
   .have l:=G.slot;have z:=G.ok;have h4:=G.cell;cases δ with
    |none=>trivial|slot x t=>
     simp only[BV.ok]at z|-;rw[<-M x (λe=>A (e▸Cp (l _ _ rfl))) (λe=>B x e (Cp (l _ _ rfl)))];exact z
    |cell x off t=>
     obtain ⟨ds,h5,h6⟩:=z;refine⟨ds,?_,h6⟩;rw[<-M x (λe=>?_) (λe=>?_)]
     .exact h5
     .rcases h4 _ _ _ rfl with h7|⟨y,_,h8⟩
      .exact A (e▸h7)
      .exact u.no h8 (e▸ε)
     .rcases h4 _ _ _ rfl with h7|⟨y,_,h8⟩
      .exact B x e h7
      .exact u.no h8 (sD x e)
   .rw[j.2,AB.ek,J8,mo]at Q;exact Q.2
  have hgq:∀g∈q.gsl,e'.get g=e1.get g:=λg hg=>(M g (λe=>dng (e▸hg)) (λe=>sng g e hg)).symm;refine⟨e',I,G.again e' L hgq _ ⟨_,.refl _,ζ _ (λn hn=>?_) ?_ _ (JF hK ?_)⟩⟩
  .have hne:H≠n:=λe=>R (e▸hn);rw[AB.d7,ae hne,BV.get];have hb:=η.slbx n hn;have k1:=G.slot;have k2:=L.eff;cases δ with
   |none=>rfl|slot s t=>
    simp only[BV.on];rw[ae];intro e;subst e;exact BC c3 (k1 _ _ rfl) hn
   |cell s off t=>
    simp only[BV.on];rw[ae];intro e;subst e;obtain⟨cs,k3,_⟩:=k2;exact hb cs k3
  .rw[AB.ek,BV.gt,η.dno,C?];refine Vs (λs he=>?_);rcases G.x6 s he with l|⟨x,_,z⟩
   .exact λe=>BC qb l (e▸ε)
   .exact λe=>u.no z (e▸ε)
  .rw[G.l3];have hdd:∀e,δ.on d e=e:=θ d ε A;refine⟨λm=>?_,λc=>?_⟩
   .simp only[AB.d7,BV.get,QO,j.1];by_cases l:H=m
    .have F:m∉E:=λhm=>R (l▸η.sub m hm);have h4:¬d=m:=λe=>hqd (l.trans e.symm);rw[ac l,ae h4,ae F,ac l]
    .rw[ae l];by_cases z:d=m
     .subst z;rw[ac rfl,ac rfl,hdd]
     .rw[ae z,ae z];by_cases F:m∈E
      .rw[ac F,ac F,θ m (sD m F) (B m F)]
      .rw[ae F,ae F,ae l]
   .simp only[AB.ek,BV.gt,j.2,J8,EV.noR,η.AbA];cases(match eq.x6 with|some s=>c !=s|none=>X)<;>rfl
 .cases b
theorem zQ{S:FuncId->Fq->BA->Prop}{O:AB}{p q:PR}(b:AaR p q=X)(h:F6 S K (p::q::rs) O):F6 S K (q::p::rs) O:=by
 unfold AaR at b;split at b
 .rename_i M B qs H Q R;have l:∀x,x=B\/x∈p.op.slots->x≠H/\x∉q.op.slots:=λx l=>by
   grind [BC,List.mem_cons_self,List.mem_cons_of_mem]
  obtain ⟨e',L,h⟩:=h;obtain⟨ζ,F,⟨e1,g,κ⟩,C⟩:=ZI Q h;obtain⟨eq,j,η,u⟩:=ZI R κ;have θ:∀n,n≠B->n∉M->e1.get n=e'.get n:=λn z E=>by
   rw [g.1,AB.d7,ae (λe=>z e.symm),QO,ae E]
  have I:∀n∈q.op.slots,e'.get n=e1.get n:=λn A=>(θ n (λe=>(l n (.inl e)).2 A) (λe=>(l n (.inr (F.sub n e))).2 A)).symm;have J:e'.gt H=X:=by
   have:=j.dno;rw[g.2,AB.ek,J8,mo]at this;exact this.2
  refine ⟨e',L,u e' I J _ ⟨_,.refl _,C _ (λn A=>?_) ?_ _ (JF η ?_)⟩⟩
  .rw[AB.d7,ae (λe=>(l n (.inr A)).1 e.symm),QO,ae (λe=>(l n (.inr A)).2 (j.sub n e))]
  .rw[AB.ek,J8,F.dno,EV.noR,j.AbA];rfl
  .refine⟨λm=>?_,λc=>?_⟩
   .simp only[AB.d7,QO,g.1];by_cases z:H=m
    .have E:¬B=m:=λe=>(l B (.inl rfl)).1 (e.trans z.symm);have ε:m∉M:=λG=>(l m (.inr (F.sub m G))).1 z.symm
     grind
    .rw[ae z];by_cases E:B=m
     .have ε:m∉qs:=λG=>(l m (.inl E.symm)).2 (j.sub m G)
      grind
     grind
   .simp only[AB.ek,J8,g.2,EV.noR,F.AbA,j.AbA]
 .cases b
end
def AF.ptr:AF->Option Nat
 |.bad s _=>Y s|.fad (.s m) _=>Y m|_=>W
def EV.box2(e e2:EV):Prop:=e2=e\/∃cs cs',e=.bx cs/\e2=.bx cs'
variable{m:Nat}
def bP{S:FuncId->Fq->BA->Prop}{op:AF}{dst:Option Nat}{O:AB}{K:EV->AB->Prop}(ho:op.ptr=Y m)(h:op.wp S O dst K):
  ∃e,K e O/\(∀s,e.x6=Y s->(s∈op.Aa1\/(O.get m).x6=Y s))/\(∀cs,e≠.bx cs)/\∀env2,(O.get m).box2 (env2.get m)->(∀s,(O.get m).x6=Y s->(O.get s).box2 (env2.get s))->∀l:EV->AB->Prop,l e env2->op.wp S env2 dst l:=by
 unfold AF.ptr at ho;split at ho
 .rename_i s k;simp only[p0]at ho;subst ho;simp only[AF.wp]at h;split at h
  .rename_i cs c;refine⟨_,h,λs' g=>.inl (by simpa[AF.Aa1,EV.x6]using g.symm),V,λenv2 b _ l j=>?_⟩;have:∃cs',env2.get s=.bx cs':=by
    rcases b with b|⟨_,cs',_,b⟩
    .grind
    .exact⟨cs',b⟩
   obtain ⟨cs',u⟩:=this;simp only[AF.wp,u];exact j
  .rename_i row c;refine⟨_,h,by simp[EV.x6],V,λenv2 b _ l j=>?_⟩;rcases b with b|⟨cs,_,b,_⟩
   .simp only[AF.wp,b,c];exact j
   .rw[c]at b;cases b
  .exact h.elim
 .rename_i m' k;simp only[p0]at ho;subst ho;simp only[AF.wp,AH.ev]at h;split at h
  .rename_i row c;refine⟨_,h,by simp[EV.x6],V,λenv2 b _ l j=>?_⟩;rcases b with b|⟨cs,_,b,_⟩
   .simp only[AF.wp,AH.ev,b,c];exact j
   .rw[c]at b;cases b
  .rename_i s off c;split at h
   .rename_i cs z;refine⟨_,h,λs' g=>.inr (by rw[c];exact g),V,λenv2 b u l j=>?_⟩;have e1:env2.get m'=.bp s off:=by
     rcases b with b|⟨_,_,b,_⟩
     .rw[b,c]
     grind
    have e2:∃cs',env2.get s=.bx cs':=by
     rcases u s (by rw[c];rfl)with u|⟨_,cs',_,u⟩
     .grind
     .exact⟨cs',u⟩
    obtain ⟨cs',e2⟩:=e2;simp only[AF.wp,AH.ev,e1,e2];exact j
   .exact h.elim
  .exact h.elim
 .cases ho
def Yt(m q s:Nat)(cs:List AS)(off:Nat)(O:AB):AB:=(s,.bx (cs.set off ⟨T,.undef⟩))::(m,.undef)::(q,.undef)::O
theorem UC{S:FuncId->Fq->BA->Prop}{m q d:Nat}{O:AB}{K:EV->AB->Prop}(h:(AF.AaJ m q).wp S O (Y d) K):
  ∃e s off cs,O.get m=.nh s off .hd/\O.get s=.bx cs/\(∀cs,O.get q≠.bx cs)/\O.gt d=X/\e.x6=W/\K e (Yt m q s cs off O)/\
   ∀env2,env2.get m=O.get m->env2.get q=O.get q->env2.get s=O.get s->env2.gt d=X->∀g:EV->AB->Prop,g e (Yt m q s cs off env2)->(AF.AaJ m q).wp S env2 (Y d) g:=by
 simp only[AF.wp]at h;split at h
 .rename_i I s off n J c l u;simp only[p0]at c;subst c;split at h
  .rename_i cs z;cases b:O.nat s off with
   |none=>rw[b]at h;exact h.elim|some es=>
    rw [b]at h;simp only[A0]at h;obtain⟨E,⟨F,G⟩,H⟩:=h;refine⟨_,s,off,cs,l,z,by rw[u];simp,F,rfl,H,λenv2 e1 e2 j A g B=>?_⟩;have C:env2.nat s off=Y es:=by rw[<-b];exact AB.Aar j
    simp only[AF.wp,e1,e2,j,l,u,z,C,A0];exact⟨E,⟨A,G⟩,B⟩
  .exact h.elim
 .exact h.elim
def Aam(D:QQ)(p q:PR):Bool:=
 match p.op.ptr,p.guard,p.dst,q.op,q.guard,q.dst with
 |some x,W,Y dp,.AaJ m qq,W,Y d=>D.contains d&&D.contains dp&&D.contains m&&D.contains qq&&Ff [dp] [d,m,qq]&&Ff [x] [d,m,qq]&&Ff p.op.Aa1 D&&dp !=x&&PR.Aae D p|_,_,_,_,_,_=>T
variable{off:Nat}
def Q4{m q s:Nat}{cs:List AS}{O:AB}(n:Nat):AB.get (Yt m q s cs off O) n=if s=n then .bx (cs.set off ⟨T,.undef⟩)else if m=n then .undef else if q=n then .undef else O.get n:=rfl
theorem Qe{m q s:Nat}{cs:List AS}{O:AB}(c:Nat):AB.gt c (Yt m q s cs off O)=AB.gt c O:=by
 simp [Yt,AB.ek,EV.noR,EV.x6]
section
variable{S:FuncId->Fq->BA->Prop}{K:AB->Prop}{D:QQ}
variable{rs:List PR}
theorem zJ{O:AB}(hj:JD D O){p q:PR}(b:Aam D p q=X)(h:F6 S K (p::q::rs) O):F6 S K (q::p::rs) O:=by
 unfold Aam at b;split at b
 .rename_i x j m H d I κ η ζ δ Z;simp only[mo,A!,qo,bne_iff_ne,ne_eq]at b;obtain⟨⟨⟨⟨⟨⟨⟨⟨dD,dpD⟩,mD⟩,qD⟩,Q⟩,R⟩,pb⟩,hdx⟩,_⟩:=b;have n1:j≠d:=λe=>BC Q (x:=j) V d_;have n2:j≠m:=λe=>BC Q (x:=j) V d_;have n3:j≠H:=λe=>BC Q (x:=j) V d_;have n4:x≠d:=λe=>BC R (x:=x) V d_;have n5:x≠m:=λe=>BC R (x:=x) V d_;have n6:x≠H:=λe=>BC R (x:=x) V d_;obtain⟨e',F,h⟩:=h;have z:=hj.congr F.symm;simp only[PR.wp,κ,η,AB.put]at h;obtain⟨e,⟨e1,g,hw⟩,hre,θ,G⟩:=bP I h;simp only[PR.wp,δ,Z,ζ,AB.put]at hw;obtain⟨eq,s,off,cs,k1,ε,k3,k4,k5,hK,u⟩:=UC hw;have A:∀n,n≠j->e1.get n=e'.get n:=λn hn=>by rw[g.1,AB.d7,ae (λe=>hn e.symm)]
  have B:s≠j:=by
   intro hs;subst hs;rw[g.1,AB.d7,ac rfl]at ε;exact θ cs ε
  have J:e'.get m=.nh s off .hd:=by rw[<-A m (λe=>n2 e.symm)];exact k1
  have C:e'.get s=.bx cs:=by rw[<-A s B];exact ε
  have L:s∉D:=z.no (x:=m) (by rw[J];rfl);have hsd':s≠d:=λe=>L (e▸dD);have M:e'.gt d=X:=by rw[g.2,AB.ek,mo]at k4;exact k4.2
  refine ⟨e',F,?_⟩;simp only[PR.wp,δ,Z,ζ,AB.put];refine u e' (A m (λe=>n2 e.symm)).symm (A H (λe=>n3 e.symm)).symm (A s B).symm M _ ⟨_,.refl _,?_⟩;simp only[PR.wp,κ,η,AB.put];refine G _ ?_ (λr hr=>?_) _ (JF hK ?_)
  .rw[AB.d7,ae (λe=>n4 e.symm),Q4];by_cases E:s=x
   .subst E;rw[ac rfl];exact .inr ⟨cs,_,C,rfl⟩
   .rw[ae E,ae (λe=>n5 e.symm),ae (λe=>n6 e.symm)];exact .inl rfl
  .have l:r∉D:=z.no hr;rw[AB.d7,ae (λ(e:d=r)=>l (e▸dD)),Q4];by_cases E:s=r
   .subst E;rw[ac rfl];exact .inr ⟨cs,_,C,rfl⟩
   .rw[ae E,ae (λ(e:m=r)=>l (e▸mD)),ae (λ(e:H=r)=>l (e▸qD))];exact .inl rfl
  .refine⟨λn=>?_,λc=>?_⟩
   .simp only[AB.d7,Q4,g.1]
    grind
   .simp only[AB.ek,Qe,g.2,EV.noR,k5]
    grind
 .cases b
theorem zI{O:AB}(hj:JD D O){p q:PR}(b:Aam D q p=X)(h:F6 S K (p::q::rs) O):F6 S K (q::p::rs) O:=by
 unfold Aam at b;split at b
 .rename_i x j m F d G Q R θ ε κ;simp only[mo,A!,qo,bne_iff_ne,ne_eq]at b;obtain⟨⟨⟨⟨⟨⟨⟨⟨ζ,I⟩,mD⟩,qD⟩,J⟩,L⟩,qb⟩,hdx⟩,_⟩:=b;have n1:j≠d:=λe=>BC J (x:=j) V d_;have n2:j≠m:=λe=>BC J (x:=j) V d_;have n3:j≠F:=λe=>BC J (x:=j) V d_;have n4:x≠d:=λe=>BC L (x:=x) V d_;have n5:x≠m:=λe=>BC L (x:=x) V d_;have n6:x≠F:=λe=>BC L (x:=x) V d_;obtain⟨e',B,h⟩:=h;have u:=hj.congr B.symm;simp only[PR.wp,ε,κ,θ,AB.put]at h;obtain⟨ep,s,off,cs,k1,k2,k3,k4,δ,⟨e1,g,Z⟩,C⟩:=UC h;simp only[PR.wp,Q,R,AB.put]at Z;obtain⟨e,hK,M,hnb,l⟩:=bP G Z;have z:s∉D:=u.no (x:=m) (by rw[k1];rfl);have hsd:s≠d:=λe=>z (e▸ζ);have g1:∀n,n≠d->n≠m->n≠F->(e1.get n).box2 (e'.get n):=by
   intro n E h2 h3;rw[g.1,AB.d7,ae (λe=>E e.symm),Q4];by_cases η:s=n
   .subst η;rw[ac rfl];exact .inr ⟨_,cs,rfl,k2⟩
   .rw[ae η,ae (λe=>h2 e.symm),ae (λe=>h3 e.symm)];exact .inl rfl
  have A:JD D e1:=by
   intro y hy;rw[g.2,AB.ek,Qe,EV.noR,δ];exact u y hy
  refine ⟨e',B,?_⟩;simp only[PR.wp,Q,R,AB.put];refine l e' (g1 x n4 n5 n6) (λr hr=>?_) _ ⟨_,.refl _,?_⟩
  .have hrD:r∉D:=A.no hr
   grind
  .simp only[PR.wp,ε,κ,θ,AB.put];have H:s≠j:=λe=>z (e▸I);refine C _ (by rw[AB.d7,ae n2]) (by rw[AB.d7,ae n3]) (by rw[AB.d7,ae (λe=>H e.symm)]) ?_ _ (JF hK ?_)
   .rw[AB.ek,k4,C?];refine Vs (λr hr=>?_);rcases M r hr with E|E
    .grind[BC]
    .exact λ(e:r=d)=>A.no E (e▸ζ)
   .refine⟨λn=>?_,λc=>?_⟩
    .simp only[AB.d7,Q4,g.1]
     grind
    .simp only[AB.ek,Qe,g.2,EV.noR,δ]
     grind
 .cases b
end
def Abe(p:PR):Bool:=p.tk.isSome||(match p.op,p.guard,p.dst with|.AaJ _ _,W,Y _=>X|_,_,_=>T)
theorem fL{S:FuncId->Fq->BA->Prop}{p:PR}{O:AB}{K:AB->Prop}(ho:Abe p=X)(h:p.wp S O K):∃l3,K l3/\(∀c,l3.gt c=O.gt c)/\∀g:AB->Prop,g l3->p.wp S O g:=by
 simp only[Abe,D_]at ho;rcases ho with ho|ho
 .obtain⟨⟨qs,d⟩,l⟩:=D!.1 ho;obtain⟨e,j,u,b⟩:=ZI l h;exact⟨_,u,λc=>by rw[AB.ek,J8,EV.noR,j.AbA];rfl,b O (λ_ _=>rfl) j.dno⟩
 grind [PR.wp,AB.put,UC,AB.ek,Qe,EV.noR]
def lh{D:QQ}{p q:PR}(h:Aan D q p=X):Abe p=X:=by grind[Aan,Abe]
theorem iQ{D:QQ}{p q:PR}(h:Aan D p q=X):PR.Aae D p=X:=by
 unfold Aan at h
 grind
def lm{p q:PR}(h:AaR p q=X):Abe p=X:=by grind[AaR,Abe]
theorem iR{D:QQ}{p q:PR}(h:Aam D p q=X):PR.Aae D p=X:=by
 unfold Aam at h
 grind
def li{D:QQ}{p q:PR}(h:Aam D q p=X):Abe p=X:=by grind[Aam,Abe]
end Go.Sf
namespace Go.Sf
open Go.RowKit (Below)
def Pb(rs:List PR)(i:Nat):PR:=(rs[i]?).getD ⟨W,.Abu 0,W⟩
def AbH(p:PR):Bool:=match p.op,p.guard,p.dst with
 |.Aaj _,W,Y _=>X|_,_,_=>T
def AaS(p q:PR):Bool:=match p.op,p.guard,p.dst,q.op,q.guard,q.dst with
 |.Aaj gs,W,Y dp,.alc _,W,Y dq=>dp !=dq&&!(gs.flatMap GC.sl).contains dq|_,_,_,_,_,_=>T
theorem lg{p q:PR}(h:AaS p q=X):AbH p=X:=by grind[AaS,AbH]
def Xg(p:PR):Bool:=match p.op,p.guard,p.dst with
 |.st _ (.s _) _,W,W=>X|.xst _ _ _,W,W=>X|_,_,_=>T
def AaX(D:QQ)(p q:PR):Bool:=match p.op,p.guard,p.dst,q.op,q.guard,q.dst with
 |.xst x v _,W,W,.xia (.s _) _ _,W,Y d=>D.contains d&&!x.sl.contains d&&!v.sl.contains d|_,_,_,_,_,_=>T
def Tr(D:QQ)(p q:PR):Bool:=match p.op,p.guard,p.dst,q.op,q.guard,q.dst with
 |.st _ (.s x) v,W,W,.bad m _,W,Y d=>D.contains d&&d !=x&&d !=m&&!v.sl.contains d&&!v.sl.contains m|.st _ (.s x) v,W,W,.fad (.s m) _,W,Y d=>D.contains d&&d !=x&&d !=m&&!v.sl.contains d&&!v.sl.contains m|_,_,_,_,_,_=>T
theorem lf{D:QQ}{p q:PR}(h:Tr D p q=X):Xg p=X:=by grind[Tr,Xg]
theorem lj{D:QQ}{p q:PR}(h:AaX D p q=X):Xg p=X:=by grind[AaX,Xg]
def AF.vops:AF->Option (List AH)
 |.len x=>Y [x]|.mm _ x y=>Y [x,y]|.slc _ x lo hi=>Y (x::(lo.toList++hi.toList))|.bin _ _ x y=>Y [x,y]|.cvt _ x=>Y [x]|.fdv x _=>Y [x]|.ldv x _=>Y [x]|_=>W
def Aa6(D:QQ)(p q:PR):Bool:=match p.op.vops,p.guard,p.dst,q.op,q.guard,q.dst with
 |some xs,W,Y d,.st _ (.s x) v,W,W=>PR.Aae D p&&d !=x&&!v.sl.contains d&&Ff (xs.flatMap AH.sl) v.sl|_,_,_,_,_,_=>T
def Aba(D:QQ)(p q:PR):Bool:=match p.op,p.guard,p.dst,q.op,q.guard,q.dst with
 |.ldb b _,W,Y d,.st _ (.s x) v,W,W=>PR.Aae D p&&D.contains b&&b !=x&&d !=x&&d !=b&&!v.sl.contains d&&!v.sl.contains b|.bad b _,W,Y d,.st _ (.s x) v,W,W=>PR.Aae D p&&d !=x&&!v.sl.contains d&&!v.sl.contains b|_,_,_,_,_,_=>T
def AaT(D:QQ)(p q:PR):Bool:=Yv D p q||AaU D p q||AaS p q||Aa8 D p q||Aa7 D p q||(Tr D p q||AaX D p q)||Aa6 D p q||Aba D p q||(Aan D p q||Aan D q p||AaR p q||Aam D p q||Aam D q p)
def okQ(p:PR):Bool:=match p.op,p.guard,p.dst with
 |.tkx _,W,Y _=>X|.Abd _ _ _ _,W,Y _=>X|_,_,_=>T
def iP{D:QQ}{p q:PR}(h:AaT D p q=X):((PR.Aae D p=X\/AbH p=X)\/Xg p=X)\/Abe p=X:=by
 simp [AaT]at h;rcases h with(((((((h|h)|h)|h)|h)|h)|h)|h)|((((h|h)|h)|h)|h)
 rotate_right 5
 .grind[iQ]
 .exact .inr (lh h)
 .exact .inr (lm h)
 .grind[iR]
 .exact .inr (li h)
 all_goals refine .inl ?_
 .simp[Yv]at h
  grind
 .unfold AaU at h
  grind
 .grind[lg]
 .unfold Aa8 at h
  grind
 .unfold Aa7 at h
  grind
 .grind[lf,lj]
 .unfold Aa6 at h
  grind
 .unfold Aba at h
  grind
def tu(ops:Array Oper):QQ:=
 ops.toList.foldl (λacc o=>acc++[o.after.toList.foldl (λm e=>if Region.binds .any e then m|||(1<<<e.on)|||acc.getD e.on 0 else m) 0]) []
def okCa(p:PR):Bool:=match p.op,p.guard,p.dst with
 |.AaL _ _ _,W,Y _=>X|_,_,_=>T
def rH{S:FuncId->Fq->BA->Prop}{p:PR}{O:AB}{K:AB->Prop}(ho:okCa p=X)(h:p.wp S O K):p.wp S O λl3=>K l3/\∀c,l3.gt c=O.gt c:=by
 unfold okCa at ho;split at ho
 .rename_i f args i d j l u;simp[PR.wp,j,l,u,AF.wp,AB.put]at h|-;split at h
  .rename_i B q b C;simp at b;subst b;split at h
   .rename_i cs E;refine⟨h.1,?_⟩;cases hv:Jd O i args with
    |none=>rw[hv]at h;exact h.2.elim|some F=>
     rw [hv]at h;obtain⟨_,r,z,A⟩:=h;refine⟨r,z,λg=>⟨A g,λc=>?_⟩⟩;have:EV.noR c r.aev=X:=by cases r<;>rfl
     rw [AB.ek,AB.ek,this];rfl
   .exact h.elim
  .exact h.elim
 .cases ho
def okCm(p:PR):Bool:=match p.op,p.dst with
 |.AaB _ _ _,Y _=>X|_,_=>T
def fK(D:QQ)(r:PR):Bool:=
 O2 r.op||AbH r||okQ r||Abe r||okCa r||okCm r||(r.op.mov&&r.dst.isSome&&(!r.op.r0||r.guard.isNone)&&Ff r.op.Aa1 D)
def Vu(P:Program)(N:Nat)(D:QQ)(ops:Array Oper)(rs:List PR):Bool:=
 let n:=ops.size
 let M:=tu ops
 N8 P N ops ops.toList rs&&(A? n).all (λi=>fK D (Pb rs i)) &&
 (A? n).all (λi=>match ops[i]? with
  |some o=>o.after.toList.all λe=>!Region.binds .any e||decide (e.on<i)|none=>T) &&
 (A? n).all (λi=>(A? n).all λj=>!(M.getD i 0).testBit j||(match ops[i]? with
  |some o=>o.after.toList.any λe=>Region.binds .any e&&(e.on==j||(decide (e.on<i)&&(M.getD e.on 0).testBit j))|none=>T)) &&
 (A? n).all (λi=>(A? i).all λj=>(M.getD i 0).testBit j||AaT D (Pb rs j) (Pb rs i))
section
variable{P:Program}{F0:Nat->Nat->Prop}{w0:W0}{N:Nat}{p:Option (Nat×Value)}{ops:Array Oper}{K:AB->Prop}{D:QQ}
def Ez.refl{op:AF}{f:BV}{d:Option Nat}{O:AB}(h:f.ok O):Ez op f d O O:=
 ⟨λ_ _=>.inl rfl,λ_ _ _ _=>.inl rfl,λ_ _ _=>rfl,h,λ_ _ _ h=>h⟩
def NV(d:Nat)(b:AB):∀(qs:QQ)(O:AB),AB.gt d (SQ b qs O)=AB.gt d O
 |[],_=>rfl|q::qs,O=>by
  rw [SQ,AB.ek,NV d b qs O]
  grind [NU,EV.noR,EV.x6]
def um(d:Nat)(e:EV)(O:AB)(g:GC)(h:d∉g.sl):GC.cell ((d,e)::O) g=g.cell O:=by
 cases g with
 |z c=>rfl|v x k n=>
  cases x with
  |s q=>
   grind [GC.sl,z!,GC.cell,AH.val,AH.ev,AB.d7]
  |c t=>rfl
 |w q=>
  grind [GC.sl,z!,GC.cell,AB.d7]
 |g q k n=>
  grind [GC.sl,z!,GC.cell,AB.d7]
def eV(d:Nat)(e:EV)(O:AB):∀(gs:List GC),d∉gs.flatMap GC.sl->Kr ((d,e)::O) gs=Kr O gs
 |[],_=>rfl|g::gs,h=>by
  rw [List.flatMap_cons,y_,not_or]at h;simp[Kr,um d e O g h.1,eV d e O gs h.2]
variable{gs:List GC}
def wI{q:Nat}(h:q∈gs.filterMap GC.slot):q∈gs.flatMap GC.sl:=by
 rw [List.mem_filterMap]at h;obtain⟨g,b,e⟩:=h;rw[B_];refine⟨g,b,?_⟩;cases g<;>simp[GC.slot]at e<;>simp[GC.sl,e]
variable{d:Nat}
def XO{S:FuncId->Fq->BA->Prop}{p:PR}{O:AB}{K:AB->Prop}(e1:p.op=.Aaj gs)(e2:p.guard=W)(g:p.dst=Y d)(h:p.wp S O K):
  ∃cs,((gs.filterMap GC.src).Nodup/\d∉gs.filterMap GC.slot)/\Kr O gs=Y cs/\K ((d,.oag cs)::SQ O (gs.filterMap GC.slot) O):=by
 simp only[PR.wp,e1,e2,g,AF.wp,AB.put]at h;obtain⟨j,c⟩:=h;cases b:Kr O gs with
 |none=>rw[b]at c;exact c.elim|some l=>rw[b]at c;exact⟨l,j,rfl,c⟩
theorem UH{S:FuncId->Fq->BA->Prop}{p:PR}{O:AB}{K:AB->Prop}{cs:List AS}(e1:p.op=.Aaj gs)(e2:p.guard=W)(c:p.dst=Y d)(g:(gs.filterMap GC.src).Nodup/\d∉gs.filterMap GC.slot)(b:Kr O gs=Y cs)
  (h:K ((d,.oag cs)::SQ O (gs.filterMap GC.slot) O)):p.wp S O K:=by
 simp only[PR.wp,e1,e2,c,AF.wp,AB.put,b];exact⟨g,h⟩
variable{q:PR}{v:AH}
def Ve{S:FuncId->Fq->BA->Prop}{O:AB}{K:AB->Prop}{n x:Nat}(b:q.op=.st n (.s x) v)(z:q.guard=W)(hd:q.dst=W)(h:q.wp S O K):
  ∃s off cs cs' o,(AH.s x).place O=Y (s,off)/\O.get s=.bx cs/\(∀j e,o=Y (j,e)->v=.s j/\(∃t,e=.tv t)/\j≠s)/\K (P3 s cs' o O)/\
   ∀env2,(AH.s x).place env2=Y (s,off)->env2.get s=.bx cs->v.ev env2=v.ev O->∀l:AB->Prop,l (P3 s cs' o env2)->q.wp S env2 l:=by
 unfold PR.wp at h;rw[z,b,hd]at h;simp[AF.wp]at h;split at h
 .rename_i s off C;split at h
  .rename_i cs E;split at h
   .rename_i t hv;cases v with
    |c t=>exact h.elim|s j=>
     simp only at h;simp[AH.ev]at hv;refine⟨s,off,cs,_,Y (j,.tv t),C,E,?_,h.2.2.2,λenv2 A B u l g=>?_⟩
     .intro s' F he;simp at he;obtain⟨rfl,rfl⟩:=he;exact⟨rfl,⟨t,rfl⟩,h.1⟩
     .simp[AH.ev]at u;unfold PR.wp;rw[z,b,hd];simp[AF.wp,A,B,AH.ev,u,hv];exact⟨h.1,h.2.1,h.2.2.1,g⟩
   next t hv=>refine⟨s,off,cs,_,W,C,E,V,h.2.2,λenv2 A B u l g=>?_⟩;unfold PR.wp;rw[z,b,hd];simp[AF.wp,A,B,u,hv];exact⟨h.1,h.2.1,g⟩
   .exact h.elim
  .exact h.elim
 .exact h.elim
variable{o:Oper}{e':AB}
def head{p:PR}(ho:N2 P N ops o p=X){K:AB->Prop}(j:((PR.Aae D p=X\/AbH p=X)\/Xg p=X)\/Abe p=X)(H:Nw F0 w0 N e')(I:JD D e')(h:p.wp (AV P) e' K):
  ∃l3,K l3/\Nw F0 w0 N l3/\JD D l3/\∀g:AB->Prop,g l3->p.wp (AV P) e' g:=by
 rcases j with((j|j)|j)|j
 rotate_right
 .obtain⟨l3,⟨z,Q,R⟩,b⟩:=Gi (K:=λl3=>K l3/\(∀c,l3.gt c=e'.gt c)/\∀g:AB->Prop,g l3->p.wp (AV P) e' g) H ho (by
   grind [fL])
  exact ⟨l3,z,b,λd hd=>by rw[Q];exact I d hd,R⟩
 .simp[PR.Aae,C!]at j;obtain⟨⟨⟨⟨ζ,δ⟩,Z⟩,pb⟩,pD⟩:=j;obtain⟨dp,θ⟩:=D!.1 δ;have M:p.op.r0=X->p.guard=W:=λκ=>by
   rcases Z with h|h
   .rw[κ]at h;cases h
   .simpa using h
  obtain ⟨l3,⟨z,ep,fp,L⟩,b⟩:=Gi H ho (Q2 θ ζ M h);exact⟨l3,z,b,L.jd pb I,λg l=>L.again e' (.refl L.ok) (λ_ _=>rfl) _ (by rw[<-L.l3];exact l)⟩
 .unfold AbH at j;split at j
  .rename_i gs d e1 e2 C;obtain⟨l3,z,b⟩:=Gi (K:=λl3=>K l3/\∃cs,((gs.filterMap GC.src).Nodup/\d∉gs.filterMap GC.slot)/\Kr e' gs=Y cs/\l3=(d,.oag cs)::SQ e' (gs.filterMap GC.slot) e') H ho (by
    obtain ⟨ts,A,B,E⟩:=XO e1 e2 C h
    grind [UH])
   obtain ⟨z,ts,A,B,rfl⟩:=z;refine⟨_,z,b,λx ε=>?_,λg l=>UH e1 e2 C A B l⟩;rw[AB.ek,NV,I x ε];rfl
  .cases j
 .unfold Xg at j;split at j
  .rename_i n x v e1 e2 C;obtain⟨l3,⟨z,s,off,cs,cs',o',A,F,B,E,G⟩,b⟩:=Gi (K:=λl3=>K l3/\∃s off cs cs' o,(AH.s x).place e'=Y (s,off)/\e'.get s=.bx cs/\(∀J e,o=Y (J,e)->v=.s J/\(∃t,e=EV.tv t)/\J≠s)/\l3=P3 s cs' o e'/\
     ∀g:AB->Prop,g (P3 s cs' o e')->p.wp (AV P) e' g) H ho (by
    obtain ⟨s,off,cs,cs',o,A,F,B,E,G⟩:=Ve e1 e2 C h;exact G e' A F rfl _ ⟨E,s,off,cs,cs',o,A,F,B,rfl,λg l=>G e' A F rfl g l⟩)
   subst E;refine⟨_,z,b,λd hd=>?_,G⟩;rw[Gn _ _ _ _ _ (λJ e he=>by
    obtain ⟨_,⟨t,rfl⟩,_⟩:=B J e he;rfl)]
   exact I d hd
  .rename_i x v k e1 e2 C;obtain⟨l3,⟨z,Q,R⟩,b⟩:=Gi (K:=λl3=>K l3/\(∀c,l3.gt c=e'.gt c)/\∀g:AB->Prop,g l3->p.wp (AV P) e' g) H ho (by
    simp [PR.wp,e1,e2,C,AF.wp,AB.put]at h|-;split at h
    .rename_i q i c ε;split at h
     .rename_i n es u η hu;obtain⟨A,F,es',B,E,G,h7⟩:=h;refine⟨A,F,es',B,E,G,h7,λc=>(QT (es':=es') η).2.2 c,λg l=>?_⟩
      grind
     .exact h.elim
    .exact h.elim)
   exact ⟨l3,z,b,λd hd=>by rw[Q];exact I d hd,R⟩
  .cases j
variable{rs:List PR}
theorem zD{p q:PR}(b:AaS p q=X){O:AB}(h:F6 (AV P) K (p::q::rs) O):F6 (AV P) K (q::p::rs) O:=by
 unfold AaS at b;split at b
 .rename_i gs L cs F e1 e2 u z A B;simp only[mo,bne_iff_ne,ne_eq,C!,A!,decide_eq_false_iff_not]at b;obtain⟨H,C⟩:=b;obtain⟨e',j,h⟩:=h;obtain⟨M,I,J,x,l,g⟩:=XO e1 e2 u h;simp[PR.wp,z,A,B,AF.wp,AB.put]at g;obtain⟨c,g⟩:=g;rw[l.2,AB.ek,NV]at c;simp[EV.noR,EV.x6]at c;refine⟨e',j,?_⟩;simp[PR.wp,z,A,B,AF.wp,AB.put];refine⟨c,_,.refl _,UH e1 e2 u I (by rw[eV _ _ _ _ C];exact J) (JF g ?_)⟩;have G:F∉gs.filterMap GC.slot:=λE=>C (wI E);refine⟨λn=>?_,λd=>?_⟩
  .rw[AB.d7,l.1,AB.d7,AB.d7,LX,LX]
   grind [AB.d7]
  .rw[AB.ek,l.2,AB.ek,AB.ek,NV,NV,AB.ek]
   grind
 .cases b
variable{m s:Nat}
def mz{S:FuncId->Fq->BA->Prop}{O l3:AB}{K:AB->Prop}{cs cs':List AS}{o:Option (Nat×EV)}(b:(∃k,q.op=.bad m k)\/∃k,q.op=.fad (.s m) k)(j:q.guard=W)(hd:q.dst=Y d)(E:O.get s=.bx cs)(ho:∀C e,o=Y (C,e)->(∃t,e=.tv t)/\C≠m)
  (he:∀n,l3.get n=(P3 s cs' o O).get n)(h:q.wp S l3 K):∃e,K ((d,e)::l3)/\∀l:AB->Prop,l ((d,e)::O)->q.wp S O l:=by
 have A:l3.get m=if s=m then .bx cs' else O.get m:=by
  grind [F5]
 have hb:∀r g,l3.get r=.bx g->∃z,O.get r=.bx z:=by
  grind [F5]
 unfold PR.wp at h;rcases b with⟨k,b⟩|⟨k,b⟩
 .rw[j,b,hd]at h;simp[AF.wp,AB.put]at h;by_cases e:s=m
  .rw[A,ac e]at h;refine⟨_,h,λl c=>?_⟩;unfold PR.wp;rw[j,b,hd];simp[AF.wp,<-e,E,AB.put];rw[<-e]at c;exact c
  .rw[A,ae e]at h;split at h
   next g u=>refine⟨_,h,λl c=>?_⟩;unfold PR.wp;rw[j,b,hd];simp[AF.wp,u,AB.put];exact c
   next row u=>refine⟨_,h,λl c=>?_⟩;unfold PR.wp;rw[j,b,hd];simp[AF.wp,u,AB.put];exact c
   .exact h.elim
 .rw[j,b,hd]at h;simp[AF.wp,AB.put,AH.ev]at h;by_cases e:s=m
  .rw[A,ac e]at h;exact h.elim
  .rw[A,ae e]at h;split at h
   next row u=>refine⟨_,h,λl c=>?_⟩;unfold PR.wp;rw[j,b,hd];simp[AF.wp,AH.ev,u,AB.put];exact c
   .rename_i r off u;split at h
    next g hr=>obtain⟨z,B⟩:=hb r g hr;refine⟨_,h,λl c=>?_⟩;unfold PR.wp;rw[j,b,hd];simp[AF.wp,AH.ev,u,B,AB.put];exact c
    .exact h.elim
   .exact h.elim
theorem zC{p q:PR}{O:AB}(G:JD D O)(g:Tr D p q=X)(h:F6 (AV P) K (p::q::rs) O):F6 (AV P) K (q::p::rs) O:=by
 have key:∃n x v m d,p.op=.st n (.s x) v/\p.guard=W/\p.dst=W/\((∃k,q.op=.bad m k)\/∃k,q.op=.fad (.s m) k)/\q.guard=W/\q.dst=Y d/\d∈D/\d≠x/\d∉v.sl/\m∉v.sl:=by
  unfold Tr at g
  grind
 obtain ⟨n,x,v,m,d,e1,e2,I,J,L,M,Q,R,θ,ε⟩:=key;obtain⟨e',j,h⟩:=h;have u:=G.congr j.symm;obtain⟨s,off,cs,cs',o,l,F,κ,⟨y,B,η⟩,ζ⟩:=Ve e1 e2 I h;have A:d≠s:=by
  intro e;subst e;simp[AH.place]at l;split at l
  next r C H=>simp at l;exact u.no (x:=x) (s:=d) (by rw[H,<-l.1];rfl) Q
  .grind
  .cases l
 have ho:∀b e,o=Y (b,e)->(∃t,e=EV.tv t)/\b≠m:=λb e he=>by
  grind [AH.sl]
 obtain ⟨e,δ,Z⟩:=mz (cs':=cs') (o:=o) (O:=e') J L M F ho B.1 η;refine⟨e',j,Z _ ⟨_,.refl _,ζ ((d,e)::e') ?_ (by rw[AB.d7,ae A];exact F) ?_ _ (JF δ ?_)⟩⟩
 .grind[AH.place,AB.d7]
 .cases v with
  |c t=>rfl|s b=>
   grind [AH.ev,AB.d7,AH.sl]
 .refine⟨λz=>?_,λz=>?_⟩
  .rw[AB.d7,B.1,F5,F5]
   grind [AB.d7,AH.sl]
  .have E:∀b e,o=Y (b,e)->e.noR z=X:=λb e he=>by
    obtain ⟨_,⟨t,rfl⟩,_⟩:=κ b e he;rfl
   rw [AB.ek,B.2,Gn _ _ _ _ _ E,Gn _ _ _ _ _ E,AB.ek]
variable{e1:AB}{n:Nat}{i:Option Nat}
def tR{g:Nat}{A:Option Nat}{es es':Fq}(b:e'.so g A=Y (n,es))(I:es'.length=es.length)(he:∀z,e1.get z=AB.get (e'.Aad g A n es') z){y q:Nat}{l:Fq}
  (L:e1.get y=.la q i)(c:e1.so q i=Y (m,l)):e'.get y=.la q i/\∃fs',e'.so q i=Y (m,fs')/\fs'.length=l.length:=by
 obtain ⟨⟨u,M,E⟩,ho,_⟩:=QT (es':=es') b;have B:g≠y:=by
  grind
 refine ⟨by rw[<-L,he,ho _ B],?_⟩;by_cases J:g=q
 .subst J;cases A with
  |none=>
   have h:e1.get g=.xo n es':=by rw[he];simp[AB.Aad,AB.d7]
   cases i with
   |none=>
    simp [AB.so,h]at c;obtain⟨rfl,rfl⟩:=c;exact⟨es,b,I.symm⟩
   |some k=>simp[AB.so,h]at c
  |some H=>
   rcases E with⟨mm,θ,Q,_⟩|⟨cs,k,R,F,G,rfl⟩
   .simp[AB.so,Q]at b
   .cases R;have h:e1.get g=.bx (cs.set H ⟨X,.xl n es'⟩):=by rw[he,M]
    cases i with
    |none=>simp[AB.so,h]at c|some k=>
     by_cases j:H=k
     .subst j;have C:H<cs.length:=(z_.1 F).1;simp[AB.so,h,z?,ac C]at c;obtain⟨rfl,rfl⟩:=c;exact⟨es,b,I.symm⟩
     .refine⟨l,?_,rfl⟩;rw[<-c];simp[AB.so,h,G,z?,ae j]
 .exact⟨l,by rw[<-c];exact AB.Aal (by rw[he,ho _ J]),rfl⟩
theorem zN{p q:PR}{O:AB}(hj:JD D O)(b:AaX D p q=X)(h:F6 (AV P) K (p::q::rs) O):F6 (AV P) K (q::p::rs) O:=by
 unfold AaX at b;split at b
 .rename_i x v k y z m d e1 e2 e3 f1 f2 f3;simp[C!,decide_eq_false_iff_not,qo]at b;obtain⟨⟨dD,Z⟩,hdv⟩:=b;obtain⟨e',Q,h⟩:=h;have η:=hj.congr Q.symm;simp only[PR.wp,e1,e2,e3,AF.wp,AB.put]at h;split at h
  .rename_i κ i0 c θ;split at h
   .rename_i n es u C hu;obtain⟨h1,h2,es',h3,h4,h5,l3,B,g⟩:=h;have H:d≠κ:=by
     rintro rfl;cases x with
     |c t=>cases θ
     |s xs=>exact η.no (x:=xs) (s:=d) (by simp[AH.ev]at θ;rw[θ];rfl) dD
    simp [PR.wp,f1,f2,f3,AF.wp,AB.put,AH.x5]at g;have ε:=B.1;obtain⟨⟨w,hw,hww⟩,ho,_⟩:=QT (es':=es') C;have ζ:w.val=W:=by rcases hww with⟨_,_,_,_,_,rfl⟩|⟨_,_,_,_,_,rfl⟩<;>rfl
    have δ:∀t,z.val l3=Y t->z.val e'=Y t:=by
     intro t F;cases z with
     |c t'=>exact F|s zz=>
      simp [AH.val,AH.ev]at F|-;by_cases A:κ=zz
      .subst A;rw[ε,hw,ζ]at F;cases F
      .rw[ε,ho _ A]at F;exact F
    have I:∃l i G j R,l3.get y=.la l i/\l3.so l i=Y (m,G)/\z.val l3=Y (.int R j)/\0<=j/\j<G.length/\F6 (AV P) K rs ((d,.lp l i (j.toNat*m))::l3):=by
     cases J:l3.get y<;>rw[J]at g<;>simp[A0]at g<;>try exact g.elim
     .cases A:z.val l3 with
      |none=>rw[A]at g;exact g.elim|some t=>
       rw [A]at g;cases t<;>try exact g.elim
       have:=g.1.1;simp[AH.ev,J,EV.x6]at this
     .rename_i l i;cases E:l3.so l i with
      |none=>rw[E]at g;exact g.elim|some pp=>
       obtain ⟨m',G⟩:=pp;rw[E]at g;simp only at g;cases A:z.val l3 with
       |none=>rw[A]at g;exact g.elim|some t=>
        rw [A]at g;cases t<;>try exact g.elim
        rename_i R j;obtain⟨⟨_,rfl⟩,k1,k2,k3⟩:=g;exact⟨l,i,G,j,R,rfl,E,rfl,k1,k2,k3⟩
    obtain ⟨l,i,G,j,R,m1,m2,m3,m4,m5,m6⟩:=I;obtain⟨n1,fs',n2,n3⟩:=tR C h4 ε m1 m2;refine⟨e',Q,?_⟩;simp only[PR.wp,f1,f2,f3,AF.wp,AB.put,AH.x5,n1,n2,A0,δ _ m3,AH.ev,EV.x6];refine⟨⟨trivial,trivial⟩,m4,by rw[n3];exact m5,_,.refl _,?_⟩;have L:∀(o:AH),d∉o.sl->o.ev ((d,.lp l i (j.toNat*m))::e')=o.ev e':=by
     intro o ho;cases o with
     |c t=>rfl|s t=>
      simp only[AH.ev,AB.d7];rw[ae];intro e;exact ho (by simp[AH.sl,e])
    simp only[PR.wp,e1,e2,e3,AF.wp,AB.put,L x Z,L v hdv,θ,hu];have M:AB.so ((d,.lp l i (j.toNat*m))::e') κ i0=Y (n,es):=by rw[AB.Aag H];exact C
    rw [M];refine⟨h1,h2,es',h3,h4,h5,JF m6 ?_⟩;refine Ow.symm (Ow.trans (bw (.refl _) H) ⟨λs=>?_,λs=>?_⟩)
    .simp[AB.d7,ε]
    .simp[AB.ek,B.2]
   .exact h.elim
  .exact h.elim
 .cases b
def dm{O env2:AB}{b:Nat}{o:Option AH}(h:∀y∈o.toList,y.val env2=y.val O):IP env2 b o=IP O b o:=by
 cases o with
 |none=>rfl|some y=>simp[IP];exact h y V
def zT{S:FuncId->Fq->BA->Prop}{p:AF}{xs:List AH}{O:AB}{d:Option Nat}{K:EV->AB->Prop}(C:p.vops=Y xs)(h:p.wp S O d K):
  ∃t,K (.tv t) O/\(∀x∈xs,∃u,x.val O=Y u)/\∀env2,(∀x∈xs,x.val env2=x.val O)->∀j:EV->AB->Prop,j (.tv t) env2->p.wp S env2 d j:=by
 cases p<;>simp[AF.vops]at C<;>first|cases C|skip
 case bin k op x y=>
  simp [AF.wp]at h;split at h
  .rename_i a b ha hb;cases B:NN k op a b with
   |none=>rw[B]at h;exact h.elim|some t=>
    rw [B]at h;refine⟨t,h,λz c=>?_,λenv2 he j g=>?_⟩
    .simp at c;rcases c with rfl|rfl
     .exact⟨a,ha⟩
     .exact⟨b,hb⟩
    .simp[AF.wp,he x V,he y V,ha,hb,B];exact g
  .exact h.elim
 case fdv x k=>
  simp [AF.wp]at h;split at h
  .rename_i row ha;refine⟨_,h,λz c=>?_,λenv2 he j g=>?_⟩
   .rw[z!]at c;subst c;exact⟨_,ha⟩
   .simp[AF.wp,he x V,ha];exact g
  .exact h.elim
 case ldv x k=>
  simp [AF.wp]at h;split at h
  .rename_i row ha;refine⟨_,h.2,λz c=>?_,λenv2 he j g=>?_⟩
   .rw[z!]at c;subst c;exact⟨_,ha⟩
   .simp[AF.wp,he x V,ha];exact⟨h.1,g⟩
  .exact h.elim
 case len x=>
  simp [AF.wp]at h;split at h
  .rename_i n es ha;refine⟨_,h,λz c=>?_,λenv2 he j g=>?_⟩
   .rw[z!.1 c];exact⟨_,ha⟩
   .simp[AF.wp,he x V,ha];exact g
  .exact h.elim
 case cvt k x=>
  simp [AF.wp]at h;split at h
  .rename_i H n ha;refine⟨_,h,λz c=>?_,λenv2 he j g=>?_⟩
   .rw[z!.1 c];exact⟨_,ha⟩
   .simp[AF.wp,he x V,ha];exact g
  .exact h.elim
 case mm b x y=>
  simp [AF.wp]at h;split at h
  .rename_i k a H a' ha hb;refine⟨_,h.2,λz c=>?_,λenv2 he j g=>?_⟩
   .simp at c;rcases c with rfl|rfl
    .exact⟨_,ha⟩
    .exact⟨_,hb⟩
   .simp[AF.wp,he x V,he y V,ha,hb];exact⟨h.1,g⟩
  .exact h.elim
 case slc n x lo hi=>
  simp [AF.wp]at h;split at h
  .rename_i m es ha;split at h
   .rename_i E l F r G hr;refine⟨_,h.2.2,λz c=>?_,λenv2 he j g=>?_⟩
    .simp at c;rcases c with rfl|c|c
     .exact⟨_,ha⟩
     .cases c;exact⟨_,G⟩
     .cases c;exact⟨_,hr⟩
    .have E:IP env2 0 lo=IP O 0 lo:=dm (λy A=>he y (by simp at A|-;exact .inr (.inl A)));have F:IP env2 es.length hi=IP O es.length hi:=dm (λy A=>he y (by simp at A|-;exact .inr (.inr A)));simp[AF.wp,he x V,ha,E,F,G,hr];exact⟨h.1,h.2.1,g⟩
   .exact h.elim
  .exact h.elim
theorem zL{p q:PR}{O:AB}(b:Aa6 D p q=X)(h:F6 (AV P) K (p::q::rs) O):F6 (AV P) K (q::p::rs) O:=by
 unfold Aa6 at b;split at b
 .rename_i xs d n x v e1 e2 κ ζ δ Z;simp[bne_iff_ne,C!,decide_eq_false_iff_not]at b;obtain⟨⟨⟨_,hdx⟩,L⟩,M⟩:=b;obtain⟨e',Q,h⟩:=h;unfold PR.wp at h;rw[e2,κ]at h;simp[AB.put]at h;obtain⟨t,⟨y,A,hw⟩,hs,R⟩:=zT e1 h;obtain⟨s,off,cs,cs',o,h1,θ,ε,hK,h5⟩:=Ve ζ δ Z hw;have gy:∀z,d≠z->y.get z=e'.get z:=λz E=>by rw[A.1,AB.d7,ae E]
  have j:d≠s:=λe=>by
   rw [A.1,AB.d7,ac e]at θ;cases θ
  have hp:(AH.s x).place e'=Y (s,off):=by
   grind [AH.place]
  have hb:e'.get s=.bx cs:=by rw[<-gy s j];exact θ
  have hv:v.ev e'=v.ev y:=by
   cases v with
   |c t=>rfl|s C=>
    grind [AH.ev,AH.sl]
  have hq:∀B:AB->Prop,B (P3 s cs' o e')->q.wp (AV P) e' B:=λB F=>h5 e' hp hb hv B F;refine⟨e',Q,hq _ ⟨_,.refl _,?_⟩⟩;unfold PR.wp;rw[e2,κ];simp[AB.put];refine R _ (λz E=>?_) _ (JF hK ?_)
  .cases z with
   |c t=>rfl|s m=>
    obtain ⟨u,hu⟩:=hs _ E;have G:¬s=m:=λe=>by
     grind [AH.val,AH.ev,EV.val]
    simp [AH.val,AH.ev,F5,ae G];cases o with
    |none=>rfl|some g=>
     have H:¬g.1=m:=λe=>BC M (x:=m) (B_.2 ⟨_,E,f_⟩) (by rw[(ε g.1 g.2 rfl).1,e];simp[AH.sl]);simp[ae H]
  .refine⟨λz=>?_,λz=>?_⟩
   .rw[AB.d7,F5,F5];by_cases I:s=z
    .subst I;rw[ac rfl,ae j,ac rfl]
    .rw[ae I,ae I];cases o with
     |none=>
      simp only;rw[A.1,AB.d7]
     |some g=>
      have J:¬d=g.1:=λe=>L (by rw[(ε g.1 g.2 rfl).1,e];simp[AH.sl]);simp only;by_cases l:g.1=z
      .rw[ac l,ac l,ae (λe=>J (e.trans l.symm))]
      .rw[ae l,ae l,A.1,AB.d7]
   .have η:∀C e,o=Y (C,e)->e.noR z=X:=λC e he=>by
     obtain ⟨_,⟨t,rfl⟩,_⟩:=ε C e he;rfl
    rw [AB.ek,Gn _ _ _ _ _ η,Gn _ _ _ _ _ η,A.2,AB.ek]
 .cases b
theorem zH{p q:PR}{O:AB}(hj:JD D O)(g:Aba D p q=X)(h:F6 (AV P) K (p::q::rs) O):F6 (AV P) K (q::p::rs) O:=by
 unfold Aba at g;split at g
 .rename_i b m d n x v e1 e2 θ δ Z f3;simp[bne_iff_ne,C!,decide_eq_false_iff_not,qo]at g;obtain⟨⟨⟨⟨⟨⟨_,bD⟩,hbx⟩,hdx⟩,hdb⟩,Q⟩,ε⟩:=g;obtain⟨e',H,h⟩:=h;have hj':=hj.congr H.symm;unfold PR.wp at h;rw[e1,e2,θ]at h;simp[AB.put,AF.wp]at h;split at h
  case h_2=>exact h.elim
  rename_i bs hbs;obtain⟨M,y,B,hw⟩:=h;obtain⟨s,off,cs,cs',o,h1,j,E,J,h5⟩:=Ve δ Z f3 hw;have gy:∀z,d≠z->y.get z=e'.get z:=λz η=>by rw[B.1,AB.d7,ae η]
  have u:d≠s:=λe=>by
   rw [B.1,AB.d7,ac e]at j;cases j
  have I:(AH.s x).place e'=Y (s,off):=by
   grind [AH.place]
  have hsb:¬s=b:=by
   intro e;subst e;simp[AH.place]at I;split at I
   next r off' hx=>simp at I;exact hj'.no (x:=x) (s:=s) (by rw[hx,<-I.1];rfl) bD
   .grind
   .cases I
  have hb:e'.get s=.bx cs:=by rw[<-gy s u];exact j
  have hv:v.ev e'=v.ev y:=by
   cases v with
   |c t=>rfl|s G=>
    grind [AH.ev,AH.sl]
  have hq:∀F:AB->Prop,F (P3 s cs' o e')->q.wp (AV P) e' F:=λF ζ=>h5 e' I hb hv F ζ;refine⟨e',H,hq _ ⟨_,.refl _,?_⟩⟩;have hg:(P3 s cs' o e').get b=.bx bs:=by
   grind [F5,AH.sl]
  unfold PR.wp;rw[e1,e2,θ];simp[AB.put,AF.wp,hg];refine⟨M,JF J ?_⟩;refine⟨λz=>?_,λz=>?_⟩
  .rw[AB.d7,F5,F5];by_cases C:s=z
   .subst C;rw[ac rfl,ae u,ac rfl]
   .rw[ae C,ae C];cases o with
    |none=>
     simp only;rw[B.1,AB.d7]
    |some l=>
     have L:¬d=l.1:=λe=>Q r!;simp only;by_cases A:l.1=z
     .rw[ac A,ac A,ae (λe=>L (e.trans A.symm))]
     .rw[ae A,ae A,B.1,AB.d7]
  .have M:∀G e,o=Y (G,e)->e.noR z=X:=λG e he=>by
    obtain ⟨_,⟨t,rfl⟩,_⟩:=E G e he;rfl
   rw [AB.ek,Gn _ _ _ _ _ M,Gn _ _ _ _ _ M,B.2,AB.ek]
 .rename_i b k d n x v e1 e2 θ δ Z f3;simp[bne_iff_ne,C!,decide_eq_false_iff_not,qo]at g;obtain⟨⟨⟨_,hdx⟩,Q⟩,ε⟩:=g;obtain⟨e',H,h⟩:=h;unfold PR.wp at h;rw[e1,e2,θ]at h;obtain⟨κ,hn0,R,y,B,hw⟩:∃κ,(∀c,κ≠.bx c)/\(∀e2:AB,e2.get b=e'.get b\/(∃c c',e'.get b=.bx c/\e2.get b=.bx c')->∀F:EV->AB->Prop,F κ e2->(AF.bad b k).wp (AV P) e2 (Y d) F)/\F6 (AV P) K (q::rs) ((d,κ)::e'):=by
   simp only[AB.put,AF.wp]at h;split at h
   .rename_i hb;refine⟨_,V,λe2 j F J=>?_,h⟩;obtain⟨c',E⟩:∃c',e2.get b=.bx c':=by
     rcases j with j|⟨_,c',_,j⟩
     .exact⟨_,j.trans hb⟩
     .exact⟨c',j⟩
    simp only[AF.wp,E];exact J
   .rename_i hb;refine⟨_,V,λe2 j F J=>?_,h⟩;have E:e2.get b=e'.get b:=j.resolve_right λ⟨c,c',h4,_⟩=>by rw[hb]at h4;cases h4
    simp only[AF.wp,E,hb];exact J
   .exact h.elim
  obtain ⟨s,off,cs,cs',o,h1,j,E,J,h5⟩:=Ve δ Z f3 hw;have gy:∀z,d≠z->y.get z=e'.get z:=λz η=>by rw[B.1,AB.d7,ae η]
  have u:d≠s:=λe=>by
   rw [B.1,AB.d7,ac e]at j;exact hn0 _ j
  have I:(AH.s x).place e'=Y (s,off):=by
   grind [AH.place]
  have hb:e'.get s=.bx cs:=by rw[<-gy s u];exact j
  have hv:v.ev e'=v.ev y:=by
   cases v with
   |c t=>rfl|s G=>
    grind [AH.ev,AH.sl]
  refine ⟨e',H,h5 e' I hb hv _ ⟨_,.refl _,?_⟩⟩;unfold PR.wp;rw[e1,e2,θ];refine R _ ?_ _ (JF J ?_)
  .rw[F5];by_cases C:s=b
   .subst C;exact .inr ⟨cs,cs',hb,by rw[ac rfl]⟩
   .rw[ae C];cases o with
    |none=>exact .inl rfl|some l=>
     have:¬l.1=b:=λe=>ε r!;simp only;rw[ae this];exact .inl rfl
  refine ⟨λz=>?_,λz=>?_⟩
  .simp only[AB.put];rw[AB.d7,F5,F5];by_cases C:s=z
   .subst C;rw[ac rfl,ae u,ac rfl]
   .rw[ae C,ae C];cases o with
    |none=>
     simp only;rw[B.1,AB.d7]
    |some l=>
     have L:¬d=l.1:=λe=>Q r!;simp only;by_cases A:l.1=z
     .rw[ac A,ac A,ae (λe=>L (e.trans A.symm))]
     .rw[ae A,ae A,B.1,AB.d7]
  .have M:∀G e,o=Y (G,e)->e.noR z=X:=λG e he=>by
    obtain ⟨_,⟨t,rfl⟩,_⟩:=E G e he;rfl
   simp only[AB.put];rw[AB.ek,Gn _ _ _ _ _ M,Gn _ _ _ _ _ M,B.2,AB.ek]
 .cases g
def nF{oq:Oper}(C:N2 P N ops oq q=X){c:List PR}:∀(b:List PR),(∀p∈b,AaT D p q=X/\∃o,N2 P N ops o p=X)->∀{O:AB},Nw F0 w0 N O->JD D O->F6 (AV P) K (b++q::c) O->F6 (AV P) K (q::(b++c)) O
 |[],_,O,_,_,h=>h|p::b,j,O,H,I,h=>by
  obtain ⟨g,o,ho⟩:=j p V;obtain⟨e',l,h⟩:=h;obtain⟨l3,G,z,A,u⟩:=head ho (iP g) (H.congr l.symm) (I.congr l.symm) h;have F:=nF C b (λp E=>j p (by simp[E])) z A G;have B:F6 (AV P) K (p::q::(b++c)) O:=⟨e',l,u _ F⟩;simp[AaT]at g
  grind [swap,wN,zD,zK,zO,zC,zN,zL,zH,zF,zE,zQ,zJ,zI]
variable{x:AH}
def ABD{S:FuncId->Fq->BA->Prop}{d:Option Nat}{O:AB}{K:EV->AB->Prop}(h:(AF.st n x v).wp S O d K):(AF.st n x v).wp S O d λe env'=>K e env'/\e=.undef/\∀c,env'.gt c=O.gt c:=by
 simp [AF.wp]at h|-;split at h
 .rename_i s off b;split at h
  .rename_i cs g;split at h
   .grind[AB.ek,EV.noR,EV.x6]
   .grind[AB.ek,EV.noR,EV.x6]
   .exact h.elim
  .exact h.elim
 .exact h.elim
def xd{S:FuncId->Fq->BA->Prop}{d:Option Nat}{O:AB}{K:EV->AB->Prop}(h:(AF.stb n s v).wp S O d K):(AF.stb n s v).wp S O d λe env'=>K e env'/\e=.undef/\∀c,env'.gt c=O.gt c:=by
 simp [AF.wp]at h|-;split at h
 .rename_i cs b;split at h
  .grind[AB.ek,EV.noR,EV.x6]
  .grind[AB.ek,EV.noR,EV.x6]
  .exact h.elim
 .exact h.elim
theorem Yr(O:AB)(q:Nat)(i:Option Nat)(n:Nat)(es:Fq)(c:Nat):AB.gt c (O.Aad q i n es)=AB.gt c O:=by
 cases i with
 |none=>simp[AB.Aad,AB.ek,EV.noR,EV.x6]|some k=>
  grind [AB.Aad,AB.ek,EV.noR,EV.x6]
def xa{S:FuncId->Fq->BA->Prop}{q:Nat}{d:Option Nat}{O:AB}{K:EV->AB->Prop}(h:(AF.cpt x q).wp S O d K):(AF.cpt x q).wp S O d λe env'=>K e env'/\e=.undef/\∀c,env'.gt c=O.gt c:=by
 simp [AF.wp]at h|-;split at h
 .grind[AB.ek,EV.noR,EV.x6]
 .grind[AB.ek,EV.noR,EV.x6]
 .exact h.elim
variable{k:Nat}
def xh{S:FuncId->Fq->BA->Prop}{d:Option Nat}{O:AB}{K:EV->AB->Prop}(h:(AF.xst x v k).wp S O d K):(AF.xst x v k).wp S O d λe env'=>K e env'/\e=.undef/\∀c,env'.gt c=O.gt c:=by
 simp [AF.wp]at h|-;split at h
 .grind[Yr]
 .exact h.elim
theorem lW(O:AB)(q i:Nat)(es:Fq)(c:Nat):AB.gt c (O.AbL q i es)=AB.gt c O:=by grind[AB.AbL,AB.ek,EV.noR,EV.x6]
def xc{S:FuncId->Fq->BA->Prop}{d:Option Nat}{O:AB}{K:EV->AB->Prop}(h:(AF.nst x v).wp S O d K):(AF.nst x v).wp S O d λe env'=>K e env'/\e=.undef/\∀c,env'.gt c=O.gt c:=by
 simp [AF.wp]at h|-
 grind [lW]
def xf{S:FuncId->Fq->BA->Prop}{b:List (Option AS)}{d:Option Nat}{O:AB}{K:EV->AB->Prop}(h:(AF.stq n b x v).wp S O d K):(AF.stq n b x v).wp S O d λe env'=>K e env'/\e=.undef/\∀c,env'.gt c=O.gt c:=by
 simp [AF.wp]at h|-;split at h
 .rename_i s off t g hv;split at h
  .rename_i cs j;cases hb:E2 b t.cells with
   |none=>rw[hb]at h;exact h.elim|some ds=>
    grind [AB.ek,EV.noR,EV.x6]
  .exact h.elim
 .exact h.elim
def xb{S:FuncId->Fq->BA->Prop}{m x v:AH}{d:Option Nat}{O:AB}{K:EV->AB->Prop}(h:(AF.mup s m x v).wp S O d K):(AF.mup s m x v).wp S O d λe env'=>K e env'/\e=.undef/\∀c,env'.gt c=O.gt c:=by
 simp [AF.wp]at h|-;split at h
 .rename_i b g j t l u z;split at h
  .grind[AB.ek,EV.noR,EV.x6]
  .exact h.elim
 .exact h.elim
def xg{S:FuncId->Fq->BA->Prop}{n s q:Nat}{d:Option Nat}{O:AB}{K:EV->AB->Prop}(h:(AF.stx n s q).wp S O d K):(AF.stx n s q).wp S O d λe env'=>K e env'/\e=.undef/\∀c,env'.gt c=O.gt c:=by
 simp [AF.wp]at h|-
 grind [AB.ek,EV.noR,EV.x6]
def rC{S:FuncId->Fq->BA->Prop}{f:FuncId}{ys:List AH}{d:Option Nat}{O:AB}{K:EV->AB->Prop}(h:(AF.AaB f x ys).wp S O d K):(AF.AaB f x ys).wp S O d λe env'=>K e env'/\e.x6=W/\∀c,env'.gt c=O.gt c:=by
 simp only[AF.wp]at h|-;cases b:x.x5 O with
 |none=>rw[b]at h;exact h.elim|some p=>
  cases hv:vals O ys with
  |none=>rw[b,hv]at h;exact h.2.elim|some C=>
   rw [b,hv]at h;obtain⟨l,zs,g,u,z,A,B⟩:=h;refine⟨l,zs,g,u,z,A,λj=>⟨B j,?_,λc=>Yr _ _ _ _ _ c⟩⟩;unfold EV.ofs;split<;>rfl
variable{r:PR}
def uw{S:FuncId->Fq->BA->Prop}{O:AB}{K:AB->Prop}(Q:fK D r=X)(hd:O2 r.op=X->r.dst=W)(l:JD D O)(h:r.wp S O K):r.wp S O λenv'=>K env'/\JD D env':=by
 simp [fK,C!]at Q;rcases Q with(((((E|L)|A)|Z)|hca)|M)|⟨⟨⟨hm,u⟩,R⟩,hb⟩
 rotate_right 2
 .unfold okCm at M;split at M
  .rename_i f x ys d e1 e2;have put:∀e:EV,e.x6=W->∀env':AB,(∀c,env'.gt c=O.gt c)->JD D (env'.put r.dst e):=λe he env' κ c hc=>by
    rw [e2];show AB.gt c ((d,e)::env')=X;rw[AB.ek,κ,l c hc];simp[EV.noR,he]
   have C:(r.op.wp S O r.dst λe env'=>K (env'.put r.dst e))->r.op.wp S O r.dst λe env'=>K (env'.put r.dst e)/\JD D (env'.put r.dst e):=λB=>by
    rw [e1]at B|-;exact AF.ls S O _ (λe env' he=>⟨he.1,put e he.2.1 env' he.2.2⟩) _ (rC B)
   unfold PR.wp at h|-;split
   next R=>rw[R]at h;exact C h
   .rename_i g b R;rw[R]at h;simp only at h;split
    next q A=>rw[A]at h;exact⟨λhb=>C (h.1 hb),λhb=>⟨h.2 hb,put .sk rfl O λ_=>rfl⟩⟩
    next G=>rw[G]at h;exact⟨h,put .sk rfl O λ_=>rfl⟩
    .rename_i H I;split at h
     next q A=>exact absurd A (H q)
     next A=>exact absurd A I
     .exact h.elim
  .cases M
 rotate_right
 .exact PR.ls _ _ (λenv' he=>⟨he.1,λx F=>by rw[he.2];exact l x F⟩) r (rH hca h)
 rotate_left 4
 .obtain⟨l3,k1,k2,k3⟩:=fL Z h;exact k3 _ ⟨k1,λx F=>by rw[k2];exact l x F⟩
 rotate_left 1
 .have u:=hd E;have C:(r.op.wp S O r.dst λe env'=>K (env'.put r.dst e))->r.op.wp S O r.dst λe env'=>K (env'.put r.dst e)/\JD D (env'.put r.dst e):=by
   intro B;rw[u]at B|-;generalize r.op=p at E B|-;cases p<;>simp[O2]at E<;>first|cases E|skip
   .refine AF.ls S O W (λe env' he=>⟨he.1,λd hd=>?_⟩) _ (ABD B);simp[AB.put];rw[he.2.2];exact l d hd
   .refine AF.ls S O W (λe env' he=>⟨he.1,λd hd=>?_⟩) _ (xd B);simp[AB.put];rw[he.2.2];exact l d hd
   .refine AF.ls S O W (λe env' he=>⟨he.1,λd hd=>?_⟩) _ (xh B);simp[AB.put];rw[he.2.2];exact l d hd
   .refine AF.ls S O W (λe env' he=>⟨he.1,λd hd=>?_⟩) _ (xg B);simp[AB.put];rw[he.2.2];exact l d hd
   .refine AF.ls S O W (λe env' he=>⟨he.1,λd hd=>?_⟩) _ (xa B);simp[AB.put];rw[he.2.2];exact l d hd
   .refine AF.ls S O W (λe env' he=>⟨he.1,λd hd=>?_⟩) _ (xc B);simp[AB.put];rw[he.2.2];exact l d hd
   .refine AF.ls S O W (λe env' he=>⟨he.1,λd hd=>?_⟩) _ (xf B);simp[AB.put];rw[he.2.2];exact l d hd
   .refine AF.ls S O W (λe env' he=>⟨he.1,λd hd=>?_⟩) _ (xb B);simp[AB.put];rw[he.2.2];exact l d hd
  unfold PR.wp at h|-;split
  .grind
  .rename_i g b hr;rw[hr]at h;simp only at h;split
   next q A=>rw[A]at h;exact⟨λhb=>C (h.1 hb),λhb=>⟨h.2 hb,by rw[u];exact l⟩⟩
   next G=>rw[G]at h;exact⟨h,by rw[u];exact l⟩
   .rename_i H I;split at h
    next q A=>exact absurd A (H q)
    next A=>exact absurd A I
    .exact h.elim
 .unfold AbH at L;split at L
  next gs d e1 e2 J=>obtain⟨ts,ε,ζ,δ⟩:=XO e1 e2 J h;refine UH e1 e2 J ε ζ ⟨δ,λx F=>?_⟩;rw[AB.ek,NV,l x F];rfl
  .cases L
 .unfold okQ at A;split at A
  next s d e1 e2 J=>obtain⟨n,es,ε,h2,ζ,δ⟩:=kP e1 e2 J h;refine kQ e1 e2 J ε h2 ζ ⟨δ,λx F=>?_⟩;have:=l x F;simp[AB.ek,EV.noR,EV.x6,this]
  .rename_i n s z x d e1 e2 J;simp[PR.wp,e1,e2,J,AF.wp,AB.put]at h|-;split at h
   next d' m es kk j θ hs F=>simp at θ;subst θ;refine⟨h.1,h.2.1,h.2.2.1,h.2.2.2,λy hy=>?_⟩;have:=l y hy;simp[AB.ek,EV.noR,EV.x6,this]
   .exact h.elim
  .cases A
 .obtain⟨d,hd⟩:=D!.1 u;have η:r.op.r0=X->r.guard=W:=λκ=>by
   rcases R with h|h
   .rw[κ]at h;cases h
   .simpa using h
  refine PR.ls S O (λenv' he=>?_) r (Q2 hd hm η h);obtain⟨ε,e,f,hF⟩:=he;exact⟨ε,hF.jd hb l⟩
variable{a:Act}{w:World}
def qt{S:FuncId->Fq->BA->Prop}:∀{O:AB},Ug rs=X->F6 S K rs O->CE F0 w0 O a w->∃env',K env'/\CE F0 w0 env' a w:=by
 induction rs with
 |nil=>intro O _ h b;obtain⟨e,g,j⟩:=h;exact⟨e,j,b.congr λn=>(g.1 n).symm⟩
 |cons r rs A=>
  intro O c h b;simp[Ug]at c;obtain⟨g,j⟩:=c;obtain⟨e',l,h⟩:=h;have b:=b.congr (λn=>(l.1 n).symm);split at g
  .rename_i s e1 e2 u;simp[PR.wp,e1,e2,u,AF.wp]at h;split at h
   next cs z=>obtain⟨G,b⟩:=b;exact A j h (b.frz z)
   .exact h.elim
  .cases g
def Uh:∀(os:List Oper)(rs:List PR),N8 P N ops os rs=X->(∀i o,os[i]?=Y o->N2 P N ops o (Pb rs i)=X)/\Ug (rs.drop os.length)=X/\rs=(A? os.length).map (Pb rs)++rs.drop os.length
 |[],rs,h=>⟨λi o h=>by simp at h,h,V⟩|o::os,[],h=>by simp[N8]at h|o::os,r::rs,h=>by
  simp [N8]at h;obtain⟨c,g,j⟩:=Uh os rs h.2;refine⟨λi b hi=>?_,v6,?_⟩
  .cases i with
   |zero=>simp[List.getElem?_cons_zero]at hi;subst hi;exact h.1|succ i=>simp[List.getElem?_cons_succ]at hi;exact c i b hi
  .rw[cE,List.range_succ_eq_map,A_,x!,A',List.drop_succ_cons];congr 1
def nN{Q:Exit->Act->World->Prop}(hok:Vu P N D ops rs=X)(hpd:∀i v,p=Y (i,v)->∀r∈rs,r.dst≠Y i)(hQ:∀O a w,K O->Mb N p a->CE F0 w0 O a w->Q .normal a w):
  ∀(fuel:Nat)(rem:QQ)(b:Array Bool)(O:AB)(a:Act)(w:World),rem.length=fuel->rem.Pairwise (·<·)->(∀j,j∈rem↔j<ops.size/\b.getD j X=T)->b.size=ops.size ->
   (∀k o,ops[k]?=Y o->b.getD k T=X->∀e∈o.after,Region.binds .any e=X->b.getD e.on T=X) ->
   Mb N p a->CE F0 w0 O a w->JD D O->F6 (AV P) K (rem.map (Pb rs)++rs.drop ops.size) O->wpAny P .any ops Q fuel b a w:=by
 simp only[Vu,mo,y?,B']at hok;obtain⟨⟨⟨⟨hl,hs⟩,he⟩,hM⟩,hP⟩:=hok;obtain⟨G,hl2,hl3⟩:=Uh ops.toList rs hl;simp[Array.getElem?_toList]at G hl2 hl3;intro fuel
 induction fuel with
 |zero=>
  intro rem b O a w z θ c hsz ε hN hI R h;have:rem=[]:=List.eq_nil_of_length_eq_zero z;subst this;refine⟨?_,?_⟩
  .refine List.eq_nil_iff_forall_not_mem.2 λj J=>?_;rw[mem_ready]at J;obtain⟨I,o,ho,_⟩:=J;have:=(c j).2 ⟨(E_.1 ho).1,I⟩;cases this
  .obtain⟨env',I,u⟩:=qt hl2 h hI;exact hQ env' a w I hN u
 |succ fuel ih=>
  intro rem b O a w z θ c hsz ε hN hI R h;refine⟨λhnil=>?_,λi hi=>?_⟩
  ·
   exfalso;cases rem with
   |nil=>simp at z|cons i rem=>
    have I:=(c i).1 V;have l:i∈Region.ready .any ops b:=by
     rw [mem_ready];have ho:ops[i]?=Y ops[i]:=E' I.1;refine⟨I.2,_,ho,λe B hb=>?_⟩;have:=he i I.1;rw[ho]at this;simp only[y?,D_,C!,qo]at this;have hlt:=(this e o_).resolve_left (by simp[hb]);cases F:b.getD e.on T with
     |true=>rfl|false=>
      have κ:e.on∈i::rem:=by
       refine (c _).2 ⟨U,?_⟩;have:e.on<b.size:=U
       simp [E!,E' this]at F|-;exact F
      rcases B!.1 κ with u|u
      .omega
      .have:=(B?.1 θ).1 _ u;omega
    rw [hnil]at l;cases l
  .have hi':=hi;rw[mem_ready]at hi';obtain⟨hi1,o,ho,hi2⟩:=hi';have l:i<ops.size:=(E_.1 ho).1;have hir:i∈rem:=(c i).2 ⟨l,hi1⟩;obtain⟨H,A,rfl⟩:=List.append_of_mem hir;have g:=C_.1 θ;have L:∀j∈H,j<i:=λj R=>g.2.2 j R i V;have ζ:∀j∈A,i<j:=λj R=>(B?.1 g.2.1).1 j R;have before:∀(k:Nat),k<ops.size->(∀o,ops[k]?=Y o->∀e∈o.after,Region.binds .any e=X->b.getD e.on T=X)->∀j,j<ops.size->((tu ops).getD k 0).testBit j=X->b.getD j T=X:=by
    intro k
    induction k using Nat.strongRecOn with
    |_ k ihk=>
     intro hk hdir j E hb;have:=hM k hk j E;rw[hb]at this;simp only[D',Bool.false_or]at this;split at this
     .rename_i ok hok';simp only[List.any_eq_true,mo,D_,beq_iff_eq,qo]at this;obtain⟨e,B,hbe,h3⟩:=this;have F:=hdir ok hok' e o_ hbe;rcases h3 with h3|⟨h3,h4⟩
      .rw[<-h3];exact F
      .exact ihk e.on h3 U (λM C e' he' hb'=>ε e.on M C F e' he' hb') j E h4
     .cases this
   have hwp:F6 (AV P) K (Pb rs i::(H.map (Pb rs)++(A.map (Pb rs)++rs.drop ops.size))) O:=by
    refine nF (ops:=ops) (F0:=F0) (w0:=w0) (N:=N) (oq:=o) (G i o ho) (H.map (Pb rs)) (λp hp=>?_) ⟨a,w,hN.size,hI⟩ R b?;obtain⟨j,hj1,rfl⟩:=List.mem_map.1 hp;have hlt:=L j hj1;have E:j<ops.size:=U
    refine ⟨?_,ops[j],G j _ (E' E)⟩;have:=hP i l j hlt;rw[D_]at this;refine this.resolve_left λhb=>?_;have I:=before i l (λM C=>by rw[ho]at C;simp at C;subst C;exact hi2) j E hb;have u:=((c j).1 (by simp[hj1])).2;have:j<b.size:=U
    simp [E!,E' this]at I u;rw[I]at u;cases u
   obtain ⟨e',heq,hw⟩:=hwp;have hI':=hI.congr (λn=>(heq.1 n).symm);have J:=R.congr heq.symm;have hstd:O2 (Pb rs i).op=X->(Pb rs i).dst=W:=by
    intro hst;have:=G i o ho;simp[N2]at this;have u:=this.2;split at u
    .simp only[hst,D',Bool.and_false,Bool.false_and]at u;cases u
    .assumption
    .cases u
   have hw':=uw (hs i l) hstd J hw;have δ:∀j,j∈H++A↔j<ops.size/\(b.setIfInBounds i X).getD j X=T:=by
    intro j;by_cases Z:j=i
    .subst Z;constructor
     .intro κ;rcases y_.1 κ with κ|κ
      .have:=L _ κ;omega
      .have:=ζ _ κ;omega
     .rintro⟨_,u⟩;have:j<b.size:=U
      simp [this]at u
    .rw[getD_set_ne X (λe=>Z e.symm),<-c j];simp[Z]
   have hcl':∀k M,ops[k]?=Y M->(b.setIfInBounds i X).getD k T=X->∀e∈M.after,Region.binds .any e=X->(b.setIfInBounds i X).getD e.on T=X:=by
    intro k M hk hlk e B hb;refine getD_set_true ?_;by_cases hki:k=i
    .subst hki;rw[ho]at hk;simp at hk;subst hk;exact hi2 e B hb
    .rw[getD_set_ne T (λe=>hki e.symm)]at hlk;exact ε k M hk hlk e B hb
   have hpdi:∀j v,p=Y (j,v)->(Pb rs i).dst≠Y j:=by
    intro j v hp;unfold Pb;cases hr:rs[i]? with
    |none=>simp|some r=>exact hpd j v hp r (List.mem_of_getElem? hr)
   have:=Xk (Q:=Q) (next:=wpAny P .any ops Q fuel (b.setIfInBounds i X)) hI' hN hpdi (G i o ho) hw' λenv' a' w' k1 k2 k3=>
    ih (H++A) _ env' a' w' (by simp at z|-;omega) (C_.2 ⟨g.1,(B?.1 g.2.1).2,λx hx y hy=>g.2.2 x hx y (by simp[hy])⟩) δ (by simpa using hsz) hcl' k2 k3 k1.2 (by simpa using k1.1)
   unfold Go.wpOp;rw[ho];simp;split
   next η=>rw[ac η]at this;exact .inl this
   next η=>rw[ae η]at this;exact this
def aD:∀(ds:QQ)(O:AB),Tg O ds=X->JD ds O
 |[],O,_=>λd hd=>by simp at hd|d::ds,O,h=>by
  simp [Tg]at h;intro x b;rcases B!.1 b with rfl|b
  .exact h.1
  .exact aD ds O h.2 x b
def NQ(J:P.follows .mixedOrders=X):Ma P N (Vu P N):=by
 intro F0 w0 p id ds ops rs g O a w K Q A C ζ c hd h δ;refine wp_region_any J ?_;have l:=A;simp[Vu]at l;obtain⟨_,_,H⟩:=Uh ops.toList rs l.1.1.1.1;simp at H;have E:CE F0 w0 O a {w with drawn:=w.drawn+1}:=by
  obtain ⟨G,c⟩:=c;refine⟨G,c.ln,c.lt,⟨c.below.os,c.below.tape,c.below.output,c.below.size,c.below.block,c.below.cell,c.below.free,c.below.tab⟩,c.defers,c.dom,λs L=>?_,c.wf⟩;exact AN.kept (w:=w) (w':={w with drawn:=w.drawn+1}) (F:=AW w0.heap.size F0 G) (G:=G) (O:=O) (a:=a) (λb o u M R=>⟨M,R⟩) (λ_=>rfl) (λ_ _ _ _=>rfl) rfl (λ_ _ _ _ _=>rfl) (λr i k hr θ=>⟨θ,λv hv=>by cases k<;>exact hv⟩) (λr off hr z=>⟨z,rfl⟩) (λr i hr z=>⟨z,λ_ hv=>hv⟩) (c.slots s L)
 refine nN (K:=λe=>K (e.fd g)) (F0:=F0) (w0:=w0) A C (λO a w ε κ η=>δ _ a w ε κ (η.fd g)) ops.size (A? ops.size) _ O a _ V List.pairwise_lt_range (λj=>?_) V (λk o Z B=>?_) ζ E (aD ds O hd) ?_
 .rw[B'];constructor
  .intro I;exact⟨I,by simp[E!,E?,I]⟩
  .exact λh=>h.1
 .simp[E!,E?]at B;split at B<;>simp at B
 grind [qB]
end
end Go.Sf
set_option maxRecDepth 100000
namespace Go.Sf
open Go
def cV:Value->TV
 |.int k n=>.int k n|.bool b=>.bool b|.string s=>.str s|.func (.func f) _ _=>.clo f []|_=>.undef
def oP:Operand->AH
 |.tmp n=>.s n|.const v=>.c (cV v)|.func f=>.c (.clo f [])|.global _=>.c .undef
def tP:Operand->Nat
 |.tmp n=>n|_=>0
def a0:List Operand->Operand
 |x::_=>x|[]=>.global 0
def a1:List Operand->Operand
 |_::x::_=>x|_=>.global 0
def Tq:List Operand->List AH
 |[]=>[]|x::r=>oP x::Tq r
def tw:List (Nat×Operand)->List AH
 |[]=>[]|x::r=>oP x.2::tw r
def xG:List (Nat×Nat)->List (Nat×Operand)->List (Nat×Nat×AH)
 |p::r,x::s=>(p.1,p.2,oP x.2)::xG r s|_,_=>[]
def oO:Option Operand->Option AH
 |none=>W|some x=>Y (oP x)
def tf(m n:Nat)(y:Operand):AF:=match m with
 |1=>.mv (oP y)|2=>.tk (tP y)|20=>.xal (tP y)|24=>.rel (tP y)|25=>.tkx (tP y)|64=>.Abu n|65=>.fad (oP y) n|66=>.bad (tP y) n|_=>.Abh n
def dLd(m n:Nat)(y:Operand):AF:=match m with
 |3=>.ld (oP y)|4=>.ldt (oP y)|23=>.xld (oP y)|29=>.lac (oP y)|30=>.ctk (oP y)|35=>.lan (oP y)|37=>.nld (oP y)|68=>.lda (oP y) n|88=>.ldb (tP y) n|89=>.ldv (oP y) n|_=>.ldg (tP y) n
def dSt(m n:Nat)(y u:Operand):AF:=match m with
 |31=>.cpt (oP y) (tP u)|38=>.nst (oP y) (oP u)|74=>.st n (oP y) (oP u)|75=>.stb n (tP y) (oP u)|77=>.xst (oP y) (oP u) n|_=>.stx n (tP y) (tP u)
def dIx(m n:Nat)(y j:Operand):AF:=match m with
 |36=>.nia (oP y) (oP j)|66=>.bad (tP y) n|67=>.iad (oP y) (oP j) n|_=>.xia (oP y) (oP j) n
def te(m n:Nat)(c:Callee)(l:List Operand):AF:=match c with
 |.value g=>(match m with
  |15=>.Abc (oP g) (Tq l)|_=>(match g with
   |.func f=>(match m with
    |14=>.call f (Tq l)|26=>.AaE f (Tq l)|27=>.Aa2 f (Tq l)|32=>.AaM f (Tq l)|39=>.Aaz f (Tq l)|40=>.Aa3 f (Tq l)|41=>.AaB f (oP (a0 l)) (Tq l.tail)|42=>.AaY f (oP (a0 l))|87=>.AaL f (Tq l) n|_=>.Aas f (Tq l) n)
   |_=>.mkm))
 |.builtin _=>(match m with
  |11=>.len (oP (a0 l))|12=>.AbG (oP (a0 l))|21=>.Abt (oP (a0 l))|33=>.AaJ (tP (a0 l)) (tP (a1 l))|72=>.app n (oP (a0 l)) (oP (a1 l))|44=>.mm X (oP (a0 l)) (oP (a1 l))|45=>.mm T (oP (a0 l)) (oP (a1 l))|_=>.Aa4 n (tP (a0 l)) (oP (a1 l)))
 |_=>.mkm
def xO(m:Nat)(op:BinOp)(p q:Operand):AF:=match m with
 |5=>.bin .i op (oP p) (oP q)|6=>.bin .s op (oP p) (oP q)|7=>.bin .b op (oP p) (oP q)|_=>.isn (oP p)
def dUn(m:Nat)(y:Operand):AF:=match m with
 |8=>.not (oP y)|_=>.neg (oP y)
structure iv where
 b:Nat->Fq×List (Nat×Nat)
 c:Nat->List AS
def xP(H:iv)(m n:Nat):Op->AF
 |.move y=>tf m n y|.assign y=>tf m n y|.nilCheck y=>tf m n y|.pick c a b=>.pick (oP c) (oP a) (oP b)|.alloc _=>.alc (H.c n)|.box _ y=>(match m with|19=>.Abn (oP y)|_=>.Abw (tP y))
 |.build _ q=>.bld (H.b n).1 (xG (H.b n).2 q.toList)|.buildSlice _ _ q=>(match m with
  |34=>(match tw q.toList with|[.s x]=>.Abm x|_=>.mkm)
  |86=>.Abk n|_=>.lst n (tw q.toList))
 |.load _ y=>dLd m n y|.store _ y u=>dSt m n y u|.binOp op _ p q _=>xO m op p q|.unOp _ _ y=>dUn m y|.makeFunc (.func g) _ xs=>.clo g (Tq xs.toList)|.slice _ y l h _=>(match m with
  |13=>.Aai (oP y) (oO l) (oO h)|69=>.slc n (oP y) (oO l) (oO h)|_=>(match h with|some h=>.cut n (tP y) (oP h)|none=>.mkm))
 |.fieldAddr _ y _=>(match m with
  |90=>.fdv (oP y) n|65=>.fad (oP y) n|66=>.bad (tP y) n|_=>.xfa (oP y) n)
 |.indexAddr _ y j=>dIx m n y j|.index _ y j=>.Aav (oP y) (oP j)|.extract y j=>.ext (oP y) j|.call c=>te m n c.callee c.args.toList|_=>.mkm
def k7:List Oper->Nat->Nat
 |[],_=>0|o::_,0=>(match o.dst with|some d=>d|none=>0)
 |_::r,j+1=>k7 r j
def dGd(all:List Oper):Option (Nat×Bool)->Option (Nat×Bool)
 |none=>W|some (j,b)=>Y (k7 all j,b)
structure DS where
 s:Nat
 l:QQ
 x:List AF
def qS(H:iv)(all:List Oper):List Oper->DS->List PR×DS
 |[],d=>(match d.s % 256 with
  |61=>([⟨W,.frz (d.s / 256 % 256),W⟩],⟨d.s / 65536,d.l,d.x⟩)|_=>([],d))
 |o::os,⟨s,l,x⟩=>
  match s / 128 % 2,(match o.dst with|some d=>d|none=>0)with
  |f,d0=>
  match (match s % 128 with
   |63=>(match x with|p::x=>(p,DS.mk (s / 256) (match f with|0=>l|_=>l++[d0]) x)|[]=>(AF.mkm,DS.mk 0 l x))
   |m=>(match m / 64 with
    |0=>(xP H m 0 o.op,DS.mk (s / 256) (match f with|0=>l|_=>l++[d0]) x)
    |_=>(xP H m (s / 256 % 256) o.op,DS.mk (s / 65536) (match f with|0=>l|_=>l++[d0]) x)))with
  |(p,d)=>match qS H all os d with
   |(rs,d')=>(⟨o.dst,p,dGd all o.guard⟩::rs,d')
def cv:Nat->Nat->QQ×Nat
 |0,s=>([],s)|n+1,s=>match cv n (s / 256)with|(r,s')=>(s % 256::r,s')
def UJ(d:DS):DS:=match d.s % 256 with
 |255=>⟨d.s / 256,d.l,d.x⟩|n=>match cv n (d.s / 256)with|(r,s)=>⟨s,r,d.x⟩
def eA:List Oper->QQ
 |[]=>[]|o::r=>(match o.dst with|some d=>d::eA r|none=>eA r)
def qT(H:iv)(ops:List Oper)(w:Bool)(d:DS):PC×DS:=match qS H ops ops d with
 |(rs,d)=>match(match d.s % 256 with|60=>UJ ⟨d.s / 256,d.l,d.x⟩|_=>d)with
  |d=>(match w with
   |true=>(match d.s % 256 with
    |59=>(match cv (d.s / 256 % 256) (d.s / 65536)with|(r,s)=>(PC.draw (r++eA ops) rs d.l,⟨s,d.l,d.x⟩))
    |_=>(PC.draw (eA ops) rs d.l,d))
   |false=>(PC.region rs d.l,d))
def dC(H:iv):Code->DS->PC×Bool×DS
 |.skip,d=>match UJ d with|d=>(.skip d.l,X,d)
 |.ret,d=>(.ret,T,d)|.exit i,d=>match UJ d with|d=>(.exit i d.l,T,d)
 |.seq a b,d=>match dC H a d with|(p,_,d)=>match dC H b d with|(q,t,d)=>(.seq p q,t,d)
 |.cond c a b,d=>match dC H a d with
  |(p,t,e)=>match dC H b ⟨e.s,d.l,e.x⟩with
   |(q,u,g)=>(.cond (oP c) p q,t||u,match u with|true=>g|false=>⟨g.s,e.l,g.x⟩)
 |.block i c,d=>match dC H c d with|(p,_,d)=>(.block i p,X,UJ d)
 |.loop c,d=>match UJ d with|d=>match dC H c d with|(p,_,e)=>(.loop d.l p,T,e)
 |.region _ ops w,d=>(match d.s % 256 with
  |62=>(match qT H ops.toList w ⟨d.s / 65536,d.l,d.x⟩with|(c,e)=>(PC.rls (d.s / 256 % 256) c,X,e))
  |_=>(match qT H ops.toList w d with|(c,e)=>(c,X,e)))
 |_,d=>(.bad,T,d)
def sy(θ:Nat):Nat->Nat->Nat->Nat
 |0,c,r=>r*256+c|n+1,c,r=>match θ / 65536^ c % 65536 with
  |0=>r*256+c|p=>sy θ n (p % 256) (sy θ n (p / 256) r)
def xp(θ:Nat):Nat->Nat->Nat
 |0,_=>0|n+1,s=>match s with
  |0=>0|s=>sy θ 40 (s % 256) (xp θ n (s / 256))
def xq(θ s:Nat):Nat:=xp θ 400 s
def PC.of(H:iv)(b:Option Code)(s:Nat)(x:List AF):PC:=match b with
 |some c=>(dC H c (UJ ⟨s,[],x⟩)).1|none=>.bad
end Go.Sf
