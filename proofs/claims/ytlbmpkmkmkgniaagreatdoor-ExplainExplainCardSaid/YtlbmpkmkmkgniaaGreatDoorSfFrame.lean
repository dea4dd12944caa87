/- What an operation leans on: the slots that it reads, whether or not they own their lists. -/
import Derived.Test.YtlbmpkmkmkgniaaGreatDoorSfCode
set_option linter.all false
namespace Go.Sf
theorem eD {cs a:List At} (h:a.map At.key=cs.map At.key):a.map (·.t)=cs.map (·.t):=by
 have:=congrArg (List.map Prod.fst) h;simpa [List.map_map,Function.comp_def,At.key] using this
def YK (p:TV × Bool):TV:=match p with
 | (.xl n es,true)=>.list n es
 | p=>p.1
theorem WW {cs a:List At} (h:a.map At.key=cs.map At.key):a.map At.lent=cs.map At.lent:=by
 have b:∀ c:At,c.lent=YK c.key:=by
  rintro ⟨_ | _,t⟩ <;> cases t <;> rfl
 have:=congrArg (List.map YK) h;simpa [List.map_map,Function.comp_def,←b] using this
def pk (p:TV × Bool):Option (Nat × QQ):=match p with
 | (.xl n es,true)=>some (n,es)
 | _=>none
theorem iy {cs a:List At} (h:a.map At.key=cs.map At.key) (k:Nat):(match a[k]? with
  | some ⟨true,.xl n es⟩=>some (n,es)
  | _=>none)=(match cs[k]? with
  | some ⟨true,.xl n es⟩=>some (n,es)
  | _=>none):=by
 have b:∀ o:Option At,(match o with
  | some ⟨true,.xl n es⟩=>some (n,es)
  | _=>none)=(o.map At.key).bind pk:=by
  rintro (_ | ⟨_ | _,t⟩)
  ·rfl
  ·cases t <;> rfl
  ·cases t <;> rfl
 rw [b,b];have:=congrArg (fun l=>l[k]?) h;simp only [List.getElem?_map] at this;rw [this]
def EV.like (e e2:EV):Prop:=
 e2=e∨(∃ n es,(e=.tv (.list n es)∧e2=.ow (.list n es))∨(e=.ow (.list n es)∧e2=.tv (.list n es)))∨∃ cs ds,e=.bx cs∧e2=.bx ds∧ds.map At.key=cs.map At.key
variable {e e2:EV}
theorem EV.like.symm (h:e.like e2):e2.like e:=by
 rcases h with rfl | ⟨n,es,⟨rfl,rfl⟩ | ⟨rfl,rfl⟩⟩ | ⟨cs,a,rfl,rfl,h⟩
 ·exact .inl rfl
 ·exact .inr (.inl ⟨n,es,.inr ⟨rfl,rfl⟩⟩)
 ·exact .inr (.inl ⟨n,es,.inl ⟨rfl,rfl⟩⟩)
 ·exact .inr (.inr ⟨a,cs,rfl,rfl,h.symm⟩)
theorem EV.like.ref (h:e.like e2):e2.ref=e.ref:=by
 rcases h with rfl | ⟨n,es,⟨rfl,rfl⟩ | ⟨rfl,rfl⟩⟩ | ⟨cs,a,rfl,rfl,h⟩ <;> rfl
variable {q:Nat}
theorem EV.like.of_ref (h:e.like e2) (a:e.ref=some q):e2=e:=by
 rcases h with rfl | ⟨n,es,⟨rfl,rfl⟩ | ⟨rfl,rfl⟩⟩ | ⟨cs,b,rfl,rfl,h⟩
 ·rfl
 ·cases a
 ·cases a
 ·cases a
theorem EV.like.xo (h:e.like e2) {n:Nat} {es:QQ} (a:e=.xo n es):e2=.xo n es:=by
 subst a;rcases h with rfl | ⟨n,es,⟨h,_⟩ | ⟨h,_⟩⟩ | ⟨cs,b,h,_⟩
 ·rfl
 ·cases h
 ·cases h
 ·cases h
theorem EV.like.val (h:e.like e2):e2.val=e.val:=by
 rcases h with rfl | ⟨n,es,⟨rfl,rfl⟩ | ⟨rfl,rfl⟩⟩ | ⟨cs,a,rfl,rfl,h⟩ <;> rfl
theorem EV.like.pt (h:e.like e2) {row:QQ} (a:e=.tv (.pt row)):e2=.tv (.pt row):=by
 subst a;rcases h with rfl | ⟨n,es,⟨h,rfl⟩ | ⟨h,rfl⟩⟩ | ⟨cs,b,h,rfl,c⟩
 ·rfl
 ·simp at h
 ·cases h
 ·cases h
theorem EV.like.bp (h:e.like e2) {q a:Nat} (b:e=.bp q a):e2=.bp q a:=by
 subst b;rcases h with rfl | ⟨n,es,⟨h,rfl⟩ | ⟨h,rfl⟩⟩ | ⟨cs,c,h,rfl,d⟩
 ·rfl
 ·cases h
 ·cases h
 ·cases h
theorem EV.like.tp (h:e.like e2) {a:QQ} (b:e=.tp a):e2=.tp a:=by
 subst b;rcases h with rfl | ⟨n,es,⟨h,rfl⟩ | ⟨h,rfl⟩⟩ | ⟨cs,c,h,rfl,d⟩
 ·rfl
 ·cases h
 ·cases h
 ·cases h
theorem EV.like.bx (h:e.like e2) {cs:List At} (b:e=.bx cs):∃ a,e2=.bx a∧a.map At.key=cs.map At.key:=by
 subst b;rcases h with rfl | ⟨n,es,⟨h,rfl⟩ | ⟨h,rfl⟩⟩ | ⟨cs',a,h,rfl,c⟩
 ·exact ⟨cs,rfl,rfl⟩
 ·cases h
 ·cases h
 ·simp only [EV.bx.injEq] at h; subst h; exact ⟨a,rfl,c⟩
def AL.sl:AL->ci
 | .s n=>[n]
 | .c _=>[]
def T5:Option AL->ci
 | some x=>x.sl
 | none=>[]
def JS:List AL->ci
 | []=>[]
 | x::xs=>x.sl++JS xs
def SY:List (Nat × Nat × AL)->ci
 | []=>[]
 | x::xs=>x.2.2.sl++SY xs
def AJ.slots:AJ->ci
 | .mv x=>x.sl
 | .tk s=>[s]
 | .nilo _=>[]
 | .fad x _=>x.sl
 | .bad s _=>[s]
 | .iad x i _=>x.sl++i.sl
 | .aad x i _ _=>x.sl++i.sl
 | .ld x=>x.sl
 | .lda x _=>x.sl
 | .ldb s _=>[s]
 | .ldt x=>x.sl
 | .bin _ _ x y=>x.sl++y.sl
 | .not x=>x.sl
 | .neg x=>x.sl
 | .pick c a b=>c.sl++(a.sl++b.sl)
 | .len x=>x.sl
 | .slen x=>x.sl
 | .slc _ x lo hi=>x.sl++(T5 lo++T5 hi)
 | .sslc x lo hi=>x.sl++(T5 lo++T5 hi)
 | .bld _ ps=>SY ps
 | .lst _ ps=>JS ps
 | .app _ x y=>x.sl++y.sl
 | .call _ xs=>JS xs
 | .callv x xs=>x.sl++JS xs
 | .clo _ xs=>JS xs
 | .ext x _=>x.sl
 | .cvt _ x=>x.sl
 | .sidx x i=>x.sl++i.sl
 | .boxs x=>x.sl
 | .boxo x=>x.sl
 | .mm _ x y=>x.sl++y.sl
 | .alc _=>[]
 | .st _ x v=>x.sl++v.sl
 | .stb _ s v=>s::v.sl
 | .frz s=>[s]
 | .fldv x _ _ _=>x.sl
 | .xal s=>[s]
 | .xlen x=>x.sl
 | .xia x i _=>x.sl++i.sl
 | .xfa x _=>x.sl
 | .xld x=>x.sl
 | .xst x v=>x.sl++v.sl
 | .rel s=>[s]
 | .nilx _=>[]
 | .lstz _=>[]
 | .tkx s=>[s]
 | .appx _ s y=>s::y.sl
 | .callx _ xs=>JS xs
 | .mkx _ _ x=>x.sl
 | .callm _ x=>x.sl
 | .callc _ x=>x.sl
 | .bldg gs=>gs.flatMap GC.sl
 | .stx _ s q=>[s,q]
 | .callg _ xs=>JS xs
 | .isn x=>x.sl
 | .lac x=>x.sl
 | .ctk x=>x.sl
 | .cpt x q=>x.sl++[q]
 | .cut _ s hi=>s::hi.sl
 | .calll _ xs=>JS xs
 | .boxp _ x=>x.sl
 | .appz _ s _ x=>s::x.sl
 | .callf _ xs=>JS xs
 | .callb _ xs _=>JS xs
def AJ.dem:AJ->ci
 | .tk s=>[s]
 | .app _ x _=>x.sl
 | _=>[]
def AJ.mov:AJ->Bool
 | .st ..=>false
 | .stb ..=>false
 | .frz _=>false
 | .xst ..=>false
 | .rel _=>false
 | .nilx _=>false
 | .lstz _=>false
 | .tkx _=>false
 | .appx ..=>false
 | .callm ..=>false
 | .callc ..=>false
 | .bldg _=>false
 | .stx ..=>false
 | .isn _=>false
 | .ctk _=>false
 | .cpt ..=>false
 | .cut ..=>false
 | .appz ..=>false
 | .callb ..=>false
 | _=>true
def AJ.isNew:AJ->Bool
 | .alc _=>true
 | .boxo _=>true
 | .boxp ..=>true
 | .callx ..=>true
 | .mkx ..=>true
 | _=>false
def AJ.bads:AJ->ci
 | .bad s _=>[s]
 | .xal s=>[s]
 | _=>[]
inductive CF where
 | none
 | slot (s:Nat) (t:TV)
 | cell (s off:Nat) (t:TV)
def CF.app:CF->AD->AD
 | .none,O=>O
 | .slot s t,O=>(s,.tv t)::O
 | .cell s off t,O=>match O.get s with
  | .bx cs=>(s,.bx (cs.set off ⟨false,t⟩))::O
  | _=>O
def CF.ok:CF->AD->Prop
 | .none,_=>True
 | .slot s t,O=>O.get s=.ow t
 | .cell s off t,O=>∃ cs,O.get s=.bx cs∧cs[off]?=some ⟨true,t⟩
structure GX (op:AJ) (f:CF) (dst:Option Nat) (O env2:AD):Prop where
 sl:∀ s∈op.slots,(O.get s).like (env2.get s)
 bp:∀ s∈op.slots,∀ q,(O.get s).ref=some q->(O.get q).like (env2.get q)
 dem:∀ s∈op.dem,(∀ cs,O.get s≠.bx cs)->env2.get s=O.get s
 eff:f.ok env2
 new:op.isNew=true->∀ d,dst=some d->O.noRef d=true->env2.noRef d=true
section
variable {op:AJ} {f:CF} {dst:Option Nat} {O env2:AD}
variable {x:AL}
theorem GX.val (h:GX op f dst O env2) (a:∀ s∈x.sl,s∈op.slots):x.val env2=x.val O:=by
 cases x with
 | c t=>rfl
 | s n=>exact (h.sl n (a n (by simp [AL.sl]))).val
theorem GX.ev (h:GX op f dst O env2) (a:∀ s∈x.sl,s∈op.slots):(x.ev O).like (x.ev env2):=by
 cases x with
 | c t=>exact .inl rfl
 | s n=>exact h.sl n (a n (by simp [AL.sl]))
theorem GX.vals (h:GX op f dst O env2):∀ {xs:List AL},(∀ s∈JS xs,s∈op.slots)->Go.Sf.vals env2 xs=Go.Sf.vals O xs
 | [],_=>rfl
 | x::xs,b=>by
  simp only [JS,List.mem_append] at b;simp only [Go.Sf.vals,h.val (x:=x) (fun s a=>b s (.inl a)),h.vals (xs:=xs) (fun s a=>b s (.inr a))]
theorem GX.parts (h:GX op f dst O env2):∀ {xs:List (Nat × Nat × AL)},(∀ s∈SY xs,s∈op.slots)->It env2 xs=It O xs
 | [],_=>rfl
 | (i,n,x)::xs,b=>by
  simp only [SY,List.mem_append] at b;simp only [It,h.val (x:=x) (fun s a=>b s (.inl a)),h.parts (xs:=xs) (fun s a=>b s (.inr a))]
theorem GX.bnd (h:GX op f dst O env2) {x:Option AL} {k:Int} (a:∀ s∈T5 x,s∈op.slots):HP env2 k x=HP O k x:=by
 cases x with
 | none=>rfl
 | some x=>exact h.val a
theorem GX.addr (h:GX op f dst O env2) (j:∀ s∈x.sl,s∈op.slots):BZ env2 (x.ev env2)=BZ O (x.ev O):=by
 cases x with
 | c t=>cases t <;> rfl
 | s n=>
  have g:=j n (by simp [AL.sl]);have a:=h.sl n g;have i:=h.bp n g;simp only [AL.ev];generalize O.get n=e at a i;generalize env2.get n=e2 at a;rcases a with rfl | ⟨n,es,⟨rfl,rfl⟩ | ⟨rfl,rfl⟩⟩ | ⟨cs,k,rfl,rfl,d⟩
  ·cases e2 with
   | bp q o=>
    have b:=i q rfl;simp only [BZ];generalize O.get q=e1 at b;generalize env2.get q=e2 at b;rcases b with rfl | ⟨n,es,⟨rfl,rfl⟩ | ⟨rfl,rfl⟩⟩ | ⟨cs,k,rfl,rfl,d⟩
    ·rfl
    ·rfl
    ·rfl
    ·simp only [List.map_drop,eD d]
   | tv t=>cases t <;> rfl
   | _=>rfl
  ·rfl
  ·rfl
  ·simp only [BZ,eD d]
theorem GX.place (h:GX op f dst O env2) (d:∀ s∈x.sl,s∈op.slots):x.place env2=x.place O:=by
 cases x with
 | c t=>rfl
 | s n=>
  have g:=h.sl n (d n (by simp [AL.sl]));simp only [AL.place];rcases g with a | ⟨n,es,⟨a,b⟩ | ⟨a,b⟩⟩ | ⟨cs,i,a,b,_⟩
  ·rw [a]
  ·rw [a,b]
  ·rw [a,b]
  ·rw [a,b]
variable {q:Nat}
theorem EV.like.xat {O env2:AD} (h:(O.get q).like (env2.get q)) (i:Option Nat):env2.xat q i=O.xat q i:=by
 rcases h with a | ⟨n,es,⟨a,b⟩ | ⟨a,b⟩⟩ | ⟨cs,d,a,b,c⟩
 ·exact AD.xat_of a
 ·cases i <;> simp only [AD.xat,a,b]
 ·cases i <;> simp only [AD.xat,a,b]
 ·cases i with
  | none=>simp only [AD.xat,a,b]
  | some k=>simp only [AD.xat,a,b]; exact iy c k
theorem GX.xlist (h:GX op f dst O env2) (g:∀ s∈x.sl,s∈op.slots):x.xlist env2=x.xlist O:=by
 cases x with
 | c t=>rfl
 | s n=>
  have d:=g n (by simp [AL.sl]);have j:=h.sl n d;have k:=h.bp n d;simp only [AL.xlist];rcases j with a | ⟨m,es,⟨a,b⟩ | ⟨a,b⟩⟩ | ⟨cs,p,a,b,_⟩
  ·rw [a];cases o:O.get n with
   | la q i=>simp only [(k q (by rw [o]; rfl)).xat i]
   | _=>rfl
  ·rw [a,b]
  ·rw [a,b]
  ·rw [a,b]
theorem GX.lval (h:GX op f dst O env2) (i:∀ s∈x.sl,s∈op.slots):x.lval env2=x.lval O:=by
 unfold AL.lval;rw [h.xlist i];cases x.xlist O with
 | some p=>rfl
 | none=>
  cases x with
  | c t=>cases t <;> rfl
  | s n=>
   have j:=i n (by simp [AL.sl]);have k:=h.sl n j;have o:=h.bp n j;simp only [AL.ev];rcases k with a | ⟨m,es,⟨a,d⟩ | ⟨a,d⟩⟩ | ⟨cs,v,a,d,w⟩
   ·rw [a];cases r:O.get n with
    | bp q z=>
     have u:=o q (by rw [r]; rfl);simp only;rcases u with b | ⟨m,es,⟨b,g⟩ | ⟨b,g⟩⟩ | ⟨cs,v,b,g,y⟩
     ·rw [b]
     ·rw [b,g]
     ·rw [b,g]
     ·rw [b,g];have:=WW y;simp only [List.map_drop,this]
    | _=>rfl
   ·rw [a,d]; rfl
   ·rw [a,d]; rfl
   ·rw [a,d];simp only [WW w]
theorem GX.lvals (h:GX op f dst O env2):∀ {xs:List AL},(∀ s∈JS xs,s∈op.slots)->Go.Sf.lvals env2 xs=Go.Sf.lvals O xs
 | [],_=>rfl
 | x::xs,b=>by
  simp only [JS,List.mem_append] at b;simp only [Go.Sf.lvals,h.lval (x:=x) (fun s a=>b s (.inl a)),h.lvals (xs:=xs) (fun s a=>b s (.inr a))]
end
structure Zy (S:FuncId->QQ->CS->Prop) (op:AJ) (dst:Option Nat) (O:AD) (e:EV) (env':AD) (f:CF):Prop where
 env':env'=f.app O
 ok:f.ok O
 slot:∀ s t,f=.slot s t->s∈op.dem
 cell:∀ s off t,f=.cell s off t->(s∈op.slots∨∃ x∈op.slots,(O.get x).ref=some s)
 ref:∀ s,e.ref=some s->(s∈op.bads∨∃ x∈op.slots,(O.get x).ref=some s)
 new:op.isNew=true->e.ref=none∧∀ d,dst=some d->O.noRef d=true
 xl:∀ s off t,f=.cell s off t->t.isXl=false
 again:∀ env2,GX op f dst O env2->∀ K2:EV->AD->Prop,K2 e (f.app env2)->op.wp S env2 dst K2
section
variable {S:FuncId->QQ->CS->Prop} {op:AJ} {dst:Option Nat} {O:AD} {K:EV->AD->Prop}
variable {e:EV}
theorem BO (c:K e O) (d:op.isNew=false) (g:e.ref=none) (h:∀ env2,GX op .none dst O env2->∀ a:EV->AD->Prop,a e env2->op.wp S env2 dst a):K e O∧∃ f,Zy S op dst O e O f:=
 ⟨c,.none,rfl,trivial,by simp,by simp,(fun s b=>by rw [g] at b; cases b),by simp [d],by simp,h⟩
variable {α:Type} {l m:List α}
theorem H9 {x:α} (h:x∈m):x∈l++m:=List.mem_append_right _ h
theorem IS {x:α} (h:x∈l):x∈l++m:=List.mem_append_left _ h
theorem frame (I:op.mov=true) (h:op.wp S O dst K):op.wp S O dst fun e env'=>K e env'∧∃ f,Zy S op dst O e env' f:=by
 cases op with
 | mv x=>
  simp only [AJ.wp] at h ⊢;have key:∀ t,(x.ev O).val=some t->∀ env2,GX (.mv x) .none dst O env2->∀ E:EV->AD->Prop,E (.tv t) env2->(AJ.mv x).wp S env2 dst E:=by
   intro t ht env2 w E u;have hv:=w.val (x:=x) (fun s h=>h);simp only [AL.val] at hv;rw [ht] at hv;simp only [AJ.wp];cases F:x.ev env2 <;> rw [F] at hv <;> simp [EV.val] at hv <;> subst hv <;> exact u
  split at h
  ·rename_i t A
   try simp only [A]
   exact BO h rfl rfl (key t (by rw [A]; rfl))
  ·rename_i t A
   try simp only [A]
   exact BO h rfl rfl (key t (by rw [A]; rfl))
  ·rename_i Q A
   try simp only [A]
   refine BO h rfl rfl fun env2 w E u=>?_;cases x with
   | c t=>simp [AL.ev] at A
   | s n=>
    simp only [AL.ev] at A;have B:env2.get n=.tp Q:=(w.sl n (by simp [AJ.slots,AL.sl])).tp A;simp only [AJ.wp,AL.ev,B];exact u
  ·exact h.elim
 | tk s=>
  simp only [AJ.wp] at h ⊢;split at h
  ·rename_i t G
   try simp only [G]
   refine ⟨h,.slot s t,rfl,G,?_,by simp,(fun s F=>by cases F),by simp [AJ.isNew],by simp,fun env2 w E u=>?_⟩
   ·intro s' t' F;simp only [CF.slot.injEq] at F;simp [AJ.dem,F.1]
   ·have:=w.eff;simp only [CF.ok] at this;simp only [AJ.wp,this];exact u
  ·rename_i t G
   try simp only [G]
   refine BO h rfl rfl fun env2 w E u=>?_;have:=w.dem s (by simp [AJ.dem]) (by simp [G]);simp only [AJ.wp,this,G];exact u
  ·exact h.elim
 | nilo n=>exact BO h rfl rfl fun env2 w E u=>u
 | fad x k=>
  simp only [AJ.wp] at h ⊢;split at h
  ·rename_i row A
   try simp only [A]
   refine BO h rfl rfl fun env2 w E u=>?_;have:=(w.ev (x:=x) (fun s h=>h)).pt A;simp only [AJ.wp,this];exact u
  ·rename_i s L A;split at h
   ·rename_i cs G
    try simp only [A,G]
    have J:∃ n∈x.sl,O.get n=.bp s L:=by
     cases x with
     | c t=>simp [AL.ev] at A
     | s n=>exact ⟨n,by simp [AL.sl],A⟩
    obtain ⟨n,V,P⟩:=J;refine ⟨h,.none,rfl,trivial,by simp,by simp,?_,by simp [AJ.isNew],by simp,fun env2 w E u=>?_⟩
    ·intro s' F;simp only [EV.ref,zzY] at F;subst F;exact .inr ⟨n,V,by rw [P]; rfl⟩
    ·have D:=(w.ev (x:=x) (fun s h=>h)).bp A;have B:=w.bp n V s (by rw [P]; rfl);rw [G] at B;obtain ⟨ds,H,_⟩:=B.bx rfl;simp only [AJ.wp,D,H];exact u
   ·exact h.elim
  ·exact h.elim
 | bad s k=>
  simp only [AJ.wp] at h ⊢;split at h
  ·rename_i cs G
   try simp only [G]
   refine ⟨h,.none,rfl,trivial,by simp,by simp,?_,by simp [AJ.isNew],by simp,fun env2 w E u=>?_⟩
   ·intro s' F;simp only [EV.ref,zzY] at F;exact .inl (by simp [AJ.bads,F])
   ·have B:=w.sl s (by simp [AJ.slots]);rw [G] at B;obtain ⟨ds,H,_⟩:=B.bx rfl;simp only [AJ.wp,H];exact u
  ·rename_i row G
   try simp only [G]
   refine BO h rfl rfl fun env2 w E u=>?_;have:=(w.sl s (by simp [AJ.slots])).pt G;simp only [AJ.wp,this];exact u
  ·exact h.elim
 | iad x i n=>
  simp only [AJ.wp] at h ⊢;split at h
  ·rename_i m es k j A hi
   try simp only [A,hi]
   obtain ⟨D,B,e,H,Y⟩:=h;refine ⟨D,B,e,H,BO Y rfl rfl fun env2 w E u=>?_⟩;simp only [AJ.wp,w.val (x:=x) (fun s h=>IS h),w.val (x:=i) (fun s h=>H9 h),A,hi];exact ⟨D,B,e,H,u⟩
  ·exact h.elim
 | aad x i n k=>
  simp only [AJ.wp] at h ⊢;split at h
  ·rename_i row kk j A hi
   try simp only [A,hi]
   obtain ⟨D,B,H,Y⟩:=h;refine ⟨D,B,H,BO Y rfl rfl fun env2 w E u=>?_⟩;have:=(w.ev (x:=x) (fun s h=>IS h)).pt A;simp only [AJ.wp,this,w.val (x:=i) (fun s h=>H9 h),hi];exact ⟨D,B,H,u⟩
  ·exact h.elim
 | ld x=>
  simp only [AJ.wp] at h ⊢;cases C:BZ O (x.ev O) with
  | none=>rw [C] at h; exact h.elim
  | some cs=>
   rw [C] at h;simp only [BB] at h ⊢;cases R:IG cs with
   | none=>rw [R] at h; exact h.elim
   | some t=>
    rw [R] at h;refine ⟨h.1,BO h.2 rfl rfl fun env2 w E u=>?_⟩;simp only [AJ.wp,w.addr (x:=x) (fun s h=>h),C,BB,R];exact ⟨h.1,u⟩
 | lda x n=>
  simp only [AJ.wp] at h ⊢;cases C:BZ O (x.ev O) with
  | none=>rw [C] at h; exact h.elim
  | some cs=>
   rw [C] at h;simp only [BB] at h ⊢;refine ⟨h.1,BO h.2 rfl rfl fun env2 w E u=>?_⟩;simp only [AJ.wp,w.addr (x:=x) (fun s h=>h),C,BB];exact ⟨h.1,u⟩
 | ldb s n=>
  simp only [AJ.wp] at h ⊢;split at h
  ·rename_i cs C
   try simp only [C]
   refine ⟨h.1,BO h.2 rfl rfl fun env2 w E u=>?_⟩;have D:=w.addr (x:=.s s) (fun s h=>h);obtain ⟨ds,H,_⟩:=(w.sl s (by simp [AJ.slots])).bx C;simp only [AL.ev,C,H,BZ,zzY] at D;simp only [AJ.wp,H,D];exact ⟨h.1,u⟩
  ·exact h.elim
 | ldt x=>
  simp only [AJ.wp] at h ⊢;split at h
  ·rename_i s L T;split at h
   ·rename_i cs G;split at h
    ·rename_i n es C
     try simp only [T,G,C]
     refine ⟨h,.cell s L (.list n es),by simp [CF.app,G],⟨cs,G,C⟩,by simp,?_,(fun s F=>by cases F),by simp [AJ.isNew],(fun s L t F=>by cases F; rfl),fun env2 w E u=>?_⟩
     ·intro s' off' t' F;simp only [CF.cell.injEq] at F;obtain ⟨rfl,rfl,rfl⟩:=F;cases x with
      | c t=>simp [AL.place] at T
      | s n=>
       simp only [AL.place] at T;split at T
       ·rename_i q o U;simp only [zzY,Prod.mk.injEq] at T;exact .inr ⟨n,by simp [AJ.slots,AL.sl],by rw [U,T.1]; rfl⟩
       ·simp only [zzY,Prod.mk.injEq] at T;exact .inl (by simp [AJ.slots,AL.sl,T.1])
       ·cases T
     ·obtain ⟨ds,D,B⟩:=w.eff;simp only [CF.app,D] at u;simp only [AJ.wp,w.place (x:=x) (fun s h=>h),T,D,B];exact u
    ·exact h.elim
   ·exact h.elim
  ·exact h.elim
 | bin k op x y=>
  simp only [AJ.wp] at h ⊢;split at h
  ·rename_i a b A X
   try simp only [A,X]
   cases P:F5 k op a b with
   | none=>rw [P] at h; exact h.elim
   | some t=>
    rw [P] at h;refine BO h rfl rfl fun env2 w E u=>?_;simp only [AJ.wp,w.val (x:=x) (fun s h=>IS h),w.val (x:=y) (fun s h=>H9 h),A,X,P,BB];exact u
  ·exact h.elim
 | not x=>
  simp only [AJ.wp] at h ⊢;split at h
  ·rename_i b A
   try simp only [A]
   refine BO h rfl rfl fun env2 w E u=>?_;simp only [AJ.wp,w.val (x:=x) (fun s h=>h),A];exact u
  ·exact h.elim
 | neg x=>
  simp only [AJ.wp] at h ⊢;split at h
  ·rename_i k n A
   try simp only [A]
   refine BO h rfl rfl fun env2 w E u=>?_;simp only [AJ.wp,w.val (x:=x) (fun s h=>h),A];exact u
  ·exact h.elim
 | pick c a b=>
  simp only [AJ.wp] at h ⊢;split at h
  ·rename_i q C
   try simp only [C]
   have key:∀ t,((if q=true then a else b).ev O).val=some t->∀ env2,GX (.pick c a b) .none dst O env2->∀ E:EV->AD->Prop,E (.tv t) env2->(AJ.pick c a b).wp S env2 dst E:=by
    intro t ht env2 w E u;have hv:=w.val (x:=if q=true then a else b) (fun s h=>by
     cases q
     ·exact H9 (H9 h)
     ·exact H9 (IS h))
    simp only [AL.val] at hv;rw [ht] at hv;simp only [AJ.wp,w.val (x:=c) (fun s h=>IS h),C];cases F:(if q=true then a else b).ev env2 <;> rw [F] at hv <;> simp [EV.val] at hv <;> subst hv <;> exact u
   split at h
   ·rename_i t A
    try simp only [A]
    exact BO h rfl rfl (key t (by rw [A]; rfl))
   ·rename_i t A
    try simp only [A]
    exact BO h rfl rfl (key t (by rw [A]; rfl))
   ·exact h.elim
  ·exact h.elim
 | len x=>
  simp only [AJ.wp] at h ⊢;split at h
  ·rename_i n es A
   try simp only [A]
   refine BO h rfl rfl fun env2 w E u=>?_;simp only [AJ.wp,w.val (x:=x) (fun s h=>h),A];exact u
  ·exact h.elim
 | slen x=>
  simp only [AJ.wp] at h ⊢;split at h
  ·rename_i s A
   try simp only [A]
   refine BO h rfl rfl fun env2 w E u=>?_;simp only [AJ.wp,w.val (x:=x) (fun s h=>h),A];exact u
  ·exact h.elim
 | slc n x lo hi=>
  simp only [AJ.wp] at h ⊢;split at h
  ·rename_i m es A
   try simp only [A]
   split at h
   ·rename_i k1 l k2 hh D B
    try simp only [D,B]
    refine ⟨h.1,h.2.1,BO h.2.2 rfl rfl fun env2 w E u=>?_⟩;simp only [AJ.wp,w.val (x:=x) (fun s h=>IS h),A,w.bnd (x:=lo) (fun s h=>H9 (IS h)),w.bnd (x:=hi) (fun s h=>H9 (H9 h)),D,B];exact ⟨h.1,h.2.1,u⟩
   ·exact h.elim
  ·exact h.elim
 | sslc x lo hi=>
  simp only [AJ.wp] at h ⊢;split at h
  ·rename_i str A
   try simp only [A]
   split at h
   ·rename_i k1 l k2 hh D B
    try simp only [D,B]
    refine ⟨h.1,h.2.1,h.2.2.1,BO h.2.2.2 rfl rfl fun env2 w E u=>?_⟩;simp only [AJ.wp,w.val (x:=x) (fun s h=>IS h),A,w.bnd (x:=lo) (fun s h=>H9 (IS h)),w.bnd (x:=hi) (fun s h=>H9 (H9 h)),D,B];exact ⟨h.1,h.2.1,h.2.2.1,u⟩
   ·exact h.elim
  ·exact h.elim
 | bld zero Z=>
  simp only [AJ.wp] at h ⊢;cases C:It O Z with
  | none=>rw [C] at h; exact h.elim
  | some Q=>
   rw [C] at h;simp only [BB] at h ⊢;cases R:IE zero Q with
   | none=>rw [R] at h; exact h.elim
   | some cs=>
    rw [R] at h;refine BO h rfl rfl fun env2 w E u=>?_;simp only [AJ.wp,w.parts (xs:=Z) (fun s h=>h),C,BB,R];exact u
 | lst n Z=>
  simp only [AJ.wp] at h ⊢;cases C:Go.Sf.vals O Z with
  | none=>rw [C] at h; exact h.elim
  | some Q=>
   rw [C] at h;simp only [BB] at h ⊢;refine ⟨h.1,BO h.2 rfl rfl fun env2 w E u=>?_⟩;simp only [AJ.wp,w.vals (xs:=Z) (fun s h=>h),C,BB];exact ⟨h.1,u⟩
 | app n x y=>
  simp only [AJ.wp] at h ⊢;split at h
  ·rename_i m es m' fs A X
   try simp only [A,X]
   obtain ⟨D,B,H,Y⟩:=h;cases x with
   | c t=>simp [AL.ev] at A
   | s s=>
    simp only [AL.ev] at A;subst D;refine ⟨rfl,B,H,Y,.slot s (.list m es),rfl,A,?_,by simp,(fun s F=>by cases F),by simp [AJ.isNew],by simp,fun env2 w E u=>?_⟩
    ·intro s' t' F;simp only [CF.slot.injEq] at F;simp [AJ.dem,AL.sl,F.1]
    ·have:=w.eff;simp only [CF.ok] at this;simp only [AJ.wp,AL.ev,this,w.val (x:=y) (fun s h=>H9 h),X];exact ⟨trivial,B,H,u⟩
  ·exact h.elim
 | call g xs=>
  simp only [AJ.wp] at h ⊢;cases C:Go.Sf.vals O xs with
  | none=>rw [C] at h; exact h.elim
  | some Q=>
   rw [C] at h;simp only [BB] at h ⊢;obtain ⟨r,D,B⟩:=h;refine ⟨r,D,fun W=>BO (B W) rfl (by cases r <;> rfl) fun env2 w E u=>?_⟩;simp only [AJ.wp,w.vals (xs:=xs) (fun s h=>h),C,BB];exact ⟨r,D,fun _=>u⟩
 | callv x xs=>
  simp only [AJ.wp] at h ⊢;split at h
  ·rename_i g caps Q A C
   try simp only [A,C]
   obtain ⟨r,D,B⟩:=h;refine ⟨r,D,fun W=>BO (B W) rfl (by cases r <;> rfl) fun env2 w E u=>?_⟩;simp only [AJ.wp,w.val (x:=x) (fun s h=>IS h),w.vals (xs:=xs) (fun s h=>H9 h),A,C];exact ⟨r,D,fun _=>u⟩
  ·exact h.elim
 | clo g xs=>
  simp only [AJ.wp] at h ⊢;cases C:Go.Sf.vals O xs with
  | none=>rw [C] at h; exact h.elim
  | some Q=>
   rw [C] at h;simp only [BB] at h ⊢;refine BO h rfl rfl fun env2 w E u=>?_;simp only [AJ.wp,w.vals (xs:=xs) (fun s h=>h),C,BB];exact u
 | ext x i=>
  simp only [AJ.wp] at h ⊢;split at h
  ·rename_i Q A
   try simp only [A]
   cases R:Q[i]? with
   | none=>rw [R] at h; exact h.elim
   | some t=>
    rw [R] at h;refine BO h rfl rfl fun env2 w E u=>?_;have:=(w.ev (x:=x) (fun s h=>h)).tp A;simp only [AJ.wp,this,R,BB];exact u
  ·exact h.elim
 | cvt k x=>
  simp only [AJ.wp] at h ⊢;split at h
  ·rename_i k n A
   try simp only [A]
   refine BO h rfl rfl fun env2 w E u=>?_;simp only [AJ.wp,w.val (x:=x) (fun s h=>h),A];exact u
  ·exact h.elim
 | sidx x i=>
  simp only [AJ.wp] at h ⊢;split at h
  ·rename_i str k j A hi
   try simp only [A,hi]
   obtain ⟨D,b,B,H⟩:=h;refine ⟨D,b,B,BO H rfl rfl fun env2 w E u=>?_⟩;simp only [AJ.wp,w.val (x:=x) (fun s h=>IS h),w.val (x:=i) (fun s h=>H9 h),A,hi];exact ⟨D,b,B,u⟩
  ·exact h.elim
 | boxs x=>
  simp only [AJ.wp] at h ⊢;split at h
  ·rename_i t A
   try simp only [A]
   refine BO h rfl rfl fun env2 w E u=>?_;simp only [AJ.wp,w.val (x:=x) (fun s h=>h),A];exact u
  ·exact h.elim
 | boxo x=>
  simp only [AJ.wp] at h ⊢;split at h
  ·rename_i t d A
   try simp only [A]
   refine ⟨h.1,h.2,.none,rfl,trivial,by simp,by simp,(fun s F=>by cases F),fun _=>⟨rfl,fun d' N=>?_⟩,by simp,fun env2 w E u=>?_⟩
   ·simp only [zzY] at N; subst N; exact h.1
   ·simp only [AJ.wp,w.val (x:=x) (fun s h=>h),A];exact ⟨w.new rfl _ rfl h.1,u⟩
  ·exact h.elim
 | mm mx x y=>
  simp only [AJ.wp] at h ⊢;split at h
  ·rename_i k a k' b A X
   try simp only [A,X]
   refine ⟨h.1,BO h.2 rfl rfl fun env2 w E u=>?_⟩;simp only [AJ.wp,w.val (x:=x) (fun s h=>IS h),w.val (x:=y) (fun s h=>H9 h),A,X];exact ⟨h.1,u⟩
  ·exact h.elim
 | alc cs=>
  simp only [AJ.wp] at h ⊢;split at h
  ·rename_i d;refine ⟨h.1,h.2,.none,rfl,trivial,by simp,by simp,(fun s F=>by cases F),fun _=>⟨rfl,fun d' N=>?_⟩,by simp,fun env2 w E u=>?_⟩
   ·simp only [zzY] at N; subst N; exact h.1
   ·simp only [AJ.wp];exact ⟨w.new rfl _ rfl h.1,u⟩
  ·exact h.elim
 | st n x v=>cases I
 | stb n s v=>cases I
 | frz s=>cases I
 | xal s=>
  simp only [AJ.wp] at h ⊢;split at h
  ·rename_i n es G
   try simp only [G]
   refine ⟨h,.none,rfl,trivial,by simp,by simp,?_,by simp [AJ.isNew],by simp,fun env2 w E u=>?_⟩
   ·intro s' F;simp only [EV.ref,zzY] at F;exact .inl (by simp [AJ.bads,F])
   ·have B:=(w.sl s (by simp [AJ.slots])).xo G;simp only [AJ.wp,B];exact u
  ·exact h.elim
 | xlen x=>
  simp only [AJ.wp] at h ⊢;cases A:x.xlist O with
  | none=>rw [A] at h; exact h.elim
  | some p=>
   rw [A] at h;simp only [BB] at h ⊢;refine BO h rfl rfl fun env2 w E u=>?_;simp only [AJ.wp,w.xlist (x:=x) (fun s h=>h),A,BB];exact u
 | lac x=>
  simp only [AJ.wp] at h ⊢;split at h
  ·rename_i s L A;split at h
   ·rename_i p U
    try simp only [A,U]
    have J:∃ n∈x.sl,O.get n=.bp s L:=by
     cases x with
     | c t=>simp [AL.ev] at A
     | s n=>exact ⟨n,by simp [AL.sl],A⟩
    obtain ⟨n,V,P⟩:=J;refine ⟨h,.none,rfl,trivial,by simp,by simp,?_,by simp [AJ.isNew],by simp,fun env2 w E u=>?_⟩
    ·intro s' F;simp only [EV.ref,zzY] at F;subst F;exact .inr ⟨n,V,by rw [P]; rfl⟩
    ·have D:=(w.ev (x:=x) (fun s h=>h)).bp A;have B:=(w.bp n V s (by rw [P]; rfl)).xat (some L);rw [U] at B;simp only [AJ.wp,D,B];exact u
   ·exact h.elim
  ·exact h.elim
 | ctk _=>cases I
 | cpt _ _=>cases I
 | cut _ _ _=>cases I
 | appz _ _ _ _=>cases I
 | callf g xs=>
  simp only [AJ.wp] at h ⊢;cases C:Go.Sf.vals O xs with
  | none=>rw [C] at h; exact h.elim
  | some Q=>
   rw [C] at h;simp only [BB] at h ⊢;obtain ⟨r,D,B⟩:=h;refine ⟨r,D,BO B rfl rfl fun env2 w E u=>?_⟩;simp only [AJ.wp,w.vals (xs:=xs) (fun s h=>h),C,BB];exact ⟨r,D,u⟩
 | callb _ _ _=>cases I
 | calll g xs=>
  simp only [AJ.wp] at h ⊢;cases C:Go.Sf.lvals O xs with
  | none=>rw [C] at h; exact h.elim
  | some Q=>
   rw [C] at h;simp only [BB] at h ⊢;obtain ⟨r,D,B⟩:=h;refine ⟨r,D,fun W=>BO (B W) rfl (by cases r <;> rfl) fun env2 w E u=>?_⟩;simp only [AJ.wp,w.lvals (xs:=xs) (fun s h=>h),C,BB];exact ⟨r,D,fun _=>u⟩
 | boxp Z x=>
  simp only [AJ.wp] at h ⊢;split at h
  ·rename_i t d A
   try simp only [A]
   cases C:HQ Z t.cells with
   | none=>rw [C] at h; exact h.elim
   | some cs=>
    rw [C] at h;simp only [BB] at h ⊢;refine ⟨h.1,h.2,.none,rfl,trivial,by simp,by simp,(fun s F=>by cases F),fun _=>⟨rfl,fun d' N=>?_⟩,by simp,fun env2 w E u=>?_⟩
    ·simp only [zzY] at N; subst N; exact h.1
    ·simp only [AJ.wp,w.val (x:=x) (fun s h=>h),A,C,BB];exact ⟨w.new rfl _ rfl h.1,u⟩
  ·exact h.elim
 | xia x i n=>
  simp only [AJ.wp] at h ⊢;cases A:x.xlist O with
  | none=>rw [A] at h; exact h.elim
  | some p=>
   rw [A] at h;simp only [BB] at h ⊢;split at h
   ·rename_i ik j hj
    try simp only [hj]
    obtain ⟨⟨D,B⟩,H,Y,h5⟩:=h;have J:∃ n∈x.sl,(O.get n).ref=some p.1.1:=by
     cases x with
     | c t=>simp [AL.ev,EV.ref] at D
     | s n=>exact ⟨n,by simp [AL.sl],D⟩
    obtain ⟨m,hm',hr⟩:=J;refine ⟨⟨D,B⟩,H,Y,h5,.none,rfl,trivial,by simp,by simp,?_,by simp [AJ.isNew],by simp,fun env2 w E u=>?_⟩
    ·intro s' F;simp only [EV.ref,zzY] at F;subst F;exact .inr ⟨m,IS hm',hr⟩
    ·have e1:=w.xlist (x:=x) (fun s h=>IS h);have e2:=w.val (x:=i) (fun s h=>H9 h);have e3:=(w.ev (x:=x) (fun s h=>IS h)).ref;simp only [AJ.wp,e1,A,e2,hj,BB,e3,D];exact ⟨⟨trivial,B⟩,H,Y,u⟩
   ·exact h.elim
 | xfa x k=>
  simp only [AJ.wp] at h ⊢;split at h
  ·rename_i q i c A;split at h
   ·rename_i p U
    try simp only [A,U]
    have J:∃ n∈x.sl,O.get n=.lp q i c:=by
     cases x with
     | c t=>simp [AL.ev] at A
     | s n=>exact ⟨n,by simp [AL.sl],A⟩
    obtain ⟨n,V,P⟩:=J;refine ⟨h,.none,rfl,trivial,by simp,by simp,?_,by simp [AJ.isNew],by simp,fun env2 w E u=>?_⟩
    ·intro s' F;simp only [EV.ref,zzY] at F;subst F;exact .inr ⟨n,V,by rw [P]; rfl⟩
    ·have D:=(w.ev (x:=x) (fun s h=>h)).of_ref (q:=q) (by rw [A]; rfl);have B:=(w.bp n V q (by rw [P]; rfl)).xat i;rw [U] at B;simp only [AJ.wp,D,A,B];exact u
   ·exact h.elim
  ·exact h.elim
 | xld x=>
  simp only [AJ.wp] at h ⊢;split at h
  ·rename_i q i c A;split at h
   ·rename_i p U
    try simp only [A,U]
    cases C:(p.2.flatMap TV.cells)[c]? with
    | none=>rw [C] at h; exact h.elim
    | some t=>
     rw [C] at h;simp only [BB] at h ⊢;have J:∃ n∈x.sl,O.get n=.lp q i c:=by
      cases x with
      | c t=>simp [AL.ev] at A
      | s n=>exact ⟨n,by simp [AL.sl],A⟩
     obtain ⟨n,V,P⟩:=J;refine BO h rfl rfl fun env2 w E u=>?_;have D:=(w.ev (x:=x) (fun s h=>h)).of_ref (q:=q) (by rw [A]; rfl);have B:=(w.bp n V q (by rw [P]; rfl)).xat i;rw [U] at B;simp only [AJ.wp,D,A,B,C,BB];exact u
   ·exact h.elim
  ·exact h.elim
 | xst _ _=>cases I
 | rel _=>cases I
 | nilx _=>cases I
 | tkx _=>cases I
 | appx _ _ _=>cases I
 | callx g xs=>
  simp only [AJ.wp] at h ⊢;split at h
  ·rename_i d;obtain ⟨M,h⟩:=h;refine ⟨M,?_⟩;cases C:Go.Sf.vals O xs with
   | none=>rw [C] at h; exact h.elim
   | some Q=>
    rw [C] at h;simp only [BB] at h ⊢;obtain ⟨n,es,D,B⟩:=h;refine ⟨n,es,D,fun W=>⟨B W,.none,rfl,trivial,by simp,by simp,(fun s F=>by cases F),fun _=>⟨rfl,fun d' N=>?_⟩,by simp,fun env2 w E u=>?_⟩⟩
    ·simp only [zzY] at N; subst N; exact M
    ·simp only [AJ.wp,w.vals (xs:=xs) (fun s h=>h),C,BB];exact ⟨w.new rfl _ rfl M,n,es,D,fun _=>u⟩
  ·exact h.elim
 | mkx n z x=>
  simp only [AJ.wp] at h ⊢;split at h
  ·rename_i d k j A
   try simp only [A]
   obtain ⟨M,D,B,H⟩:=h;refine ⟨M,D,B,H,.none,rfl,trivial,by simp,by simp,(fun s F=>by cases F),fun _=>⟨rfl,fun d' N=>?_⟩,by simp,fun env2 w E u=>?_⟩
   ·simp only [zzY] at N; subst N; exact M
   ·simp only [AJ.wp,w.val (x:=x) (fun s h=>h),A];exact ⟨w.new rfl _ rfl M,D,B,u⟩
  ·exact h.elim
 | callm _ _=>cases I
 | callc _ _=>cases I
 | bldg _=>cases I
 | lstz _=>cases I
 | stx _ _ _=>cases I
 | isn _=>cases I
 | callg g xs=>
  simp only [AJ.wp] at h ⊢;cases C:Go.Sf.vals O xs with
  | none=>rw [C] at h; exact h.elim
  | some Q=>
   rw [C] at h;simp only [BB] at h ⊢;obtain ⟨r,D,B⟩:=h;refine ⟨r,D,fun W=>BO (B W) rfl rfl fun env2 w E u=>?_⟩;simp only [AJ.wp,w.vals (xs:=xs) (fun s h=>h),C,BB];exact ⟨r,D,fun _=>u⟩
 | fldv x k n agg=>
  simp only [AJ.wp] at h ⊢;split at h
  ·rename_i cs A
   try simp only [A]
   obtain ⟨D,B⟩:=h;refine ⟨D,?_⟩;cases agg with
   | true=>
    simp only [if_true] at B ⊢;refine BO B rfl rfl fun env2 w E u=>?_;simp only [AJ.wp,w.val (x:=x) (fun s h=>h),A,if_true];exact ⟨D,u⟩
   | false=>
    simp only [Bool.false_eq_true,if_false] at B ⊢;cases C:IG (cs.drop k) with
    | none=>rw [C] at B; exact B.elim
    | some t=>
     rw [C] at B;simp only [BB] at B ⊢;refine BO B rfl rfl fun env2 w E u=>?_;simp only [AJ.wp,w.val (x:=x) (fun s h=>h),A,Bool.false_eq_true,if_false,C,BB];exact ⟨D,u⟩
  ·exact h.elim
end
end Go.Sf
