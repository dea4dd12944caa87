/- What an operation leans on: the slots that it reads, whether or not they own their lists. -/
import Derived.Test.YtlbmpkmkmkgniaaGreatDoorSfCode
namespace Go.Sf
theorem af {cs ds:List AU} (h:ds.map AU.key=cs.map AU.key):ds.map (·.t)=cs.map (·.t):=by
 have:=congrArg (List.map Prod.fst) h
 simpa [List.map_map,Function.comp_def,AU.key] using this
def Vu (p:TV × Bool):TV:=match p with
 | (.xl n es,true)=>.list n es
 | p=>p.1
theorem UM {cs ds:List AU} (h:ds.map AU.key=cs.map AU.key):ds.map AU.lent=cs.map AU.lent:=by
 have h1:∀ c:AU,c.lent=Vu c.key:=by
  rintro ⟨_ | _,t⟩ <;> cases t <;> rfl
 have:=congrArg (List.map Vu) h
 simpa [List.map_map,Function.comp_def,←h1] using this
def lh (p:TV × Bool):Option (Nat × List TV):=match p with
 | (.xl n es,true)=>some (n,es)
 | _=>none
theorem eT {cs ds:List AU} (h:ds.map AU.key=cs.map AU.key) (k:Nat):(match ds[k]? with
  | some ⟨true,.xl n es⟩=>some (n,es)
  | _=>none)=(match cs[k]? with
  | some ⟨true,.xl n es⟩=>some (n,es)
  | _=>none):=by
 have h1:∀ o:Option AU,(match o with
  | some ⟨true,.xl n es⟩=>some (n,es)
  | _=>none)=(o.map AU.key).bind lh:=by
  rintro (_ | ⟨_ | _,t⟩)
  ·rfl
  ·cases t <;> rfl
  ·cases t <;> rfl
 rw [h1,h1]
 have:=congrArg (fun l=>l[k]?) h
 simp only [List.getElem?_map] at this
 rw [this]
def EV.like (e e2:EV):Prop:=
 e2=e∨(∃ n es,(e=.tv (.list n es)∧e2=.ow (.list n es))∨(e=.ow (.list n es)∧e2=.tv (.list n es)))∨∃ cs ds,e=.bx cs∧e2=.bx ds∧ds.map AU.key=cs.map AU.key
theorem EV.like.symm {e e2:EV} (h:e.like e2):e2.like e:=by
 rcases h with rfl | ⟨n,es,⟨rfl,rfl⟩ | ⟨rfl,rfl⟩⟩ | ⟨cs,ds,rfl,rfl,h⟩
 ·exact .inl rfl
 ·exact .inr (.inl ⟨n,es,.inr ⟨rfl,rfl⟩⟩)
 ·exact .inr (.inl ⟨n,es,.inl ⟨rfl,rfl⟩⟩)
 ·exact .inr (.inr ⟨ds,cs,rfl,rfl,h.symm⟩)
theorem EV.like.ref {e e2:EV} (h:e.like e2):e2.ref=e.ref:=by
 rcases h with rfl | ⟨n,es,⟨rfl,rfl⟩ | ⟨rfl,rfl⟩⟩ | ⟨cs,ds,rfl,rfl,h⟩ <;> rfl
theorem EV.like.of_ref {e e2:EV} (h:e.like e2) {q:Nat} (hr:e.ref=some q):e2=e:=by
 rcases h with rfl | ⟨n,es,⟨rfl,rfl⟩ | ⟨rfl,rfl⟩⟩ | ⟨cs,ds,rfl,rfl,h⟩
 ·rfl
 ·cases hr
 ·cases hr
 ·cases hr
theorem EV.like.xo {e e2:EV} (h:e.like e2) {n:Nat} {es:List TV} (he:e=.xo n es):e2=.xo n es:=by
 subst he
 rcases h with rfl | ⟨n,es,⟨h,_⟩ | ⟨h,_⟩⟩ | ⟨cs,ds,h,_⟩
 ·rfl
 ·cases h
 ·cases h
 ·cases h
theorem EV.like.val {e e2:EV} (h:e.like e2):e2.val=e.val:=by
 rcases h with rfl | ⟨n,es,⟨rfl,rfl⟩ | ⟨rfl,rfl⟩⟩ | ⟨cs,ds,rfl,rfl,h⟩ <;> rfl
theorem EV.like.pt {e e2:EV} (h:e.like e2) {row:List TV} (he:e=.tv (.pt row)):e2=.tv (.pt row):=by
 subst he
 rcases h with rfl | ⟨n,es,⟨h,rfl⟩ | ⟨h,rfl⟩⟩ | ⟨cs,ds,h,rfl,h'⟩
 ·rfl
 ·simp at h
 ·cases h
 ·cases h
theorem EV.like.bp {e e2:EV} (h:e.like e2) {q off:Nat} (he:e=.bp q off):e2=.bp q off:=by
 subst he
 rcases h with rfl | ⟨n,es,⟨h,rfl⟩ | ⟨h,rfl⟩⟩ | ⟨cs,ds,h,rfl,h'⟩
 ·rfl
 ·cases h
 ·cases h
 ·cases h
theorem EV.like.tp {e e2:EV} (h:e.like e2) {ts:List TV} (he:e=.tp ts):e2=.tp ts:=by
 subst he
 rcases h with rfl | ⟨n,es,⟨h,rfl⟩ | ⟨h,rfl⟩⟩ | ⟨cs,ds,h,rfl,h'⟩
 ·rfl
 ·cases h
 ·cases h
 ·cases h
theorem EV.like.bx {e e2:EV} (h:e.like e2) {cs:List AU} (he:e=.bx cs):∃ ds,e2=.bx ds∧ds.map AU.key=cs.map AU.key:=by
 subst he
 rcases h with rfl | ⟨n,es,⟨h,rfl⟩ | ⟨h,rfl⟩⟩ | ⟨cs',ds,h,rfl,h'⟩
 ·exact ⟨cs,rfl,rfl⟩
 ·cases h
 ·cases h
 ·simp only [EV.bx.injEq] at h; subst h; exact ⟨ds,rfl,h'⟩
def AJ.sl:AJ->List Nat
 | .s n=>[n]
 | .c _=>[]
def Ru:Option AJ->List Nat
 | some x=>x.sl
 | none=>[]
def IU:List AJ->List Nat
 | []=>[]
 | x::xs=>x.sl++IU xs
def P3:List (Nat × Nat × AJ)->List Nat
 | []=>[]
 | x::xs=>x.2.2.sl++P3 xs
def AH.slots:AH->List Nat
 | .mv x=>x.sl
 | .tk s=>[s]
 | .nilo _=>[]
 | .fad x _=>x.sl
 | .bad s _=>[s]
 | .iad x i _=>x.sl++i.sl
 | .aad x i _ _=>x.sl++i.sl
 | .ld x=>x.sl
 | .lda x _=>x.sl
 | .ldb s _=>[s]
 | .ldt x=>x.sl
 | .bin _ _ x y=>x.sl++y.sl
 | .not x=>x.sl
 | .neg x=>x.sl
 | .pick c a b=>c.sl++(a.sl++b.sl)
 | .len x=>x.sl
 | .slen x=>x.sl
 | .slc _ x lo hi=>x.sl++(Ru lo++Ru hi)
 | .sslc x lo hi=>x.sl++(Ru lo++Ru hi)
 | .bld _ ps=>P3 ps
 | .lst _ ps=>IU ps
 | .app _ x y=>x.sl++y.sl
 | .call _ xs=>IU xs
 | .callv x xs=>x.sl++IU xs
 | .clo _ xs=>IU xs
 | .ext x _=>x.sl
 | .cvt _ x=>x.sl
 | .sidx x i=>x.sl++i.sl
 | .boxs x=>x.sl
 | .boxo x=>x.sl
 | .mm _ x y=>x.sl++y.sl
 | .alc _=>[]
 | .st _ x v=>x.sl++v.sl
 | .stb _ s v=>s::v.sl
 | .frz s=>[s]
 | .fldv x _ _ _=>x.sl
 | .xal s=>[s]
 | .xlen x=>x.sl
 | .xia x i _=>x.sl++i.sl
 | .xfa x _=>x.sl
 | .xld x=>x.sl
 | .xst x v=>x.sl++v.sl
 | .rel s=>[s]
 | .nilx _=>[]
 | .lstz _=>[]
 | .tkx s=>[s]
 | .appx _ s y=>s::y.sl
 | .callx _ xs=>IU xs
 | .mkx _ _ x=>x.sl
 | .callm _ x=>x.sl
 | .callc _ x=>x.sl
 | .bldg gs=>gs.flatMap GC.sl
 | .stx _ s q=>[s,q]
 | .callg _ xs=>IU xs
 | .isn x=>x.sl
 | .lac x=>x.sl
 | .ctk x=>x.sl
 | .cpt x q=>x.sl++[q]
 | .cut _ s hi=>s::hi.sl
 | .calll _ xs=>IU xs
 | .boxp _ x=>x.sl
 | .appz _ s _ x=>s::x.sl
 | .callf _ xs=>IU xs
 | .callb _ xs _=>IU xs
def AH.dem:AH->List Nat
 | .tk s=>[s]
 | .app _ x _=>x.sl
 | _=>[]
def AH.mov:AH->Bool
 | .st ..=>false
 | .stb ..=>false
 | .frz _=>false
 | .xst ..=>false
 | .rel _=>false
 | .nilx _=>false
 | .lstz _=>false
 | .tkx _=>false
 | .appx ..=>false
 | .callm ..=>false
 | .callc ..=>false
 | .bldg _=>false
 | .stx ..=>false
 | .isn _=>false
 | .ctk _=>false
 | .cpt ..=>false
 | .cut ..=>false
 | .appz ..=>false
 | .callb ..=>false
 | _=>true
def AH.isNew:AH->Bool
 | .alc _=>true
 | .boxo _=>true
 | .boxp ..=>true
 | .callx ..=>true
 | .mkx ..=>true
 | _=>false
def AH.bads:AH->List Nat
 | .bad s _=>[s]
 | .xal s=>[s]
 | _=>[]
inductive B3 where
 | none
 | slot (s:Nat) (t:TV)
 | cell (s off:Nat) (t:TV)
def B3.app:B3->AC->AC
 | .none,env=>env
 | .slot s t,env=>(s,.tv t)::env
 | .cell s off t,env=>match env.get s with
  | .bx cs=>(s,.bx (cs.set off ⟨false,t⟩))::env
  | _=>env
def B3.ok:B3->AC->Prop
 | .none,_=>True
 | .slot s t,env=>env.get s=.ow t
 | .cell s off t,env=>∃ cs,env.get s=.bx cs∧cs[off]?=some ⟨true,t⟩
structure FZ (op:AH) (f:B3) (dst:Option Nat) (env env2:AC):Prop where
 sl:∀ s∈op.slots,(env.get s).like (env2.get s)
 bp:∀ s∈op.slots,∀ q,(env.get s).ref=some q->(env.get q).like (env2.get q)
 dem:∀ s∈op.dem,(∀ cs,env.get s≠.bx cs)->env2.get s=env.get s
 eff:f.ok env2
 new:op.isNew=true->∀ d,dst=some d->env.noRef d=true->env2.noRef d=true
section
variable {op:AH} {f:B3} {dst:Option Nat} {env env2:AC}
theorem FZ.val (h:FZ op f dst env env2) {x:AJ} (hs:∀ s∈x.sl,s∈op.slots):x.val env2=x.val env:=by
 cases x with
 | c t=>rfl
 | s n=>exact (h.sl n (hs n (by simp [AJ.sl]))).val
theorem FZ.ev (h:FZ op f dst env env2) {x:AJ} (hs:∀ s∈x.sl,s∈op.slots):(x.ev env).like (x.ev env2):=by
 cases x with
 | c t=>exact .inl rfl
 | s n=>exact h.sl n (hs n (by simp [AJ.sl]))
theorem FZ.vals (h:FZ op f dst env env2):∀ {xs:List AJ},(∀ s∈IU xs,s∈op.slots)->Go.Sf.vals env2 xs=Go.Sf.vals env xs
 | [],_=>rfl
 | x::xs,hs=>by
  simp only [IU,List.mem_append] at hs
  simp only [Go.Sf.vals,h.val (x:=x) (fun s hx=>hs s (.inl hx)),h.vals (xs:=xs) (fun s hx=>hs s (.inr hx))]
theorem FZ.parts (h:FZ op f dst env env2):∀ {xs:List (Nat × Nat × AJ)},(∀ s∈P3 xs,s∈op.slots)->Hy env2 xs=Hy env xs
 | [],_=>rfl
 | (i,n,x)::xs,hs=>by
  simp only [P3,List.mem_append] at hs
  simp only [Hy,h.val (x:=x) (fun s hx=>hs s (.inl hx)),h.parts (xs:=xs) (fun s hx=>hs s (.inr hx))]
theorem FZ.bnd (h:FZ op f dst env env2) {x:Option AJ} {k:Int} (hs:∀ s∈Ru x,s∈op.slots):GH env2 k x=GH env k x:=by
 cases x with
 | none=>rfl
 | some x=>exact h.val hs
theorem FZ.addr (h:FZ op f dst env env2) {x:AJ} (hs:∀ s∈x.sl,s∈op.slots):BO env2 (x.ev env2)=BO env (x.ev env):=by
 cases x with
 | c t=>cases t <;> rfl
 | s n=>
  have hn:=hs n (by simp [AJ.sl])
  have hl:=h.sl n hn
  have hb:=h.bp n hn
  simp only [AJ.ev]
  generalize env.get n=e at hl hb
  generalize env2.get n=e2 at hl
  rcases hl with rfl | ⟨n,es,⟨rfl,rfl⟩ | ⟨rfl,rfl⟩⟩ | ⟨cs,ds,rfl,rfl,h2⟩
  ·cases e2 with
   | bp q off=>
    have hq:=hb q rfl
    simp only [BO]
    generalize env.get q=e1 at hq
    generalize env2.get q=e2 at hq
    rcases hq with rfl | ⟨n,es,⟨rfl,rfl⟩ | ⟨rfl,rfl⟩⟩ | ⟨cs,ds,rfl,rfl,h2⟩
    ·rfl
    ·rfl
    ·rfl
    ·simp only [List.map_drop,af h2]
   | tv t=>cases t <;> rfl
   | _=>rfl
  ·rfl
  ·rfl
  ·simp only [BO,af h2]
theorem FZ.place (h:FZ op f dst env env2) {x:AJ} (hs:∀ s∈x.sl,s∈op.slots):x.place env2=x.place env:=by
 cases x with
 | c t=>rfl
 | s n=>
  have hl:=h.sl n (hs n (by simp [AJ.sl]))
  simp only [AJ.place]
  rcases hl with h1 | ⟨n,es,⟨h1,h2⟩ | ⟨h1,h2⟩⟩ | ⟨cs,ds,h1,h2,_⟩
  ·rw [h1]
  ·rw [h1,h2]
  ·rw [h1,h2]
  ·rw [h1,h2]
theorem EV.like.xat {env env2:AC} {q:Nat} (h:(env.get q).like (env2.get q)) (i:Option Nat):env2.xat q i=env.xat q i:=by
 rcases h with h1 | ⟨n,es,⟨h1,h2⟩ | ⟨h1,h2⟩⟩ | ⟨cs,ds,h1,h2,h3⟩
 ·exact AC.xat_of h1
 ·cases i <;> simp only [AC.xat,h1,h2]
 ·cases i <;> simp only [AC.xat,h1,h2]
 ·cases i with
  | none=>simp only [AC.xat,h1,h2]
  | some k=>simp only [AC.xat,h1,h2]; exact eT h3 k
theorem FZ.xlist (h:FZ op f dst env env2) {x:AJ} (hs:∀ s∈x.sl,s∈op.slots):x.xlist env2=x.xlist env:=by
 cases x with
 | c t=>rfl
 | s n=>
  have hn:=hs n (by simp [AJ.sl])
  have hl:=h.sl n hn
  have hb:=h.bp n hn
  simp only [AJ.xlist]
  rcases hl with h1 | ⟨m,es,⟨h1,h2⟩ | ⟨h1,h2⟩⟩ | ⟨cs,ds,h1,h2,_⟩
  ·rw [h1]
   cases he:env.get n with
   | la q i=>simp only [(hb q (by rw [he]; rfl)).xat i]
   | _=>rfl
  ·rw [h1,h2]
  ·rw [h1,h2]
  ·rw [h1,h2]
theorem FZ.lval (h:FZ op f dst env env2) {x:AJ} (hs:∀ s∈x.sl,s∈op.slots):x.lval env2=x.lval env:=by
 unfold AJ.lval
 rw [h.xlist hs]
 cases x.xlist env with
 | some p=>rfl
 | none=>
  cases x with
  | c t=>cases t <;> rfl
  | s n=>
   have hn:=hs n (by simp [AJ.sl])
   have hl:=h.sl n hn
   have hb:=h.bp n hn
   simp only [AJ.ev]
   rcases hl with h1 | ⟨m,es,⟨h1,h2⟩ | ⟨h1,h2⟩⟩ | ⟨cs,ds,h1,h2,h3⟩
   ·rw [h1]
    cases he:env.get n with
    | bp q off=>
     have hq:=hb q (by rw [he]; rfl)
     simp only
     rcases hq with k1 | ⟨m,es,⟨k1,k2⟩ | ⟨k1,k2⟩⟩ | ⟨cs,ds,k1,k2,k3⟩
     ·rw [k1]
     ·rw [k1,k2]
     ·rw [k1,k2]
     ·rw [k1,k2]
      have:=UM k3
      simp only [List.map_drop,this]
    | _=>rfl
   ·rw [h1,h2]; rfl
   ·rw [h1,h2]; rfl
   ·rw [h1,h2]
    simp only [UM h3]
theorem FZ.lvals (h:FZ op f dst env env2):∀ {xs:List AJ},(∀ s∈IU xs,s∈op.slots)->Go.Sf.lvals env2 xs=Go.Sf.lvals env xs
 | [],_=>rfl
 | x::xs,hs=>by
  simp only [IU,List.mem_append] at hs
  simp only [Go.Sf.lvals,h.lval (x:=x) (fun s hx=>hs s (.inl hx)),h.lvals (xs:=xs) (fun s hx=>hs s (.inr hx))]
end
structure XY (S:FuncId->List TV->CH->Prop) (op:AH) (dst:Option Nat) (env:AC) (e:EV) (env':AC) (f:B3):Prop where
 env':env'=f.app env
 ok:f.ok env
 slot:∀ s t,f=.slot s t->s∈op.dem
 cell:∀ s off t,f=.cell s off t->(s∈op.slots∨∃ x∈op.slots,(env.get x).ref=some s)
 ref:∀ s,e.ref=some s->(s∈op.bads∨∃ x∈op.slots,(env.get x).ref=some s)
 new:op.isNew=true->e.ref=none∧∀ d,dst=some d->env.noRef d=true
 xl:∀ s off t,f=.cell s off t->t.isXl=false
 again:∀ env2,FZ op f dst env env2->∀ K2:EV->AC->Prop,K2 e (f.app env2)->op.wp S env2 dst K2
section
variable {S:FuncId->List TV->CH->Prop} {op:AH} {dst:Option Nat} {env:AC} {K:EV->AC->Prop}
theorem BF {e:EV} (hK:K e env) (hn:op.isNew=false) (hr:e.ref=none) (h:∀ env2,FZ op .none dst env env2->∀ K2:EV->AC->Prop,K2 e env2->op.wp S env2 dst K2):K e env∧∃ f,XY S op dst env e env f:=
 ⟨hK,.none,rfl,trivial,by simp,by simp,(fun s he=>by rw [hr] at he; cases he),by simp [hn],by simp,h⟩
theorem G8 {α:Type} {x:α} {l m:List α} (h:x∈m):x∈l++m:=List.mem_append_right _ h
theorem HY {α:Type} {x:α} {l m:List α} (h:x∈l):x∈l++m:=List.mem_append_left _ h
theorem frame (hm:op.mov=true) (h:op.wp S env dst K):op.wp S env dst fun e env'=>K e env'∧∃ f,XY S op dst env e env' f:=by
 cases op with
 | mv x=>
  simp only [AH.wp] at h ⊢
  have key:∀ t,(x.ev env).val=some t->∀ env2,FZ (.mv x) .none dst env env2->∀ K2:EV->AC->Prop,K2 (.tv t) env2->(AH.mv x).wp S env2 dst K2:=by
   intro t ht env2 hl K2 hK2
   have hv:=hl.val (x:=x) (fun s h=>h)
   simp only [AJ.val] at hv
   rw [ht] at hv
   simp only [AH.wp]
   cases he:x.ev env2 <;> rw [he] at hv <;> simp [EV.val] at hv <;> subst hv <;> exact hK2
  split at h
  ·rename_i t hx
   try simp only [hx]
   exact BF h rfl rfl (key t (by rw [hx]; rfl))
  ·rename_i t hx
   try simp only [hx]
   exact BF h rfl rfl (key t (by rw [hx]; rfl))
  ·rename_i ts hx
   try simp only [hx]
   refine BF h rfl rfl fun env2 hl K2 hK2=>?_
   cases x with
   | c t=>simp [AJ.ev] at hx
   | s n=>
    simp only [AJ.ev] at hx
    have h2:env2.get n=.tp ts:=(hl.sl n (by simp [AH.slots,AJ.sl])).tp hx
    simp only [AH.wp,AJ.ev,h2]
    exact hK2
  ·exact h.elim
 | tk s=>
  simp only [AH.wp] at h ⊢
  split at h
  ·rename_i t hs
   try simp only [hs]
   refine ⟨h,.slot s t,rfl,hs,?_,by simp,(fun s he=>by cases he),by simp [AH.isNew],by simp,fun env2 hl K2 hK2=>?_⟩
   ·intro s' t' he
    simp only [B3.slot.injEq] at he
    simp [AH.dem,he.1]
   ·have:=hl.eff
    simp only [B3.ok] at this
    simp only [AH.wp,this]
    exact hK2
  ·rename_i t hs
   try simp only [hs]
   refine BF h rfl rfl fun env2 hl K2 hK2=>?_
   have:=hl.dem s (by simp [AH.dem]) (by simp [hs])
   simp only [AH.wp,this,hs]
   exact hK2
  ·exact h.elim
 | nilo n=>exact BF h rfl rfl fun env2 hl K2 hK2=>hK2
 | fad x k=>
  simp only [AH.wp] at h ⊢
  split at h
  ·rename_i row hx
   try simp only [hx]
   refine BF h rfl rfl fun env2 hl K2 hK2=>?_
   have:=(hl.ev (x:=x) (fun s h=>h)).pt hx
   simp only [AH.wp,this]
   exact hK2
  ·rename_i s off hx
   split at h
   ·rename_i cs hs
    try simp only [hx,hs]
    have hxs:∃ n∈x.sl,env.get n=.bp s off:=by
     cases x with
     | c t=>simp [AJ.ev] at hx
     | s n=>exact ⟨n,by simp [AJ.sl],hx⟩
    obtain ⟨n,hn,hb⟩:=hxs
    refine ⟨h,.none,rfl,trivial,by simp,by simp,?_,by simp [AH.isNew],by simp,fun env2 hl K2 hK2=>?_⟩
    ·intro s' he
     simp only [EV.ref,zzY] at he
     subst he
     exact .inr ⟨n,hn,by rw [hb]; rfl⟩
    ·have h1:=(hl.ev (x:=x) (fun s h=>h)).bp hx
     have h2:=hl.bp n hn s (by rw [hb]; rfl)
     rw [hs] at h2
     obtain ⟨ds,h3,_⟩:=h2.bx rfl
     simp only [AH.wp,h1,h3]
     exact hK2
   ·exact h.elim
  ·exact h.elim
 | bad s k=>
  simp only [AH.wp] at h ⊢
  split at h
  ·rename_i cs hs
   try simp only [hs]
   refine ⟨h,.none,rfl,trivial,by simp,by simp,?_,by simp [AH.isNew],by simp,fun env2 hl K2 hK2=>?_⟩
   ·intro s' he
    simp only [EV.ref,zzY] at he
    exact .inl (by simp [AH.bads,he])
   ·have h2:=hl.sl s (by simp [AH.slots])
    rw [hs] at h2
    obtain ⟨ds,h3,_⟩:=h2.bx rfl
    simp only [AH.wp,h3]
    exact hK2
  ·rename_i row hs
   try simp only [hs]
   refine BF h rfl rfl fun env2 hl K2 hK2=>?_
   have:=(hl.sl s (by simp [AH.slots])).pt hs
   simp only [AH.wp,this]
   exact hK2
  ·exact h.elim
 | iad x i n=>
  simp only [AH.wp] at h ⊢
  split at h
  ·rename_i m es k j hx hi
   try simp only [hx,hi]
   obtain ⟨h1,h2,e,h3,h4⟩:=h
   refine ⟨h1,h2,e,h3,BF h4 rfl rfl fun env2 hl K2 hK2=>?_⟩
   simp only [AH.wp,hl.val (x:=x) (fun s h=>HY h),hl.val (x:=i) (fun s h=>G8 h),hx,hi]
   exact ⟨h1,h2,e,h3,hK2⟩
  ·exact h.elim
 | aad x i n k=>
  simp only [AH.wp] at h ⊢
  split at h
  ·rename_i row kk j hx hi
   try simp only [hx,hi]
   obtain ⟨h1,h2,h3,h4⟩:=h
   refine ⟨h1,h2,h3,BF h4 rfl rfl fun env2 hl K2 hK2=>?_⟩
   have:=(hl.ev (x:=x) (fun s h=>HY h)).pt hx
   simp only [AH.wp,this,hl.val (x:=i) (fun s h=>G8 h),hi]
   exact ⟨h1,h2,h3,hK2⟩
  ·exact h.elim
 | ld x=>
  simp only [AH.wp] at h ⊢
  cases hc:BO env (x.ev env) with
  | none=>rw [hc] at h; exact h.elim
  | some cs=>
   rw [hc] at h
   simp only [A6] at h ⊢
   cases hf:HM cs with
   | none=>rw [hf] at h; exact h.elim
   | some t=>
    rw [hf] at h
    refine ⟨h.1,BF h.2 rfl rfl fun env2 hl K2 hK2=>?_⟩
    simp only [AH.wp,hl.addr (x:=x) (fun s h=>h),hc,A6,hf]
    exact ⟨h.1,hK2⟩
 | lda x n=>
  simp only [AH.wp] at h ⊢
  cases hc:BO env (x.ev env) with
  | none=>rw [hc] at h; exact h.elim
  | some cs=>
   rw [hc] at h
   simp only [A6] at h ⊢
   refine ⟨h.1,BF h.2 rfl rfl fun env2 hl K2 hK2=>?_⟩
   simp only [AH.wp,hl.addr (x:=x) (fun s h=>h),hc,A6]
   exact ⟨h.1,hK2⟩
 | ldb s n=>
  simp only [AH.wp] at h ⊢
  split at h
  ·rename_i cs hc
   try simp only [hc]
   refine ⟨h.1,BF h.2 rfl rfl fun env2 hl K2 hK2=>?_⟩
   have h1:=hl.addr (x:=.s s) (fun s h=>h)
   obtain ⟨ds,h3,_⟩:=(hl.sl s (by simp [AH.slots])).bx hc
   simp only [AJ.ev,hc,h3,BO,zzY] at h1
   simp only [AH.wp,h3,h1]
   exact ⟨h.1,hK2⟩
  ·exact h.elim
 | ldt x=>
  simp only [AH.wp] at h ⊢
  split at h
  ·rename_i s off hp
   split at h
   ·rename_i cs hs
    split at h
    ·rename_i n es hc
     try simp only [hp,hs,hc]
     refine ⟨h,.cell s off (.list n es),by simp [B3.app,hs],⟨cs,hs,hc⟩,by simp,?_,(fun s he=>by cases he),by simp [AH.isNew],(fun s off t he=>by cases he; rfl),fun env2 hl K2 hK2=>?_⟩
     ·intro s' off' t' he
      simp only [B3.cell.injEq] at he
      obtain ⟨rfl,rfl,rfl⟩:=he
      cases x with
      | c t=>simp [AJ.place] at hp
      | s n=>
       simp only [AJ.place] at hp
       split at hp
       ·rename_i q o hq
        simp only [zzY,Prod.mk.injEq] at hp
        exact .inr ⟨n,by simp [AH.slots,AJ.sl],by rw [hq,hp.1]; rfl⟩
       ·simp only [zzY,Prod.mk.injEq] at hp
        exact .inl (by simp [AH.slots,AJ.sl,hp.1])
       ·cases hp
     ·obtain ⟨ds,h1,h2⟩:=hl.eff
      simp only [B3.app,h1] at hK2
      simp only [AH.wp,hl.place (x:=x) (fun s h=>h),hp,h1,h2]
      exact hK2
    ·exact h.elim
   ·exact h.elim
  ·exact h.elim
 | bin k op x y=>
  simp only [AH.wp] at h ⊢
  split at h
  ·rename_i a b hx hy
   try simp only [hx,hy]
   cases hb:FD k op a b with
   | none=>rw [hb] at h; exact h.elim
   | some t=>
    rw [hb] at h
    refine BF h rfl rfl fun env2 hl K2 hK2=>?_
    simp only [AH.wp,hl.val (x:=x) (fun s h=>HY h),hl.val (x:=y) (fun s h=>G8 h),hx,hy,hb,A6]
    exact hK2
  ·exact h.elim
 | not x=>
  simp only [AH.wp] at h ⊢
  split at h
  ·rename_i b hx
   try simp only [hx]
   refine BF h rfl rfl fun env2 hl K2 hK2=>?_
   simp only [AH.wp,hl.val (x:=x) (fun s h=>h),hx]
   exact hK2
  ·exact h.elim
 | neg x=>
  simp only [AH.wp] at h ⊢
  split at h
  ·rename_i k n hx
   try simp only [hx]
   refine BF h rfl rfl fun env2 hl K2 hK2=>?_
   simp only [AH.wp,hl.val (x:=x) (fun s h=>h),hx]
   exact hK2
  ·exact h.elim
 | pick c a b=>
  simp only [AH.wp] at h ⊢
  split at h
  ·rename_i q hc
   try simp only [hc]
   have key:∀ t,((if q=true then a else b).ev env).val=some t->∀ env2,FZ (.pick c a b) .none dst env env2->∀ K2:EV->AC->Prop,K2 (.tv t) env2->(AH.pick c a b).wp S env2 dst K2:=by
    intro t ht env2 hl K2 hK2
    have hv:=hl.val (x:=if q=true then a else b) (fun s h=>by
     cases q
     ·exact G8 (G8 h)
     ·exact G8 (HY h))
    simp only [AJ.val] at hv
    rw [ht] at hv
    simp only [AH.wp,hl.val (x:=c) (fun s h=>HY h),hc]
    cases he:(if q=true then a else b).ev env2 <;> rw [he] at hv <;> simp [EV.val] at hv <;> subst hv <;> exact hK2
   split at h
   ·rename_i t hx
    try simp only [hx]
    exact BF h rfl rfl (key t (by rw [hx]; rfl))
   ·rename_i t hx
    try simp only [hx]
    exact BF h rfl rfl (key t (by rw [hx]; rfl))
   ·exact h.elim
  ·exact h.elim
 | len x=>
  simp only [AH.wp] at h ⊢
  split at h
  ·rename_i n es hx
   try simp only [hx]
   refine BF h rfl rfl fun env2 hl K2 hK2=>?_
   simp only [AH.wp,hl.val (x:=x) (fun s h=>h),hx]
   exact hK2
  ·exact h.elim
 | slen x=>
  simp only [AH.wp] at h ⊢
  split at h
  ·rename_i s hx
   try simp only [hx]
   refine BF h rfl rfl fun env2 hl K2 hK2=>?_
   simp only [AH.wp,hl.val (x:=x) (fun s h=>h),hx]
   exact hK2
  ·exact h.elim
 | slc n x lo hi=>
  simp only [AH.wp] at h ⊢
  split at h
  ·rename_i m es hx
   try simp only [hx]
   split at h
   ·rename_i k1 l k2 hh h1 h2
    try simp only [h1,h2]
    refine ⟨h.1,h.2.1,BF h.2.2 rfl rfl fun env2 hl K2 hK2=>?_⟩
    simp only [AH.wp,hl.val (x:=x) (fun s h=>HY h),hx,hl.bnd (x:=lo) (fun s h=>G8 (HY h)),hl.bnd (x:=hi) (fun s h=>G8 (G8 h)),h1,h2]
    exact ⟨h.1,h.2.1,hK2⟩
   ·exact h.elim
  ·exact h.elim
 | sslc x lo hi=>
  simp only [AH.wp] at h ⊢
  split at h
  ·rename_i str hx
   try simp only [hx]
   split at h
   ·rename_i k1 l k2 hh h1 h2
    try simp only [h1,h2]
    refine ⟨h.1,h.2.1,h.2.2.1,BF h.2.2.2 rfl rfl fun env2 hl K2 hK2=>?_⟩
    simp only [AH.wp,hl.val (x:=x) (fun s h=>HY h),hx,hl.bnd (x:=lo) (fun s h=>G8 (HY h)),hl.bnd (x:=hi) (fun s h=>G8 (G8 h)),h1,h2]
    exact ⟨h.1,h.2.1,h.2.2.1,hK2⟩
   ·exact h.elim
  ·exact h.elim
 | bld zero ps=>
  simp only [AH.wp] at h ⊢
  cases hc:Hy env ps with
  | none=>rw [hc] at h; exact h.elim
  | some ts=>
   rw [hc] at h
   simp only [A6] at h ⊢
   cases hf:HL zero ts with
   | none=>rw [hf] at h; exact h.elim
   | some cs=>
    rw [hf] at h
    refine BF h rfl rfl fun env2 hl K2 hK2=>?_
    simp only [AH.wp,hl.parts (xs:=ps) (fun s h=>h),hc,A6,hf]
    exact hK2
 | lst n ps=>
  simp only [AH.wp] at h ⊢
  cases hc:Go.Sf.vals env ps with
  | none=>rw [hc] at h; exact h.elim
  | some ts=>
   rw [hc] at h
   simp only [A6] at h ⊢
   refine ⟨h.1,BF h.2 rfl rfl fun env2 hl K2 hK2=>?_⟩
   simp only [AH.wp,hl.vals (xs:=ps) (fun s h=>h),hc,A6]
   exact ⟨h.1,hK2⟩
 | app n x y=>
  simp only [AH.wp] at h ⊢
  split at h
  ·rename_i m es m' fs hx hy
   try simp only [hx,hy]
   obtain ⟨h1,h2,h3,h4⟩:=h
   cases x with
   | c t=>simp [AJ.ev] at hx
   | s s=>
    simp only [AJ.ev] at hx
    subst h1
    refine ⟨rfl,h2,h3,h4,.slot s (.list m es),rfl,hx,?_,by simp,(fun s he=>by cases he),by simp [AH.isNew],by simp,fun env2 hl K2 hK2=>?_⟩
    ·intro s' t' he
     simp only [B3.slot.injEq] at he
     simp [AH.dem,AJ.sl,he.1]
    ·have:=hl.eff
     simp only [B3.ok] at this
     simp only [AH.wp,AJ.ev,this,hl.val (x:=y) (fun s h=>G8 h),hy]
     exact ⟨trivial,h2,h3,hK2⟩
  ·exact h.elim
 | call g xs=>
  simp only [AH.wp] at h ⊢
  cases hc:Go.Sf.vals env xs with
  | none=>rw [hc] at h; exact h.elim
  | some ts=>
   rw [hc] at h
   simp only [A6] at h ⊢
   obtain ⟨r,h1,h2⟩:=h
   refine ⟨r,h1,fun hw=>BF (h2 hw) rfl (by cases r <;> rfl) fun env2 hl K2 hK2=>?_⟩
   simp only [AH.wp,hl.vals (xs:=xs) (fun s h=>h),hc,A6]
   exact ⟨r,h1,fun _=>hK2⟩
 | callv x xs=>
  simp only [AH.wp] at h ⊢
  split at h
  ·rename_i g caps ts hx hc
   try simp only [hx,hc]
   obtain ⟨r,h1,h2⟩:=h
   refine ⟨r,h1,fun hw=>BF (h2 hw) rfl (by cases r <;> rfl) fun env2 hl K2 hK2=>?_⟩
   simp only [AH.wp,hl.val (x:=x) (fun s h=>HY h),hl.vals (xs:=xs) (fun s h=>G8 h),hx,hc]
   exact ⟨r,h1,fun _=>hK2⟩
  ·exact h.elim
 | clo g xs=>
  simp only [AH.wp] at h ⊢
  cases hc:Go.Sf.vals env xs with
  | none=>rw [hc] at h; exact h.elim
  | some ts=>
   rw [hc] at h
   simp only [A6] at h ⊢
   refine BF h rfl rfl fun env2 hl K2 hK2=>?_
   simp only [AH.wp,hl.vals (xs:=xs) (fun s h=>h),hc,A6]
   exact hK2
 | ext x i=>
  simp only [AH.wp] at h ⊢
  split at h
  ·rename_i ts hx
   try simp only [hx]
   cases hf:ts[i]? with
   | none=>rw [hf] at h; exact h.elim
   | some t=>
    rw [hf] at h
    refine BF h rfl rfl fun env2 hl K2 hK2=>?_
    have:=(hl.ev (x:=x) (fun s h=>h)).tp hx
    simp only [AH.wp,this,hf,A6]
    exact hK2
  ·exact h.elim
 | cvt k x=>
  simp only [AH.wp] at h ⊢
  split at h
  ·rename_i k n hx
   try simp only [hx]
   refine BF h rfl rfl fun env2 hl K2 hK2=>?_
   simp only [AH.wp,hl.val (x:=x) (fun s h=>h),hx]
   exact hK2
  ·exact h.elim
 | sidx x i=>
  simp only [AH.wp] at h ⊢
  split at h
  ·rename_i str k j hx hi
   try simp only [hx,hi]
   obtain ⟨h1,b,h2,h3⟩:=h
   refine ⟨h1,b,h2,BF h3 rfl rfl fun env2 hl K2 hK2=>?_⟩
   simp only [AH.wp,hl.val (x:=x) (fun s h=>HY h),hl.val (x:=i) (fun s h=>G8 h),hx,hi]
   exact ⟨h1,b,h2,hK2⟩
  ·exact h.elim
 | boxs x=>
  simp only [AH.wp] at h ⊢
  split at h
  ·rename_i t hx
   try simp only [hx]
   refine BF h rfl rfl fun env2 hl K2 hK2=>?_
   simp only [AH.wp,hl.val (x:=x) (fun s h=>h),hx]
   exact hK2
  ·exact h.elim
 | boxo x=>
  simp only [AH.wp] at h ⊢
  split at h
  ·rename_i t d hx
   try simp only [hx]
   refine ⟨h.1,h.2,.none,rfl,trivial,by simp,by simp,(fun s he=>by cases he),fun _=>⟨rfl,fun d' hd=>?_⟩,by simp,fun env2 hl K2 hK2=>?_⟩
   ·simp only [zzY] at hd; subst hd; exact h.1
   ·simp only [AH.wp,hl.val (x:=x) (fun s h=>h),hx]
    exact ⟨hl.new rfl _ rfl h.1,hK2⟩
  ·exact h.elim
 | mm mx x y=>
  simp only [AH.wp] at h ⊢
  split at h
  ·rename_i k a k' b hx hy
   try simp only [hx,hy]
   refine ⟨h.1,BF h.2 rfl rfl fun env2 hl K2 hK2=>?_⟩
   simp only [AH.wp,hl.val (x:=x) (fun s h=>HY h),hl.val (x:=y) (fun s h=>G8 h),hx,hy]
   exact ⟨h.1,hK2⟩
  ·exact h.elim
 | alc cs=>
  simp only [AH.wp] at h ⊢
  split at h
  ·rename_i d
   refine ⟨h.1,h.2,.none,rfl,trivial,by simp,by simp,(fun s he=>by cases he),fun _=>⟨rfl,fun d' hd=>?_⟩,by simp,fun env2 hl K2 hK2=>?_⟩
   ·simp only [zzY] at hd; subst hd; exact h.1
   ·simp only [AH.wp]
    exact ⟨hl.new rfl _ rfl h.1,hK2⟩
  ·exact h.elim
 | st n x v=>cases hm
 | stb n s v=>cases hm
 | frz s=>cases hm
 | xal s=>
  simp only [AH.wp] at h ⊢
  split at h
  ·rename_i n es hs
   try simp only [hs]
   refine ⟨h,.none,rfl,trivial,by simp,by simp,?_,by simp [AH.isNew],by simp,fun env2 hl K2 hK2=>?_⟩
   ·intro s' he
    simp only [EV.ref,zzY] at he
    exact .inl (by simp [AH.bads,he])
   ·have h2:=(hl.sl s (by simp [AH.slots])).xo hs
    simp only [AH.wp,h2]
    exact hK2
  ·exact h.elim
 | xlen x=>
  simp only [AH.wp] at h ⊢
  cases hx:x.xlist env with
  | none=>rw [hx] at h; exact h.elim
  | some p=>
   rw [hx] at h
   simp only [A6] at h ⊢
   refine BF h rfl rfl fun env2 hl K2 hK2=>?_
   simp only [AH.wp,hl.xlist (x:=x) (fun s h=>h),hx,A6]
   exact hK2
 | lac x=>
  simp only [AH.wp] at h ⊢
  split at h
  ·rename_i s off hx
   split at h
   ·rename_i p hq
    try simp only [hx,hq]
    have hxs:∃ n∈x.sl,env.get n=.bp s off:=by
     cases x with
     | c t=>simp [AJ.ev] at hx
     | s n=>exact ⟨n,by simp [AJ.sl],hx⟩
    obtain ⟨n,hn,hb⟩:=hxs
    refine ⟨h,.none,rfl,trivial,by simp,by simp,?_,by simp [AH.isNew],by simp,fun env2 hl K2 hK2=>?_⟩
    ·intro s' he
     simp only [EV.ref,zzY] at he
     subst he
     exact .inr ⟨n,hn,by rw [hb]; rfl⟩
    ·have h1:=(hl.ev (x:=x) (fun s h=>h)).bp hx
     have h2:=(hl.bp n hn s (by rw [hb]; rfl)).xat (some off)
     rw [hq] at h2
     simp only [AH.wp,h1,h2]
     exact hK2
   ·exact h.elim
  ·exact h.elim
 | ctk _=>cases hm
 | cpt _ _=>cases hm
 | cut _ _ _=>cases hm
 | appz _ _ _ _=>cases hm
 | callf g xs=>
  simp only [AH.wp] at h ⊢
  cases hc:Go.Sf.vals env xs with
  | none=>rw [hc] at h; exact h.elim
  | some ts=>
   rw [hc] at h
   simp only [A6] at h ⊢
   obtain ⟨r,h1,h2⟩:=h
   refine ⟨r,h1,BF h2 rfl rfl fun env2 hl K2 hK2=>?_⟩
   simp only [AH.wp,hl.vals (xs:=xs) (fun s h=>h),hc,A6]
   exact ⟨r,h1,hK2⟩
 | callb _ _ _=>cases hm
 | calll g xs=>
  simp only [AH.wp] at h ⊢
  cases hc:Go.Sf.lvals env xs with
  | none=>rw [hc] at h; exact h.elim
  | some ts=>
   rw [hc] at h
   simp only [A6] at h ⊢
   obtain ⟨r,h1,h2⟩:=h
   refine ⟨r,h1,fun hw=>BF (h2 hw) rfl (by cases r <;> rfl) fun env2 hl K2 hK2=>?_⟩
   simp only [AH.wp,hl.lvals (xs:=xs) (fun s h=>h),hc,A6]
   exact ⟨r,h1,fun _=>hK2⟩
 | boxp ps x=>
  simp only [AH.wp] at h ⊢
  split at h
  ·rename_i t d hx
   try simp only [hx]
   cases hc:GI ps t.cells with
   | none=>rw [hc] at h; exact h.elim
   | some cs=>
    rw [hc] at h
    simp only [A6] at h ⊢
    refine ⟨h.1,h.2,.none,rfl,trivial,by simp,by simp,(fun s he=>by cases he),fun _=>⟨rfl,fun d' hd=>?_⟩,by simp,fun env2 hl K2 hK2=>?_⟩
    ·simp only [zzY] at hd; subst hd; exact h.1
    ·simp only [AH.wp,hl.val (x:=x) (fun s h=>h),hx,hc,A6]
     exact ⟨hl.new rfl _ rfl h.1,hK2⟩
  ·exact h.elim
 | xia x i n=>
  simp only [AH.wp] at h ⊢
  cases hx:x.xlist env with
  | none=>rw [hx] at h; exact h.elim
  | some p=>
   rw [hx] at h
   simp only [A6] at h ⊢
   split at h
   ·rename_i ik j hj
    try simp only [hj]
    obtain ⟨⟨h1,h2⟩,h3,h4,h5⟩:=h
    have hxs:∃ n∈x.sl,(env.get n).ref=some p.1.1:=by
     cases x with
     | c t=>simp [AJ.ev,EV.ref] at h1
     | s n=>exact ⟨n,by simp [AJ.sl],h1⟩
    obtain ⟨m,hm',hr⟩:=hxs
    refine ⟨⟨h1,h2⟩,h3,h4,h5,.none,rfl,trivial,by simp,by simp,?_,by simp [AH.isNew],by simp,fun env2 hl K2 hK2=>?_⟩
    ·intro s' he
     simp only [EV.ref,zzY] at he
     subst he
     exact .inr ⟨m,HY hm',hr⟩
    ·have e1:=hl.xlist (x:=x) (fun s h=>HY h)
     have e2:=hl.val (x:=i) (fun s h=>G8 h)
     have e3:=(hl.ev (x:=x) (fun s h=>HY h)).ref
     simp only [AH.wp,e1,hx,e2,hj,A6,e3,h1]
     exact ⟨⟨trivial,h2⟩,h3,h4,hK2⟩
   ·exact h.elim
 | xfa x k=>
  simp only [AH.wp] at h ⊢
  split at h
  ·rename_i q i c hx
   split at h
   ·rename_i p hq
    try simp only [hx,hq]
    have hxs:∃ n∈x.sl,env.get n=.lp q i c:=by
     cases x with
     | c t=>simp [AJ.ev] at hx
     | s n=>exact ⟨n,by simp [AJ.sl],hx⟩
    obtain ⟨n,hn,hb⟩:=hxs
    refine ⟨h,.none,rfl,trivial,by simp,by simp,?_,by simp [AH.isNew],by simp,fun env2 hl K2 hK2=>?_⟩
    ·intro s' he
     simp only [EV.ref,zzY] at he
     subst he
     exact .inr ⟨n,hn,by rw [hb]; rfl⟩
    ·have h1:=(hl.ev (x:=x) (fun s h=>h)).of_ref (q:=q) (by rw [hx]; rfl)
     have h2:=(hl.bp n hn q (by rw [hb]; rfl)).xat i
     rw [hq] at h2
     simp only [AH.wp,h1,hx,h2]
     exact hK2
   ·exact h.elim
  ·exact h.elim
 | xld x=>
  simp only [AH.wp] at h ⊢
  split at h
  ·rename_i q i c hx
   split at h
   ·rename_i p hq
    try simp only [hx,hq]
    cases hc:(p.2.flatMap TV.cells)[c]? with
    | none=>rw [hc] at h; exact h.elim
    | some t=>
     rw [hc] at h
     simp only [A6] at h ⊢
     have hxs:∃ n∈x.sl,env.get n=.lp q i c:=by
      cases x with
      | c t=>simp [AJ.ev] at hx
      | s n=>exact ⟨n,by simp [AJ.sl],hx⟩
     obtain ⟨n,hn,hb⟩:=hxs
     refine BF h rfl rfl fun env2 hl K2 hK2=>?_
     have h1:=(hl.ev (x:=x) (fun s h=>h)).of_ref (q:=q) (by rw [hx]; rfl)
     have h2:=(hl.bp n hn q (by rw [hb]; rfl)).xat i
     rw [hq] at h2
     simp only [AH.wp,h1,hx,h2,hc,A6]
     exact hK2
   ·exact h.elim
  ·exact h.elim
 | xst _ _=>cases hm
 | rel _=>cases hm
 | nilx _=>cases hm
 | tkx _=>cases hm
 | appx _ _ _=>cases hm
 | callx g xs=>
  simp only [AH.wp] at h ⊢
  split at h
  ·rename_i d
   obtain ⟨hno,h⟩:=h
   refine ⟨hno,?_⟩
   cases hc:Go.Sf.vals env xs with
   | none=>rw [hc] at h; exact h.elim
   | some ts=>
    rw [hc] at h
    simp only [A6] at h ⊢
    obtain ⟨n,es,h1,h2⟩:=h
    refine ⟨n,es,h1,fun hw=>⟨h2 hw,.none,rfl,trivial,by simp,by simp,(fun s he=>by cases he),fun _=>⟨rfl,fun d' hd=>?_⟩,by simp,fun env2 hl K2 hK2=>?_⟩⟩
    ·simp only [zzY] at hd; subst hd; exact hno
    ·simp only [AH.wp,hl.vals (xs:=xs) (fun s h=>h),hc,A6]
     exact ⟨hl.new rfl _ rfl hno,n,es,h1,fun _=>hK2⟩
  ·exact h.elim
 | mkx n z x=>
  simp only [AH.wp] at h ⊢
  split at h
  ·rename_i d k j hx
   try simp only [hx]
   obtain ⟨hno,h1,h2,h3⟩:=h
   refine ⟨hno,h1,h2,h3,.none,rfl,trivial,by simp,by simp,(fun s he=>by cases he),fun _=>⟨rfl,fun d' hd=>?_⟩,by simp,fun env2 hl K2 hK2=>?_⟩
   ·simp only [zzY] at hd; subst hd; exact hno
   ·simp only [AH.wp,hl.val (x:=x) (fun s h=>h),hx]
    exact ⟨hl.new rfl _ rfl hno,h1,h2,hK2⟩
  ·exact h.elim
 | callm _ _=>cases hm
 | callc _ _=>cases hm
 | bldg _=>cases hm
 | lstz _=>cases hm
 | stx _ _ _=>cases hm
 | isn _=>cases hm
 | callg g xs=>
  simp only [AH.wp] at h ⊢
  cases hc:Go.Sf.vals env xs with
  | none=>rw [hc] at h; exact h.elim
  | some ts=>
   rw [hc] at h
   simp only [A6] at h ⊢
   obtain ⟨r,h1,h2⟩:=h
   refine ⟨r,h1,fun hw=>BF (h2 hw) rfl rfl fun env2 hl K2 hK2=>?_⟩
   simp only [AH.wp,hl.vals (xs:=xs) (fun s h=>h),hc,A6]
   exact ⟨r,h1,fun _=>hK2⟩
 | fldv x k n agg=>
  simp only [AH.wp] at h ⊢
  split at h
  ·rename_i cs hx
   try simp only [hx]
   obtain ⟨h1,h2⟩:=h
   refine ⟨h1,?_⟩
   cases agg with
   | true=>
    simp only [if_true] at h2 ⊢
    refine BF h2 rfl rfl fun env2 hl K2 hK2=>?_
    simp only [AH.wp,hl.val (x:=x) (fun s h=>h),hx,if_true]
    exact ⟨h1,hK2⟩
   | false=>
    simp only [Bool.false_eq_true,if_false] at h2 ⊢
    cases hc:HM (cs.drop k) with
    | none=>rw [hc] at h2; exact h2.elim
    | some t=>
     rw [hc] at h2
     simp only [A6] at h2 ⊢
     refine BF h2 rfl rfl fun env2 hl K2 hK2=>?_
     simp only [AH.wp,hl.val (x:=x) (fun s h=>h),hx,Bool.false_eq_true,if_false,hc,A6]
     exact ⟨h1,hK2⟩
  ·exact h.elim
end
end Go.Sf
