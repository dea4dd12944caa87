/- What an operation leans on: the slots that it reads, whether or not they own their lists. -/
import Derived.Test.YtmaobfbhdkafkaaGreatSfCode
namespace Go.Sf
theorem bP {cs ds:List AT} (h:ds.map AT.key=cs.map AT.key):ds.map (·.t)=cs.map (·.t):=by
 have:=congrArg (List.map Prod.fst) h
 simpa [List.map_map,Function.comp_def,AT.key] using this
def WC (p:TV × Bool):TV:=match p with
 | (.xl n es,true)=>.list n es
 | p=>p.1
theorem Ua {cs ds:List AT} (h:ds.map AT.key=cs.map AT.key):ds.map AT.lent=cs.map AT.lent:=by
 have h1:∀ c:AT,c.lent=WC c.key:=by
  rintro ⟨_ | _,t⟩ <;> cases t <;> rfl
 have:=congrArg (List.map WC) h
 simpa [List.map_map,Function.comp_def,←h1] using this
def l9 (p:TV × Bool):Option (Nat × List TV):=match p with
 | (.xl n es,true)=>some (n,es)
 | _=>none
theorem fJ {cs ds:List AT} (h:ds.map AT.key=cs.map AT.key) (k:Nat):(match ds[k]? with
  | some ⟨true,.xl n es⟩=>some (n,es)
  | _=>none)=(match cs[k]? with
  | some ⟨true,.xl n es⟩=>some (n,es)
  | _=>none):=by
 have h1:∀ o:Option AT,(match o with
  | some ⟨true,.xl n es⟩=>some (n,es)
  | _=>none)=(o.map AT.key).bind l9:=by
  rintro (_ | ⟨_ | _,t⟩)
  ·rfl
  ·cases t <;> rfl
  ·cases t <;> rfl
 rw [h1,h1]
 have:=congrArg (fun l=>l[k]?) h
 simp only [List.getElem?_map] at this
 rw [this]
def EV.like (e e2:EV):Prop:=
 e2=e∨(∃ n es,(e=.tv (.list n es)∧e2=.ow (.list n es))∨(e=.ow (.list n es)∧e2=.tv (.list n es)))∨∃ cs ds,e=.bx cs∧e2=.bx ds∧ds.map AT.key=cs.map AT.key
theorem EV.like.symm {e e2:EV} (h:e.like e2):e2.like e:=by
 rcases h with rfl | ⟨n,es,⟨rfl,rfl⟩ | ⟨rfl,rfl⟩⟩ | ⟨cs,ds,rfl,rfl,h⟩
 ·exact .inl rfl
 ·exact .inr (.inl ⟨n,es,.inr ⟨rfl,rfl⟩⟩)
 ·exact .inr (.inl ⟨n,es,.inl ⟨rfl,rfl⟩⟩)
 ·exact .inr (.inr ⟨ds,cs,rfl,rfl,h.symm⟩)
theorem EV.like.ref {e e2:EV} (h:e.like e2):e2.ref=e.ref:=by
 rcases h with rfl | ⟨n,es,⟨rfl,rfl⟩ | ⟨rfl,rfl⟩⟩ | ⟨cs,ds,rfl,rfl,h⟩ <;> rfl
theorem EV.like.of_ref {e e2:EV} (h:e.like e2) {q:Nat} (hr:e.ref=some q):e2=e:=by
 rcases h with rfl | ⟨n,es,⟨rfl,rfl⟩ | ⟨rfl,rfl⟩⟩ | ⟨cs,ds,rfl,rfl,h⟩
 ·rfl
 ·cases hr
 ·cases hr
 ·cases hr
theorem EV.like.xo {e e2:EV} (h:e.like e2) {n:Nat} {es:List TV} (he:e=.xo n es):e2=.xo n es:=by
 subst he
 rcases h with rfl | ⟨n,es,⟨h,_⟩ | ⟨h,_⟩⟩ | ⟨cs,ds,h,_⟩
 ·rfl
 ·cases h
 ·cases h
 ·cases h
theorem EV.like.val {e e2:EV} (h:e.like e2):e2.val=e.val:=by
 rcases h with rfl | ⟨n,es,⟨rfl,rfl⟩ | ⟨rfl,rfl⟩⟩ | ⟨cs,ds,rfl,rfl,h⟩ <;> rfl
theorem EV.like.pt {e e2:EV} (h:e.like e2) {row:List TV} (he:e=.tv (.pt row)):e2=.tv (.pt row):=by
 subst he
 rcases h with rfl | ⟨n,es,⟨h,rfl⟩ | ⟨h,rfl⟩⟩ | ⟨cs,ds,h,rfl,h'⟩
 ·rfl
 ·simp at h
 ·cases h
 ·cases h
theorem EV.like.bp {e e2:EV} (h:e.like e2) {q off:Nat} (he:e=.bp q off):e2=.bp q off:=by
 subst he
 rcases h with rfl | ⟨n,es,⟨h,rfl⟩ | ⟨h,rfl⟩⟩ | ⟨cs,ds,h,rfl,h'⟩
 ·rfl
 ·cases h
 ·cases h
 ·cases h
theorem EV.like.tp {e e2:EV} (h:e.like e2) {ts:List TV} (he:e=.tp ts):e2=.tp ts:=by
 subst he
 rcases h with rfl | ⟨n,es,⟨h,rfl⟩ | ⟨h,rfl⟩⟩ | ⟨cs,ds,h,rfl,h'⟩
 ·rfl
 ·cases h
 ·cases h
 ·cases h
theorem EV.like.bx {e e2:EV} (h:e.like e2) {cs:List AT} (he:e=.bx cs):∃ ds,e2=.bx ds∧ds.map AT.key=cs.map AT.key:=by
 subst he
 rcases h with rfl | ⟨n,es,⟨h,rfl⟩ | ⟨h,rfl⟩⟩ | ⟨cs',ds,h,rfl,h'⟩
 ·exact ⟨cs,rfl,rfl⟩
 ·cases h
 ·cases h
 ·simp only [EV.bx.injEq] at h; subst h; exact ⟨ds,rfl,h'⟩
def AE.sl:AE->List Nat
 | .s n=>[n]
 | .c _=>[]
def SJ:Option AE->List Nat
 | some x=>x.sl
 | none=>[]
def IZ:List AE->List Nat
 | []=>[]
 | x::xs=>x.sl++IZ xs
def Q4:List (Nat × Nat × AE)->List Nat
 | []=>[]
 | x::xs=>x.2.2.sl++Q4 xs
def AD.slots:AD->List Nat
 | .mv x=>x.sl
 | .tk s=>[s]
 | .nilo _=>[]
 | .fad x _=>x.sl
 | .bad s _=>[s]
 | .iad x i _=>x.sl++i.sl
 | .aad x i _ _=>x.sl++i.sl
 | .ld x=>x.sl
 | .lda x _=>x.sl
 | .ldt x=>x.sl
 | .bin _ _ x y=>x.sl++y.sl
 | .not x=>x.sl
 | .neg x=>x.sl
 | .pick c a b=>c.sl++(a.sl++b.sl)
 | .len x=>x.sl
 | .slen x=>x.sl
 | .slc _ x lo hi=>x.sl++(SJ lo++SJ hi)
 | .sslc x lo hi=>x.sl++(SJ lo++SJ hi)
 | .bld _ ps=>Q4 ps
 | .lst _ ps=>IZ ps
 | .app _ x y=>x.sl++y.sl
 | .call _ xs=>IZ xs
 | .callv x xs=>x.sl++IZ xs
 | .clo _ xs=>IZ xs
 | .ext x _=>x.sl
 | .cvt _ x=>x.sl
 | .sidx x i=>x.sl++i.sl
 | .boxs x=>x.sl
 | .boxo x=>x.sl
 | .mm _ x y=>x.sl++y.sl
 | .alc _=>[]
 | .st _ x v=>x.sl++v.sl
 | .stb _ s v=>s::v.sl
 | .frz s=>[s]
 | .fldv x _ _ _=>x.sl
 | .xal s=>[s]
 | .xlen x=>x.sl
 | .xia x i _=>x.sl++i.sl
 | .xfa x _=>x.sl
 | .xld x=>x.sl
 | .xst x v=>x.sl++v.sl
 | .rel s=>[s]
 | .nilx _=>[]
 | .lstz _=>[]
 | .tkx s=>[s]
 | .appx _ s y=>s::y.sl
 | .callx _ xs=>IZ xs
 | .mkx _ _ x=>x.sl
 | .callm _ x=>x.sl
 | .callc _ x=>x.sl
 | .bldg gs=>gs.flatMap GC.sl
 | .stx _ s q=>[s,q]
 | .callg _ xs=>IZ xs
 | .isn x=>x.sl
 | .lac x=>x.sl
 | .ctk x=>x.sl
 | .cpt x q=>x.sl++[q]
 | .cut _ s hi=>s::hi.sl
 | .calll _ xs=>IZ xs
 | .boxp _ x=>x.sl
 | .appz _ s _ x=>s::x.sl
 | .callf _ xs=>IZ xs
 | .callb _ xs _=>IZ xs
def AD.dem:AD->List Nat
 | .tk s=>[s]
 | .app _ x _=>x.sl
 | _=>[]
def AD.mov:AD->Bool
 | .st ..=>false
 | .stb ..=>false
 | .frz _=>false
 | .xst ..=>false
 | .rel _=>false
 | .nilx _=>false
 | .lstz _=>false
 | .tkx _=>false
 | .appx ..=>false
 | .callm ..=>false
 | .callc ..=>false
 | .bldg _=>false
 | .stx ..=>false
 | .isn _=>false
 | .ctk _=>false
 | .cpt ..=>false
 | .cut ..=>false
 | .appz ..=>false
 | .callb ..=>false
 | _=>true
def AD.isNew:AD->Bool
 | .alc _=>true
 | .boxo _=>true
 | .boxp ..=>true
 | .callx ..=>true
 | .mkx ..=>true
 | _=>false
def AD.bads:AD->List Nat
 | .bad s _=>[s]
 | .xal s=>[s]
 | _=>[]
inductive BO where
 | none
 | slot (s:Nat) (t:TV)
 | cell (s off:Nat) (t:TV)
def BO.app:BO->AC->AC
 | .none,env=>env
 | .slot s t,env=>(s,.tv t)::env
 | .cell s off t,env=>match env.get s with
  | .bx cs=>(s,.bx (cs.set off ⟨false,t⟩))::env
  | _=>env
def BO.ok:BO->AC->Prop
 | .none,_=>True
 | .slot s t,env=>env.get s=.ow t
 | .cell s off t,env=>∃ cs,env.get s=.bx cs∧cs[off]?=some ⟨true,t⟩
structure FC (op:AD) (f:BO) (dst:Option Nat) (env env2:AC):Prop where
 sl:∀ s∈op.slots,(env.get s).like (env2.get s)
 bp:∀ s∈op.slots,∀ q,(env.get s).ref=some q->(env.get q).like (env2.get q)
 dem:∀ s∈op.dem,(∀ cs,env.get s≠.bx cs)->env2.get s=env.get s
 eff:f.ok env2
 new:op.isNew=true->∀ d,dst=some d->env.noRef d=true->env2.noRef d=true
section
variable {op:AD} {f:BO} {dst:Option Nat} {env env2:AC}
theorem FC.val (h:FC op f dst env env2) {x:AE} (hs:∀ s∈x.sl,s∈op.slots):x.val env2=x.val env:=by
 cases x with
 | c t=>rfl
 | s n=>exact (h.sl n (hs n (by simp [AE.sl]))).val
theorem FC.ev (h:FC op f dst env env2) {x:AE} (hs:∀ s∈x.sl,s∈op.slots):(x.ev env).like (x.ev env2):=by
 cases x with
 | c t=>exact .inl rfl
 | s n=>exact h.sl n (hs n (by simp [AE.sl]))
theorem FC.vals (h:FC op f dst env env2):∀ {xs:List AE},(∀ s∈IZ xs,s∈op.slots)->Go.Sf.vals env2 xs=Go.Sf.vals env xs
 | [],_=>rfl
 | x::xs,hs=>by
  simp only [IZ,List.mem_append] at hs
  simp only [Go.Sf.vals,h.val (x:=x) (fun s hx=>hs s (.inl hx)),h.vals (xs:=xs) (fun s hx=>hs s (.inr hx))]
theorem FC.parts (h:FC op f dst env env2):∀ {xs:List (Nat × Nat × AE)},(∀ s∈Q4 xs,s∈op.slots)->Hz env2 xs=Hz env xs
 | [],_=>rfl
 | (i,n,x)::xs,hs=>by
  simp only [Q4,List.mem_append] at hs
  simp only [Hz,h.val (x:=x) (fun s hx=>hs s (.inl hx)),h.parts (xs:=xs) (fun s hx=>hs s (.inr hx))]
theorem FC.bnd (h:FC op f dst env env2) {x:Option AE} {k:Int} (hs:∀ s∈SJ x,s∈op.slots):F1 env2 k x=F1 env k x:=by
 cases x with
 | none=>rfl
 | some x=>exact h.val hs
theorem FC.addr (h:FC op f dst env env2) {x:AE} (hs:∀ s∈x.sl,s∈op.slots):BJ env2 (x.ev env2)=BJ env (x.ev env):=by
 cases x with
 | c t=>cases t <;> rfl
 | s n=>
  have hn:=hs n (by simp [AE.sl])
  have hl:=h.sl n hn
  have hb:=h.bp n hn
  simp only [AE.ev]
  generalize env.get n=e at hl hb
  generalize env2.get n=e2 at hl
  rcases hl with rfl | ⟨n,es,⟨rfl,rfl⟩ | ⟨rfl,rfl⟩⟩ | ⟨cs,ds,rfl,rfl,h2⟩
  ·cases e2 with
   | bp q off=>
    have hq:=hb q rfl
    simp only [BJ]
    generalize env.get q=e1 at hq
    generalize env2.get q=e2 at hq
    rcases hq with rfl | ⟨n,es,⟨rfl,rfl⟩ | ⟨rfl,rfl⟩⟩ | ⟨cs,ds,rfl,rfl,h2⟩
    ·rfl
    ·rfl
    ·rfl
    ·simp only [List.map_drop,bP h2]
   | tv t=>cases t <;> rfl
   | _=>rfl
  ·rfl
  ·rfl
  ·simp only [BJ,bP h2]
theorem FC.place (h:FC op f dst env env2) {x:AE} (hs:∀ s∈x.sl,s∈op.slots):x.place env2=x.place env:=by
 cases x with
 | c t=>rfl
 | s n=>
  have hl:=h.sl n (hs n (by simp [AE.sl]))
  simp only [AE.place]
  rcases hl with h1 | ⟨n,es,⟨h1,h2⟩ | ⟨h1,h2⟩⟩ | ⟨cs,ds,h1,h2,_⟩
  ·rw [h1]
  ·rw [h1,h2]
  ·rw [h1,h2]
  ·rw [h1,h2]
theorem EV.like.xat {env env2:AC} {q:Nat} (h:(env.get q).like (env2.get q)) (i:Option Nat):env2.xat q i=env.xat q i:=by
 rcases h with h1 | ⟨n,es,⟨h1,h2⟩ | ⟨h1,h2⟩⟩ | ⟨cs,ds,h1,h2,h3⟩
 ·exact AC.xat_of h1
 ·cases i <;> simp only [AC.xat,h1,h2]
 ·cases i <;> simp only [AC.xat,h1,h2]
 ·cases i with
  | none=>simp only [AC.xat,h1,h2]
  | some k=>simp only [AC.xat,h1,h2]; exact fJ h3 k
theorem FC.xlist (h:FC op f dst env env2) {x:AE} (hs:∀ s∈x.sl,s∈op.slots):x.xlist env2=x.xlist env:=by
 cases x with
 | c t=>rfl
 | s n=>
  have hn:=hs n (by simp [AE.sl])
  have hl:=h.sl n hn
  have hb:=h.bp n hn
  simp only [AE.xlist]
  rcases hl with h1 | ⟨m,es,⟨h1,h2⟩ | ⟨h1,h2⟩⟩ | ⟨cs,ds,h1,h2,_⟩
  ·rw [h1]
   cases he:env.get n with
   | la q i=>simp only [(hb q (by rw [he]; rfl)).xat i]
   | _=>rfl
  ·rw [h1,h2]
  ·rw [h1,h2]
  ·rw [h1,h2]
theorem FC.lval (h:FC op f dst env env2) {x:AE} (hs:∀ s∈x.sl,s∈op.slots):x.lval env2=x.lval env:=by
 unfold AE.lval
 rw [h.xlist hs]
 cases x.xlist env with
 | some p=>rfl
 | none=>
  cases x with
  | c t=>cases t <;> rfl
  | s n=>
   have hn:=hs n (by simp [AE.sl])
   have hl:=h.sl n hn
   have hb:=h.bp n hn
   simp only [AE.ev]
   rcases hl with h1 | ⟨m,es,⟨h1,h2⟩ | ⟨h1,h2⟩⟩ | ⟨cs,ds,h1,h2,h3⟩
   ·rw [h1]
    cases he:env.get n with
    | bp q off=>
     have hq:=hb q (by rw [he]; rfl)
     simp only
     rcases hq with k1 | ⟨m,es,⟨k1,k2⟩ | ⟨k1,k2⟩⟩ | ⟨cs,ds,k1,k2,k3⟩
     ·rw [k1]
     ·rw [k1,k2]
     ·rw [k1,k2]
     ·rw [k1,k2]
      have:=Ua k3
      simp only [List.map_drop,this]
    | _=>rfl
   ·rw [h1,h2]; rfl
   ·rw [h1,h2]; rfl
   ·rw [h1,h2]
    simp only [Ua h3]
theorem FC.lvals (h:FC op f dst env env2):∀ {xs:List AE},(∀ s∈IZ xs,s∈op.slots)->Go.Sf.lvals env2 xs=Go.Sf.lvals env xs
 | [],_=>rfl
 | x::xs,hs=>by
  simp only [IZ,List.mem_append] at hs
  simp only [Go.Sf.lvals,h.lval (x:=x) (fun s hx=>hs s (.inl hx)),h.lvals (xs:=xs) (fun s hx=>hs s (.inr hx))]
end
structure Xo (S:FuncId->List TV->B5->Prop) (op:AD) (dst:Option Nat) (env:AC) (e:EV) (env':AC) (f:BO):Prop where
 env':env'=f.app env
 ok:f.ok env
 slot:∀ s t,f=.slot s t->s∈op.dem
 cell:∀ s off t,f=.cell s off t->(s∈op.slots∨∃ x∈op.slots,(env.get x).ref=some s)
 ref:∀ s,e.ref=some s->(s∈op.bads∨∃ x∈op.slots,(env.get x).ref=some s)
 new:op.isNew=true->e.ref=none∧∀ d,dst=some d->env.noRef d=true
 xl:∀ s off t,f=.cell s off t->t.isXl=false
 again:∀ env2,FC op f dst env env2->∀ K2:EV->AC->Prop,K2 e (f.app env2)->op.wp S env2 dst K2
section
variable {S:FuncId->List TV->B5->Prop} {op:AD} {dst:Option Nat} {env:AC} {K:EV->AC->Prop}
theorem A6 {e:EV} (hK:K e env) (hn:op.isNew=false) (hr:e.ref=none) (h:∀ env2,FC op .none dst env env2->∀ K2:EV->AC->Prop,K2 e env2->op.wp S env2 dst K2):K e env∧∃ f,Xo S op dst env e env f:=
 ⟨hK,.none,rfl,trivial,by simp,by simp,(fun s he=>by rw [hr] at he; cases he),by simp [hn],by simp,h⟩
theorem GZ {α:Type} {x:α} {l m:List α} (h:x∈m):x∈l++m:=List.mem_append_right _ h
theorem HI {α:Type} {x:α} {l m:List α} (h:x∈l):x∈l++m:=List.mem_append_left _ h
theorem frame (hm:op.mov=true) (h:op.wp S env dst K):op.wp S env dst fun e env'=>K e env'∧∃ f,Xo S op dst env e env' f:=by
 cases op with
 | mv x=>
  simp only [AD.wp] at h ⊢
  have key:∀ t,(x.ev env).val=some t->∀ env2,FC (.mv x) .none dst env env2->∀ K2:EV->AC->Prop,K2 (.tv t) env2->(AD.mv x).wp S env2 dst K2:=by
   intro t ht env2 hl K2 hK2
   have hv:=hl.val (x:=x) (fun s h=>h)
   simp only [AE.val] at hv
   rw [ht] at hv
   simp only [AD.wp]
   cases he:x.ev env2 <;> rw [he] at hv <;> simp [EV.val] at hv <;> subst hv <;> exact hK2
  split at h
  ·rename_i t hx
   try simp only [hx]
   exact A6 h rfl rfl (key t (by rw [hx]; rfl))
  ·rename_i t hx
   try simp only [hx]
   exact A6 h rfl rfl (key t (by rw [hx]; rfl))
  ·rename_i ts hx
   try simp only [hx]
   refine A6 h rfl rfl fun env2 hl K2 hK2=>?_
   cases x with
   | c t=>simp [AE.ev] at hx
   | s n=>
    simp only [AE.ev] at hx
    have h2:env2.get n=.tp ts:=(hl.sl n (by simp [AD.slots,AE.sl])).tp hx
    simp only [AD.wp,AE.ev,h2]
    exact hK2
  ·exact h.elim
 | tk s=>
  simp only [AD.wp] at h ⊢
  split at h
  ·rename_i t hs
   try simp only [hs]
   refine ⟨h,.slot s t,rfl,hs,?_,by simp,(fun s he=>by cases he),by simp [AD.isNew],by simp,fun env2 hl K2 hK2=>?_⟩
   ·intro s' t' he
    simp only [BO.slot.injEq] at he
    simp [AD.dem,he.1]
   ·have:=hl.eff
    simp only [BO.ok] at this
    simp only [AD.wp,this]
    exact hK2
  ·rename_i t hs
   try simp only [hs]
   refine A6 h rfl rfl fun env2 hl K2 hK2=>?_
   have:=hl.dem s (by simp [AD.dem]) (by simp [hs])
   simp only [AD.wp,this,hs]
   exact hK2
  ·exact h.elim
 | nilo n=>exact A6 h rfl rfl fun env2 hl K2 hK2=>hK2
 | fad x k=>
  simp only [AD.wp] at h ⊢
  split at h
  ·rename_i row hx
   try simp only [hx]
   refine A6 h rfl rfl fun env2 hl K2 hK2=>?_
   have:=(hl.ev (x:=x) (fun s h=>h)).pt hx
   simp only [AD.wp,this]
   exact hK2
  ·rename_i s off hx
   split at h
   ·rename_i cs hs
    try simp only [hx,hs]
    have hxs:∃ n∈x.sl,env.get n=.bp s off:=by
     cases x with
     | c t=>simp [AE.ev] at hx
     | s n=>exact ⟨n,by simp [AE.sl],hx⟩
    obtain ⟨n,hn,hb⟩:=hxs
    refine ⟨h,.none,rfl,trivial,by simp,by simp,?_,by simp [AD.isNew],by simp,fun env2 hl K2 hK2=>?_⟩
    ·intro s' he
     simp only [EV.ref,zzY] at he
     subst he
     exact .inr ⟨n,hn,by rw [hb]; rfl⟩
    ·have h1:=(hl.ev (x:=x) (fun s h=>h)).bp hx
     have h2:=hl.bp n hn s (by rw [hb]; rfl)
     rw [hs] at h2
     obtain ⟨ds,h3,_⟩:=h2.bx rfl
     simp only [AD.wp,h1,h3]
     exact hK2
   ·exact h.elim
  ·exact h.elim
 | bad s k=>
  simp only [AD.wp] at h ⊢
  split at h
  ·rename_i cs hs
   try simp only [hs]
   refine ⟨h,.none,rfl,trivial,by simp,by simp,?_,by simp [AD.isNew],by simp,fun env2 hl K2 hK2=>?_⟩
   ·intro s' he
    simp only [EV.ref,zzY] at he
    exact .inl (by simp [AD.bads,he])
   ·have h2:=hl.sl s (by simp [AD.slots])
    rw [hs] at h2
    obtain ⟨ds,h3,_⟩:=h2.bx rfl
    simp only [AD.wp,h3]
    exact hK2
  ·rename_i row hs
   try simp only [hs]
   refine A6 h rfl rfl fun env2 hl K2 hK2=>?_
   have:=(hl.sl s (by simp [AD.slots])).pt hs
   simp only [AD.wp,this]
   exact hK2
  ·exact h.elim
 | iad x i n=>
  simp only [AD.wp] at h ⊢
  split at h
  ·rename_i m es k j hx hi
   try simp only [hx,hi]
   obtain ⟨h1,h2,e,h3,h4⟩:=h
   refine ⟨h1,h2,e,h3,A6 h4 rfl rfl fun env2 hl K2 hK2=>?_⟩
   simp only [AD.wp,hl.val (x:=x) (fun s h=>HI h),hl.val (x:=i) (fun s h=>GZ h),hx,hi]
   exact ⟨h1,h2,e,h3,hK2⟩
  ·exact h.elim
 | aad x i n k=>
  simp only [AD.wp] at h ⊢
  split at h
  ·rename_i row kk j hx hi
   try simp only [hx,hi]
   obtain ⟨h1,h2,h3,h4⟩:=h
   refine ⟨h1,h2,h3,A6 h4 rfl rfl fun env2 hl K2 hK2=>?_⟩
   have:=(hl.ev (x:=x) (fun s h=>HI h)).pt hx
   simp only [AD.wp,this,hl.val (x:=i) (fun s h=>GZ h),hi]
   exact ⟨h1,h2,h3,hK2⟩
  ·exact h.elim
 | ld x=>
  simp only [AD.wp] at h ⊢
  cases hc:BJ env (x.ev env) with
  | none=>rw [hc] at h; exact h.elim
  | some cs=>
   rw [hc] at h
   simp only [A0] at h ⊢
   cases hf:G6 cs with
   | none=>rw [hf] at h; exact h.elim
   | some t=>
    rw [hf] at h
    refine ⟨h.1,A6 h.2 rfl rfl fun env2 hl K2 hK2=>?_⟩
    simp only [AD.wp,hl.addr (x:=x) (fun s h=>h),hc,A0,hf]
    exact ⟨h.1,hK2⟩
 | lda x n=>
  simp only [AD.wp] at h ⊢
  cases hc:BJ env (x.ev env) with
  | none=>rw [hc] at h; exact h.elim
  | some cs=>
   rw [hc] at h
   simp only [A0] at h ⊢
   refine ⟨h.1,A6 h.2 rfl rfl fun env2 hl K2 hK2=>?_⟩
   simp only [AD.wp,hl.addr (x:=x) (fun s h=>h),hc,A0]
   exact ⟨h.1,hK2⟩
 | ldt x=>
  simp only [AD.wp] at h ⊢
  split at h
  ·rename_i s off hp
   split at h
   ·rename_i cs hs
    split at h
    ·rename_i n es hc
     try simp only [hp,hs,hc]
     refine ⟨h,.cell s off (.list n es),by simp [BO.app,hs],⟨cs,hs,hc⟩,by simp,?_,(fun s he=>by cases he),by simp [AD.isNew],(fun s off t he=>by cases he; rfl),fun env2 hl K2 hK2=>?_⟩
     ·intro s' off' t' he
      simp only [BO.cell.injEq] at he
      obtain ⟨rfl,rfl,rfl⟩:=he
      cases x with
      | c t=>simp [AE.place] at hp
      | s n=>
       simp only [AE.place] at hp
       split at hp
       ·rename_i q o hq
        simp only [zzY,Prod.mk.injEq] at hp
        exact .inr ⟨n,by simp [AD.slots,AE.sl],by rw [hq,hp.1]; rfl⟩
       ·simp only [zzY,Prod.mk.injEq] at hp
        exact .inl (by simp [AD.slots,AE.sl,hp.1])
       ·cases hp
     ·obtain ⟨ds,h1,h2⟩:=hl.eff
      simp only [BO.app,h1] at hK2
      simp only [AD.wp,hl.place (x:=x) (fun s h=>h),hp,h1,h2]
      exact hK2
    ·exact h.elim
   ·exact h.elim
  ·exact h.elim
 | bin k op x y=>
  simp only [AD.wp] at h ⊢
  split at h
  ·rename_i a b hx hy
   try simp only [hx,hy]
   cases hb:EX k op a b with
   | none=>rw [hb] at h; exact h.elim
   | some t=>
    rw [hb] at h
    refine A6 h rfl rfl fun env2 hl K2 hK2=>?_
    simp only [AD.wp,hl.val (x:=x) (fun s h=>HI h),hl.val (x:=y) (fun s h=>GZ h),hx,hy,hb,A0]
    exact hK2
  ·exact h.elim
 | not x=>
  simp only [AD.wp] at h ⊢
  split at h
  ·rename_i b hx
   try simp only [hx]
   refine A6 h rfl rfl fun env2 hl K2 hK2=>?_
   simp only [AD.wp,hl.val (x:=x) (fun s h=>h),hx]
   exact hK2
  ·exact h.elim
 | neg x=>
  simp only [AD.wp] at h ⊢
  split at h
  ·rename_i k n hx
   try simp only [hx]
   refine A6 h rfl rfl fun env2 hl K2 hK2=>?_
   simp only [AD.wp,hl.val (x:=x) (fun s h=>h),hx]
   exact hK2
  ·exact h.elim
 | pick c a b=>
  simp only [AD.wp] at h ⊢
  split at h
  ·rename_i q hc
   try simp only [hc]
   have key:∀ t,((if q=true then a else b).ev env).val=some t->∀ env2,FC (.pick c a b) .none dst env env2->∀ K2:EV->AC->Prop,K2 (.tv t) env2->(AD.pick c a b).wp S env2 dst K2:=by
    intro t ht env2 hl K2 hK2
    have hv:=hl.val (x:=if q=true then a else b) (fun s h=>by
     cases q
     ·exact GZ (GZ h)
     ·exact GZ (HI h))
    simp only [AE.val] at hv
    rw [ht] at hv
    simp only [AD.wp,hl.val (x:=c) (fun s h=>HI h),hc]
    cases he:(if q=true then a else b).ev env2 <;> rw [he] at hv <;> simp [EV.val] at hv <;> subst hv <;> exact hK2
   split at h
   ·rename_i t hx
    try simp only [hx]
    exact A6 h rfl rfl (key t (by rw [hx]; rfl))
   ·rename_i t hx
    try simp only [hx]
    exact A6 h rfl rfl (key t (by rw [hx]; rfl))
   ·exact h.elim
  ·exact h.elim
 | len x=>
  simp only [AD.wp] at h ⊢
  split at h
  ·rename_i n es hx
   try simp only [hx]
   refine A6 h rfl rfl fun env2 hl K2 hK2=>?_
   simp only [AD.wp,hl.val (x:=x) (fun s h=>h),hx]
   exact hK2
  ·exact h.elim
 | slen x=>
  simp only [AD.wp] at h ⊢
  split at h
  ·rename_i s hx
   try simp only [hx]
   refine A6 h rfl rfl fun env2 hl K2 hK2=>?_
   simp only [AD.wp,hl.val (x:=x) (fun s h=>h),hx]
   exact hK2
  ·exact h.elim
 | slc n x lo hi=>
  simp only [AD.wp] at h ⊢
  split at h
  ·rename_i m es hx
   try simp only [hx]
   split at h
   ·rename_i k1 l k2 hh h1 h2
    try simp only [h1,h2]
    refine ⟨h.1,h.2.1,A6 h.2.2 rfl rfl fun env2 hl K2 hK2=>?_⟩
    simp only [AD.wp,hl.val (x:=x) (fun s h=>HI h),hx,hl.bnd (x:=lo) (fun s h=>GZ (HI h)),hl.bnd (x:=hi) (fun s h=>GZ (GZ h)),h1,h2]
    exact ⟨h.1,h.2.1,hK2⟩
   ·exact h.elim
  ·exact h.elim
 | sslc x lo hi=>
  simp only [AD.wp] at h ⊢
  split at h
  ·rename_i str hx
   try simp only [hx]
   split at h
   ·rename_i k1 l k2 hh h1 h2
    try simp only [h1,h2]
    refine ⟨h.1,h.2.1,h.2.2.1,A6 h.2.2.2 rfl rfl fun env2 hl K2 hK2=>?_⟩
    simp only [AD.wp,hl.val (x:=x) (fun s h=>HI h),hx,hl.bnd (x:=lo) (fun s h=>GZ (HI h)),hl.bnd (x:=hi) (fun s h=>GZ (GZ h)),h1,h2]
    exact ⟨h.1,h.2.1,h.2.2.1,hK2⟩
   ·exact h.elim
  ·exact h.elim
 | bld zero ps=>
  simp only [AD.wp] at h ⊢
  cases hc:Hz env ps with
  | none=>rw [hc] at h; exact h.elim
  | some ts=>
   rw [hc] at h
   simp only [A0] at h ⊢
   cases hf:G5 zero ts with
   | none=>rw [hf] at h; exact h.elim
   | some cs=>
    rw [hf] at h
    refine A6 h rfl rfl fun env2 hl K2 hK2=>?_
    simp only [AD.wp,hl.parts (xs:=ps) (fun s h=>h),hc,A0,hf]
    exact hK2
 | lst n ps=>
  simp only [AD.wp] at h ⊢
  cases hc:Go.Sf.vals env ps with
  | none=>rw [hc] at h; exact h.elim
  | some ts=>
   rw [hc] at h
   simp only [A0] at h ⊢
   refine ⟨h.1,A6 h.2 rfl rfl fun env2 hl K2 hK2=>?_⟩
   simp only [AD.wp,hl.vals (xs:=ps) (fun s h=>h),hc,A0]
   exact ⟨h.1,hK2⟩
 | app n x y=>
  simp only [AD.wp] at h ⊢
  split at h
  ·rename_i m es m' fs hx hy
   try simp only [hx,hy]
   obtain ⟨h1,h2,h3,h4⟩:=h
   cases x with
   | c t=>simp [AE.ev] at hx
   | s s=>
    simp only [AE.ev] at hx
    subst h1
    refine ⟨rfl,h2,h3,h4,.slot s (.list m es),rfl,hx,?_,by simp,(fun s he=>by cases he),by simp [AD.isNew],by simp,fun env2 hl K2 hK2=>?_⟩
    ·intro s' t' he
     simp only [BO.slot.injEq] at he
     simp [AD.dem,AE.sl,he.1]
    ·have:=hl.eff
     simp only [BO.ok] at this
     simp only [AD.wp,AE.ev,this,hl.val (x:=y) (fun s h=>GZ h),hy]
     exact ⟨trivial,h2,h3,hK2⟩
  ·exact h.elim
 | call g xs=>
  simp only [AD.wp] at h ⊢
  cases hc:Go.Sf.vals env xs with
  | none=>rw [hc] at h; exact h.elim
  | some ts=>
   rw [hc] at h
   simp only [A0] at h ⊢
   obtain ⟨r,h1,h2⟩:=h
   refine ⟨r,h1,fun hw=>A6 (h2 hw) rfl (by cases r <;> rfl) fun env2 hl K2 hK2=>?_⟩
   simp only [AD.wp,hl.vals (xs:=xs) (fun s h=>h),hc,A0]
   exact ⟨r,h1,fun _=>hK2⟩
 | callv x xs=>
  simp only [AD.wp] at h ⊢
  split at h
  ·rename_i g caps ts hx hc
   try simp only [hx,hc]
   obtain ⟨r,h1,h2⟩:=h
   refine ⟨r,h1,fun hw=>A6 (h2 hw) rfl (by cases r <;> rfl) fun env2 hl K2 hK2=>?_⟩
   simp only [AD.wp,hl.val (x:=x) (fun s h=>HI h),hl.vals (xs:=xs) (fun s h=>GZ h),hx,hc]
   exact ⟨r,h1,fun _=>hK2⟩
  ·exact h.elim
 | clo g xs=>
  simp only [AD.wp] at h ⊢
  cases hc:Go.Sf.vals env xs with
  | none=>rw [hc] at h; exact h.elim
  | some ts=>
   rw [hc] at h
   simp only [A0] at h ⊢
   refine A6 h rfl rfl fun env2 hl K2 hK2=>?_
   simp only [AD.wp,hl.vals (xs:=xs) (fun s h=>h),hc,A0]
   exact hK2
 | ext x i=>
  simp only [AD.wp] at h ⊢
  split at h
  ·rename_i ts hx
   try simp only [hx]
   cases hf:ts[i]? with
   | none=>rw [hf] at h; exact h.elim
   | some t=>
    rw [hf] at h
    refine A6 h rfl rfl fun env2 hl K2 hK2=>?_
    have:=(hl.ev (x:=x) (fun s h=>h)).tp hx
    simp only [AD.wp,this,hf,A0]
    exact hK2
  ·exact h.elim
 | cvt k x=>
  simp only [AD.wp] at h ⊢
  split at h
  ·rename_i k n hx
   try simp only [hx]
   refine A6 h rfl rfl fun env2 hl K2 hK2=>?_
   simp only [AD.wp,hl.val (x:=x) (fun s h=>h),hx]
   exact hK2
  ·exact h.elim
 | sidx x i=>
  simp only [AD.wp] at h ⊢
  split at h
  ·rename_i str k j hx hi
   try simp only [hx,hi]
   obtain ⟨h1,b,h2,h3⟩:=h
   refine ⟨h1,b,h2,A6 h3 rfl rfl fun env2 hl K2 hK2=>?_⟩
   simp only [AD.wp,hl.val (x:=x) (fun s h=>HI h),hl.val (x:=i) (fun s h=>GZ h),hx,hi]
   exact ⟨h1,b,h2,hK2⟩
  ·exact h.elim
 | boxs x=>
  simp only [AD.wp] at h ⊢
  split at h
  ·rename_i t hx
   try simp only [hx]
   refine A6 h rfl rfl fun env2 hl K2 hK2=>?_
   simp only [AD.wp,hl.val (x:=x) (fun s h=>h),hx]
   exact hK2
  ·exact h.elim
 | boxo x=>
  simp only [AD.wp] at h ⊢
  split at h
  ·rename_i t d hx
   try simp only [hx]
   refine ⟨h.1,h.2,.none,rfl,trivial,by simp,by simp,(fun s he=>by cases he),fun _=>⟨rfl,fun d' hd=>?_⟩,by simp,fun env2 hl K2 hK2=>?_⟩
   ·simp only [zzY] at hd; subst hd; exact h.1
   ·simp only [AD.wp,hl.val (x:=x) (fun s h=>h),hx]
    exact ⟨hl.new rfl _ rfl h.1,hK2⟩
  ·exact h.elim
 | mm mx x y=>
  simp only [AD.wp] at h ⊢
  split at h
  ·rename_i k a k' b hx hy
   try simp only [hx,hy]
   refine ⟨h.1,A6 h.2 rfl rfl fun env2 hl K2 hK2=>?_⟩
   simp only [AD.wp,hl.val (x:=x) (fun s h=>HI h),hl.val (x:=y) (fun s h=>GZ h),hx,hy]
   exact ⟨h.1,hK2⟩
  ·exact h.elim
 | alc cs=>
  simp only [AD.wp] at h ⊢
  split at h
  ·rename_i d
   refine ⟨h.1,h.2,.none,rfl,trivial,by simp,by simp,(fun s he=>by cases he),fun _=>⟨rfl,fun d' hd=>?_⟩,by simp,fun env2 hl K2 hK2=>?_⟩
   ·simp only [zzY] at hd; subst hd; exact h.1
   ·simp only [AD.wp]
    exact ⟨hl.new rfl _ rfl h.1,hK2⟩
  ·exact h.elim
 | st n x v=>cases hm
 | stb n s v=>cases hm
 | frz s=>cases hm
 | xal s=>
  simp only [AD.wp] at h ⊢
  split at h
  ·rename_i n es hs
   try simp only [hs]
   refine ⟨h,.none,rfl,trivial,by simp,by simp,?_,by simp [AD.isNew],by simp,fun env2 hl K2 hK2=>?_⟩
   ·intro s' he
    simp only [EV.ref,zzY] at he
    exact .inl (by simp [AD.bads,he])
   ·have h2:=(hl.sl s (by simp [AD.slots])).xo hs
    simp only [AD.wp,h2]
    exact hK2
  ·exact h.elim
 | xlen x=>
  simp only [AD.wp] at h ⊢
  cases hx:x.xlist env with
  | none=>rw [hx] at h; exact h.elim
  | some p=>
   rw [hx] at h
   simp only [A0] at h ⊢
   refine A6 h rfl rfl fun env2 hl K2 hK2=>?_
   simp only [AD.wp,hl.xlist (x:=x) (fun s h=>h),hx,A0]
   exact hK2
 | lac x=>
  simp only [AD.wp] at h ⊢
  split at h
  ·rename_i s off hx
   split at h
   ·rename_i p hq
    try simp only [hx,hq]
    have hxs:∃ n∈x.sl,env.get n=.bp s off:=by
     cases x with
     | c t=>simp [AE.ev] at hx
     | s n=>exact ⟨n,by simp [AE.sl],hx⟩
    obtain ⟨n,hn,hb⟩:=hxs
    refine ⟨h,.none,rfl,trivial,by simp,by simp,?_,by simp [AD.isNew],by simp,fun env2 hl K2 hK2=>?_⟩
    ·intro s' he
     simp only [EV.ref,zzY] at he
     subst he
     exact .inr ⟨n,hn,by rw [hb]; rfl⟩
    ·have h1:=(hl.ev (x:=x) (fun s h=>h)).bp hx
     have h2:=(hl.bp n hn s (by rw [hb]; rfl)).xat (some off)
     rw [hq] at h2
     simp only [AD.wp,h1,h2]
     exact hK2
   ·exact h.elim
  ·exact h.elim
 | ctk _=>cases hm
 | cpt _ _=>cases hm
 | cut _ _ _=>cases hm
 | appz _ _ _ _=>cases hm
 | callf g xs=>
  simp only [AD.wp] at h ⊢
  cases hc:Go.Sf.vals env xs with
  | none=>rw [hc] at h; exact h.elim
  | some ts=>
   rw [hc] at h
   simp only [A0] at h ⊢
   obtain ⟨r,h1,h2⟩:=h
   refine ⟨r,h1,A6 h2 rfl rfl fun env2 hl K2 hK2=>?_⟩
   simp only [AD.wp,hl.vals (xs:=xs) (fun s h=>h),hc,A0]
   exact ⟨r,h1,hK2⟩
 | callb _ _ _=>cases hm
 | calll g xs=>
  simp only [AD.wp] at h ⊢
  cases hc:Go.Sf.lvals env xs with
  | none=>rw [hc] at h; exact h.elim
  | some ts=>
   rw [hc] at h
   simp only [A0] at h ⊢
   obtain ⟨r,h1,h2⟩:=h
   refine ⟨r,h1,fun hw=>A6 (h2 hw) rfl (by cases r <;> rfl) fun env2 hl K2 hK2=>?_⟩
   simp only [AD.wp,hl.lvals (xs:=xs) (fun s h=>h),hc,A0]
   exact ⟨r,h1,fun _=>hK2⟩
 | boxp ps x=>
  simp only [AD.wp] at h ⊢
  split at h
  ·rename_i t d hx
   try simp only [hx]
   cases hc:F2 ps t.cells with
   | none=>rw [hc] at h; exact h.elim
   | some cs=>
    rw [hc] at h
    simp only [A0] at h ⊢
    refine ⟨h.1,h.2,.none,rfl,trivial,by simp,by simp,(fun s he=>by cases he),fun _=>⟨rfl,fun d' hd=>?_⟩,by simp,fun env2 hl K2 hK2=>?_⟩
    ·simp only [zzY] at hd; subst hd; exact h.1
    ·simp only [AD.wp,hl.val (x:=x) (fun s h=>h),hx,hc,A0]
     exact ⟨hl.new rfl _ rfl h.1,hK2⟩
  ·exact h.elim
 | xia x i n=>
  simp only [AD.wp] at h ⊢
  cases hx:x.xlist env with
  | none=>rw [hx] at h; exact h.elim
  | some p=>
   rw [hx] at h
   simp only [A0] at h ⊢
   split at h
   ·rename_i ik j hj
    try simp only [hj]
    obtain ⟨⟨h1,h2⟩,h3,h4,h5⟩:=h
    have hxs:∃ n∈x.sl,(env.get n).ref=some p.1.1:=by
     cases x with
     | c t=>simp [AE.ev,EV.ref] at h1
     | s n=>exact ⟨n,by simp [AE.sl],h1⟩
    obtain ⟨m,hm',hr⟩:=hxs
    refine ⟨⟨h1,h2⟩,h3,h4,h5,.none,rfl,trivial,by simp,by simp,?_,by simp [AD.isNew],by simp,fun env2 hl K2 hK2=>?_⟩
    ·intro s' he
     simp only [EV.ref,zzY] at he
     subst he
     exact .inr ⟨m,HI hm',hr⟩
    ·have e1:=hl.xlist (x:=x) (fun s h=>HI h)
     have e2:=hl.val (x:=i) (fun s h=>GZ h)
     have e3:=(hl.ev (x:=x) (fun s h=>HI h)).ref
     simp only [AD.wp,e1,hx,e2,hj,A0,e3,h1]
     exact ⟨⟨trivial,h2⟩,h3,h4,hK2⟩
   ·exact h.elim
 | xfa x k=>
  simp only [AD.wp] at h ⊢
  split at h
  ·rename_i q i c hx
   split at h
   ·rename_i p hq
    try simp only [hx,hq]
    have hxs:∃ n∈x.sl,env.get n=.lp q i c:=by
     cases x with
     | c t=>simp [AE.ev] at hx
     | s n=>exact ⟨n,by simp [AE.sl],hx⟩
    obtain ⟨n,hn,hb⟩:=hxs
    refine ⟨h,.none,rfl,trivial,by simp,by simp,?_,by simp [AD.isNew],by simp,fun env2 hl K2 hK2=>?_⟩
    ·intro s' he
     simp only [EV.ref,zzY] at he
     subst he
     exact .inr ⟨n,hn,by rw [hb]; rfl⟩
    ·have h1:=(hl.ev (x:=x) (fun s h=>h)).of_ref (q:=q) (by rw [hx]; rfl)
     have h2:=(hl.bp n hn q (by rw [hb]; rfl)).xat i
     rw [hq] at h2
     simp only [AD.wp,h1,hx,h2]
     exact hK2
   ·exact h.elim
  ·exact h.elim
 | xld x=>
  simp only [AD.wp] at h ⊢
  split at h
  ·rename_i q i c hx
   split at h
   ·rename_i p hq
    try simp only [hx,hq]
    cases hc:(p.2.flatMap TV.cells)[c]? with
    | none=>rw [hc] at h; exact h.elim
    | some t=>
     rw [hc] at h
     simp only [A0] at h ⊢
     have hxs:∃ n∈x.sl,env.get n=.lp q i c:=by
      cases x with
      | c t=>simp [AE.ev] at hx
      | s n=>exact ⟨n,by simp [AE.sl],hx⟩
     obtain ⟨n,hn,hb⟩:=hxs
     refine A6 h rfl rfl fun env2 hl K2 hK2=>?_
     have h1:=(hl.ev (x:=x) (fun s h=>h)).of_ref (q:=q) (by rw [hx]; rfl)
     have h2:=(hl.bp n hn q (by rw [hb]; rfl)).xat i
     rw [hq] at h2
     simp only [AD.wp,h1,hx,h2,hc,A0]
     exact hK2
   ·exact h.elim
  ·exact h.elim
 | xst _ _=>cases hm
 | rel _=>cases hm
 | nilx _=>cases hm
 | tkx _=>cases hm
 | appx _ _ _=>cases hm
 | callx g xs=>
  simp only [AD.wp] at h ⊢
  split at h
  ·rename_i d
   obtain ⟨hno,h⟩:=h
   refine ⟨hno,?_⟩
   cases hc:Go.Sf.vals env xs with
   | none=>rw [hc] at h; exact h.elim
   | some ts=>
    rw [hc] at h
    simp only [A0] at h ⊢
    obtain ⟨n,es,h1,h2⟩:=h
    refine ⟨n,es,h1,fun hw=>⟨h2 hw,.none,rfl,trivial,by simp,by simp,(fun s he=>by cases he),fun _=>⟨rfl,fun d' hd=>?_⟩,by simp,fun env2 hl K2 hK2=>?_⟩⟩
    ·simp only [zzY] at hd; subst hd; exact hno
    ·simp only [AD.wp,hl.vals (xs:=xs) (fun s h=>h),hc,A0]
     exact ⟨hl.new rfl _ rfl hno,n,es,h1,fun _=>hK2⟩
  ·exact h.elim
 | mkx n z x=>
  simp only [AD.wp] at h ⊢
  split at h
  ·rename_i d k j hx
   try simp only [hx]
   obtain ⟨hno,h1,h2,h3⟩:=h
   refine ⟨hno,h1,h2,h3,.none,rfl,trivial,by simp,by simp,(fun s he=>by cases he),fun _=>⟨rfl,fun d' hd=>?_⟩,by simp,fun env2 hl K2 hK2=>?_⟩
   ·simp only [zzY] at hd; subst hd; exact hno
   ·simp only [AD.wp,hl.val (x:=x) (fun s h=>h),hx]
    exact ⟨hl.new rfl _ rfl hno,h1,h2,hK2⟩
  ·exact h.elim
 | callm _ _=>cases hm
 | callc _ _=>cases hm
 | bldg _=>cases hm
 | lstz _=>cases hm
 | stx _ _ _=>cases hm
 | isn _=>cases hm
 | callg g xs=>
  simp only [AD.wp] at h ⊢
  cases hc:Go.Sf.vals env xs with
  | none=>rw [hc] at h; exact h.elim
  | some ts=>
   rw [hc] at h
   simp only [A0] at h ⊢
   obtain ⟨r,h1,h2⟩:=h
   refine ⟨r,h1,fun hw=>A6 (h2 hw) rfl rfl fun env2 hl K2 hK2=>?_⟩
   simp only [AD.wp,hl.vals (xs:=xs) (fun s h=>h),hc,A0]
   exact ⟨r,h1,fun _=>hK2⟩
 | fldv x k n agg=>
  simp only [AD.wp] at h ⊢
  split at h
  ·rename_i cs hx
   try simp only [hx]
   obtain ⟨h1,h2⟩:=h
   refine ⟨h1,?_⟩
   cases agg with
   | true=>
    simp only [if_true] at h2 ⊢
    refine A6 h2 rfl rfl fun env2 hl K2 hK2=>?_
    simp only [AD.wp,hl.val (x:=x) (fun s h=>h),hx,if_true]
    exact ⟨h1,hK2⟩
   | false=>
    simp only [Bool.false_eq_true,if_false] at h2 ⊢
    cases hc:G6 (cs.drop k) with
    | none=>rw [hc] at h2; exact h2.elim
    | some t=>
     rw [hc] at h2
     simp only [A0] at h2 ⊢
     refine A6 h2 rfl rfl fun env2 hl K2 hK2=>?_
     simp only [AD.wp,hl.val (x:=x) (fun s h=>h),hx,Bool.false_eq_true,if_false,hc,A0]
     exact ⟨h1,hK2⟩
  ·exact h.elim
end
end Go.Sf
