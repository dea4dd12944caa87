/- What an operation leans on: the slots that it reads, whether or not they own their lists. -/
import Derived.Test.YtmaobfbhdkafkaaGreatSfCode
namespace Go.Sf
theorem key_t {cs ds:List Cell} (h:ds.map Cell.key=cs.map Cell.key):ds.map (·.t)=cs.map (·.t):=by
 have:=congrArg (List.map Prod.fst) h
 simpa [List.map_map,Function.comp_def,Cell.key] using this
def keyLent (p:TV × Bool):TV:=match p with
 | (.xl n es,true)=>.list n es
 | p=>p.1
theorem key_lent {cs ds:List Cell} (h:ds.map Cell.key=cs.map Cell.key):ds.map Cell.lent=cs.map Cell.lent:=by
 have h1:∀ c:Cell,c.lent=keyLent c.key:=by
  rintro ⟨_ | _,t⟩ <;> cases t <;> rfl
 have:=congrArg (List.map keyLent) h
 simpa [List.map_map,Function.comp_def,←h1] using this
def keyXl (p:TV × Bool):Option (Nat × List TV):=match p with
 | (.xl n es,true)=>some (n,es)
 | _=>none
theorem key_xl {cs ds:List Cell} (h:ds.map Cell.key=cs.map Cell.key) (k:Nat):(match ds[k]? with
  | some ⟨true,.xl n es⟩=>some (n,es)
  | _=>none)=(match cs[k]? with
  | some ⟨true,.xl n es⟩=>some (n,es)
  | _=>none):=by
 have h1:∀ o:Option Cell,(match o with
  | some ⟨true,.xl n es⟩=>some (n,es)
  | _=>none)=(o.map Cell.key).bind keyXl:=by
  rintro (_ | ⟨_ | _,t⟩)
  ·rfl
  ·cases t <;> rfl
  ·cases t <;> rfl
 rw [h1,h1]
 have:=congrArg (fun l=>l[k]?) h
 simp only [List.getElem?_map] at this
 rw [this]
def EV.like (e e2:EV):Prop:=
 e2=e∨(∃ n es,(e=.tv (.list n es)∧e2=.ow (.list n es))∨(e=.ow (.list n es)∧e2=.tv (.list n es)))∨∃ cs ds,e=.bx cs∧e2=.bx ds∧ds.map Cell.key=cs.map Cell.key
theorem EV.like.symm {e e2:EV} (h:e.like e2):e2.like e:=by
 rcases h with rfl | ⟨n,es,⟨rfl,rfl⟩ | ⟨rfl,rfl⟩⟩ | ⟨cs,ds,rfl,rfl,h⟩
 ·exact .inl rfl
 ·exact .inr (.inl ⟨n,es,.inr ⟨rfl,rfl⟩⟩)
 ·exact .inr (.inl ⟨n,es,.inl ⟨rfl,rfl⟩⟩)
 ·exact .inr (.inr ⟨ds,cs,rfl,rfl,h.symm⟩)
theorem EV.like.val {e e2:EV} (h:e.like e2):e2.val=e.val:=by
 rcases h with rfl | ⟨n,es,⟨rfl,rfl⟩ | ⟨rfl,rfl⟩⟩ | ⟨cs,ds,rfl,rfl,h⟩ <;> rfl
theorem EV.like.pt {e e2:EV} (h:e.like e2) {row:List TV} (he:e=.tv (.pt row)):e2=.tv (.pt row):=by
 subst he
 rcases h with rfl | ⟨n,es,⟨h,rfl⟩ | ⟨h,rfl⟩⟩ | ⟨cs,ds,h,rfl,h'⟩
 ·rfl
 ·simp at h
 ·cases h
 ·cases h
theorem EV.like.bp {e e2:EV} (h:e.like e2) {q off:Nat} (he:e=.bp q off):e2=.bp q off:=by
 subst he
 rcases h with rfl | ⟨n,es,⟨h,rfl⟩ | ⟨h,rfl⟩⟩ | ⟨cs,ds,h,rfl,h'⟩
 ·rfl
 ·cases h
 ·cases h
 ·cases h
theorem EV.like.tp {e e2:EV} (h:e.like e2) {ts:List TV} (he:e=.tp ts):e2=.tp ts:=by
 subst he
 rcases h with rfl | ⟨n,es,⟨h,rfl⟩ | ⟨h,rfl⟩⟩ | ⟨cs,ds,h,rfl,h'⟩
 ·rfl
 ·cases h
 ·cases h
 ·cases h
theorem EV.like.bx {e e2:EV} (h:e.like e2) {cs:List Cell} (he:e=.bx cs):∃ ds,e2=.bx ds∧ds.map Cell.key=cs.map Cell.key:=by
 subst he
 rcases h with rfl | ⟨n,es,⟨h,rfl⟩ | ⟨h,rfl⟩⟩ | ⟨cs',ds,h,rfl,h'⟩
 ·exact ⟨cs,rfl,rfl⟩
 ·cases h
 ·cases h
 ·simp only [EV.bx.injEq] at h; subst h; exact ⟨ds,rfl,h'⟩
def Opd.sl:Opd->List Nat
 | .s n=>[n]
 | .c _=>[]
def optSl:Option Opd->List Nat
 | some x=>x.sl
 | none=>[]
def opdsSl:List Opd->List Nat
 | []=>[]
 | x::xs=>x.sl++opdsSl xs
def partsSl:List (Nat × Nat × Opd)->List Nat
 | []=>[]
 | x::xs=>x.2.2.sl++partsSl xs
def POp.slots:POp->List Nat
 | .mv x=>x.sl
 | .tk s=>[s]
 | .nilo _=>[]
 | .fad x _=>x.sl
 | .bad s _=>[s]
 | .iad x i _=>x.sl++i.sl
 | .aad x i _ _=>x.sl++i.sl
 | .ld x=>x.sl
 | .lda x _=>x.sl
 | .ldt x=>x.sl
 | .bin _ _ x y=>x.sl++y.sl
 | .not x=>x.sl
 | .neg x=>x.sl
 | .pick c a b=>c.sl++(a.sl++b.sl)
 | .len x=>x.sl
 | .slen x=>x.sl
 | .slc _ x lo hi=>x.sl++(optSl lo++optSl hi)
 | .sslc x lo hi=>x.sl++(optSl lo++optSl hi)
 | .bld _ ps=>partsSl ps
 | .lst _ ps=>opdsSl ps
 | .app _ x y=>x.sl++y.sl
 | .call _ xs=>opdsSl xs
 | .callv x xs=>x.sl++opdsSl xs
 | .clo _ xs=>opdsSl xs
 | .ext x _=>x.sl
 | .cvt _ x=>x.sl
 | .sidx x i=>x.sl++i.sl
 | .boxs x=>x.sl
 | .boxo x=>x.sl
 | .mm _ x y=>x.sl++y.sl
 | .alc _=>[]
 | .st _ x v=>x.sl++v.sl
 | .stb _ s v=>s::v.sl
 | .frz s=>[s]
 | .fldv x _ _ _=>x.sl
 | .xal s=>[s]
 | .xlen x=>x.sl
 | .xia x i _=>x.sl++i.sl
 | .xfa x _=>x.sl
 | .xld x=>x.sl
 | .xst x v=>x.sl++v.sl
 | .rel s=>[s]
 | .nilx _=>[]
 | .tkx s=>[s]
 | .appx _ s y=>s::y.sl
 | .callx _ xs=>opdsSl xs
 | .mkx _ _ x=>x.sl
 | .callm _ x=>x.sl
 | .callc _ x=>x.sl
 | .bldo qs=>qs
 | .stx _ s q=>[s,q]
 | .callg _ xs=>opdsSl xs
 | .isn x=>x.sl
 | .lac x=>x.sl
 | .ctk x=>x.sl
 | .cpt x q=>x.sl++[q]
 | .cut _ s hi=>s::hi.sl
 | .calll _ xs=>opdsSl xs
 | .boxp _ x=>x.sl
 | .appz _ s _ x=>s::x.sl
 | .callf _ xs=>opdsSl xs
 | .callb _ xs _=>opdsSl xs
def POp.dem:POp->List Nat
 | .tk s=>[s]
 | .app _ x _=>x.sl
 | _=>[]
def POp.mov:POp->Bool
 | .st ..=>false
 | .stb ..=>false
 | .frz _=>false
 | .xal _=>false
 | .xia ..=>false
 | .xfa ..=>false
 | .xld _=>false
 | .xst ..=>false
 | .rel _=>false
 | .nilx _=>false
 | .tkx _=>false
 | .appx ..=>false
 | .callm ..=>false
 | .callc ..=>false
 | .bldo _=>false
 | .stx ..=>false
 | .isn _=>false
 | .ctk _=>false
 | .cpt ..=>false
 | .cut ..=>false
 | .appz ..=>false
 | .callb ..=>false
 | _=>true
def POp.isNew:POp->Bool
 | .alc _=>true
 | .boxo _=>true
 | .boxp ..=>true
 | .callx ..=>true
 | .mkx ..=>true
 | _=>false
def POp.bads:POp->List Nat
 | .bad s _=>[s]
 | _=>[]
inductive Eff where
 | none
 | slot (s:Nat) (t:TV)
 | cell (s off:Nat) (t:TV)
def Eff.app:Eff->Env->Env
 | .none,env=>env
 | .slot s t,env=>(s,.tv t)::env
 | .cell s off t,env=>match env.get s with
  | .bx cs=>(s,.bx (cs.set off ⟨false,t⟩))::env
  | _=>env
def Eff.ok:Eff->Env->Prop
 | .none,_=>True
 | .slot s t,env=>env.get s=.ow t
 | .cell s off t,env=>∃ cs,env.get s=.bx cs∧cs[off]?=some ⟨true,t⟩
structure Like (op:POp) (f:Eff) (dst:Option Nat) (env env2:Env):Prop where
 sl:∀ s∈op.slots,(env.get s).like (env2.get s)
 bp:∀ s∈op.slots,∀ q,(env.get s).ref=some q->(env.get q).like (env2.get q)
 dem:∀ s∈op.dem,(∀ cs,env.get s≠.bx cs)->env2.get s=env.get s
 eff:f.ok env2
 new:op.isNew=true->∀ d,dst=some d->env.noRef d=true->env2.noRef d=true
section
variable {op:POp} {f:Eff} {dst:Option Nat} {env env2:Env}
theorem Like.val (h:Like op f dst env env2) {x:Opd} (hs:∀ s∈x.sl,s∈op.slots):x.val env2=x.val env:=by
 cases x with
 | c t=>rfl
 | s n=>exact (h.sl n (hs n (by simp [Opd.sl]))).val
theorem Like.ev (h:Like op f dst env env2) {x:Opd} (hs:∀ s∈x.sl,s∈op.slots):(x.ev env).like (x.ev env2):=by
 cases x with
 | c t=>exact .inl rfl
 | s n=>exact h.sl n (hs n (by simp [Opd.sl]))
theorem Like.vals (h:Like op f dst env env2):∀ {xs:List Opd},(∀ s∈opdsSl xs,s∈op.slots)->Go.Sf.vals env2 xs=Go.Sf.vals env xs
 | [],_=>rfl
 | x::xs,hs=>by
  simp only [opdsSl,List.mem_append] at hs
  simp only [Go.Sf.vals,h.val (x:=x) (fun s hx=>hs s (.inl hx)),h.vals (xs:=xs) (fun s hx=>hs s (.inr hx))]
theorem Like.parts (h:Like op f dst env env2):∀ {xs:List (Nat × Nat × Opd)},(∀ s∈partsSl xs,s∈op.slots)->partsTV env2 xs=partsTV env xs
 | [],_=>rfl
 | (i,n,x)::xs,hs=>by
  simp only [partsSl,List.mem_append] at hs
  simp only [partsTV,h.val (x:=x) (fun s hx=>hs s (.inl hx)),h.parts (xs:=xs) (fun s hx=>hs s (.inr hx))]
theorem Like.bnd (h:Like op f dst env env2) {x:Option Opd} {k:Int} (hs:∀ s∈optSl x,s∈op.slots):bndTV env2 k x=bndTV env k x:=by
 cases x with
 | none=>rfl
 | some x=>exact h.val hs
theorem Like.addr (h:Like op f dst env env2) {x:Opd} (hs:∀ s∈x.sl,s∈op.slots):addrCells env2 (x.ev env2)=addrCells env (x.ev env):=by
 cases x with
 | c t=>cases t <;> rfl
 | s n=>
  have hn:=hs n (by simp [Opd.sl])
  have hl:=h.sl n hn
  have hb:=h.bp n hn
  simp only [Opd.ev]
  generalize env.get n=e at hl hb
  generalize env2.get n=e2 at hl
  rcases hl with rfl | ⟨n,es,⟨rfl,rfl⟩ | ⟨rfl,rfl⟩⟩ | ⟨cs,ds,rfl,rfl,h2⟩
  ·cases e2 with
   | bp q off=>
    have hq:=hb q rfl
    simp only [addrCells]
    generalize env.get q=e1 at hq
    generalize env2.get q=e2 at hq
    rcases hq with rfl | ⟨n,es,⟨rfl,rfl⟩ | ⟨rfl,rfl⟩⟩ | ⟨cs,ds,rfl,rfl,h2⟩
    ·rfl
    ·rfl
    ·rfl
    ·simp only [List.map_drop,key_t h2]
   | tv t=>cases t <;> rfl
   | _=>rfl
  ·rfl
  ·rfl
  ·simp only [addrCells,key_t h2]
theorem Like.place (h:Like op f dst env env2) {x:Opd} (hs:∀ s∈x.sl,s∈op.slots):x.place env2=x.place env:=by
 cases x with
 | c t=>rfl
 | s n=>
  have hl:=h.sl n (hs n (by simp [Opd.sl]))
  simp only [Opd.place]
  rcases hl with h1 | ⟨n,es,⟨h1,h2⟩ | ⟨h1,h2⟩⟩ | ⟨cs,ds,h1,h2,_⟩
  ·rw [h1]
  ·rw [h1,h2]
  ·rw [h1,h2]
  ·rw [h1,h2]
theorem EV.like.xat {env env2:Env} {q:Nat} (h:(env.get q).like (env2.get q)) (i:Option Nat):env2.xat q i=env.xat q i:=by
 rcases h with h1 | ⟨n,es,⟨h1,h2⟩ | ⟨h1,h2⟩⟩ | ⟨cs,ds,h1,h2,h3⟩
 ·exact Env.xat_of h1
 ·cases i <;> simp only [Env.xat,h1,h2]
 ·cases i <;> simp only [Env.xat,h1,h2]
 ·cases i with
  | none=>simp only [Env.xat,h1,h2]
  | some k=>simp only [Env.xat,h1,h2]; exact key_xl h3 k
theorem Like.xlist (h:Like op f dst env env2) {x:Opd} (hs:∀ s∈x.sl,s∈op.slots):x.xlist env2=x.xlist env:=by
 cases x with
 | c t=>rfl
 | s n=>
  have hn:=hs n (by simp [Opd.sl])
  have hl:=h.sl n hn
  have hb:=h.bp n hn
  simp only [Opd.xlist]
  rcases hl with h1 | ⟨m,es,⟨h1,h2⟩ | ⟨h1,h2⟩⟩ | ⟨cs,ds,h1,h2,_⟩
  ·rw [h1]
   cases he:env.get n with
   | la q i=>simp only [(hb q (by rw [he]; rfl)).xat i]
   | _=>rfl
  ·rw [h1,h2]
  ·rw [h1,h2]
  ·rw [h1,h2]
theorem Like.lval (h:Like op f dst env env2) {x:Opd} (hs:∀ s∈x.sl,s∈op.slots):x.lval env2=x.lval env:=by
 unfold Opd.lval
 rw [h.xlist hs]
 cases x.xlist env with
 | some p=>rfl
 | none=>
  cases x with
  | c t=>cases t <;> rfl
  | s n=>
   have hn:=hs n (by simp [Opd.sl])
   have hl:=h.sl n hn
   have hb:=h.bp n hn
   simp only [Opd.ev]
   rcases hl with h1 | ⟨m,es,⟨h1,h2⟩ | ⟨h1,h2⟩⟩ | ⟨cs,ds,h1,h2,h3⟩
   ·rw [h1]
    cases he:env.get n with
    | bp q off=>
     have hq:=hb q (by rw [he]; rfl)
     simp only
     rcases hq with k1 | ⟨m,es,⟨k1,k2⟩ | ⟨k1,k2⟩⟩ | ⟨cs,ds,k1,k2,k3⟩
     ·rw [k1]
     ·rw [k1,k2]
     ·rw [k1,k2]
     ·rw [k1,k2]
      have:=key_lent k3
      simp only [List.map_drop,this]
    | _=>rfl
   ·rw [h1,h2]; rfl
   ·rw [h1,h2]; rfl
   ·rw [h1,h2]
    simp only [key_lent h3]
theorem Like.lvals (h:Like op f dst env env2):∀ {xs:List Opd},(∀ s∈opdsSl xs,s∈op.slots)->Go.Sf.lvals env2 xs=Go.Sf.lvals env xs
 | [],_=>rfl
 | x::xs,hs=>by
  simp only [opdsSl,List.mem_append] at hs
  simp only [Go.Sf.lvals,h.lval (x:=x) (fun s hx=>hs s (.inl hx)),h.lvals (xs:=xs) (fun s hx=>hs s (.inr hx))]
end
structure FrameE (S:FuncId->List TV->Res->Prop) (op:POp) (dst:Option Nat) (env:Env) (e:EV) (env':Env) (f:Eff):Prop where
 env':env'=f.app env
 ok:f.ok env
 slot:∀ s t,f=.slot s t->s∈op.dem
 cell:∀ s off t,f=.cell s off t->(s∈op.slots∨∃ x∈op.slots,(env.get x).ref=some s)
 ref:∀ s,e.ref=some s->(s∈op.bads∨∃ x∈op.slots,(env.get x).ref=some s)
 new:op.isNew=true->e.ref=none∧∀ d,dst=some d->env.noRef d=true
 xl:∀ s off t,f=.cell s off t->t.isXl=false
 again:∀ env2,Like op f dst env env2->∀ K2:EV->Env->Prop,K2 e (f.app env2)->op.wp S env2 dst K2
section
variable {S:FuncId->List TV->Res->Prop} {op:POp} {dst:Option Nat} {env:Env} {K:EV->Env->Prop}
theorem frame_pure {e:EV} (hK:K e env) (hn:op.isNew=false) (hr:e.ref=none) (h:∀ env2,Like op .none dst env env2->∀ K2:EV->Env->Prop,K2 e env2->op.wp S env2 dst K2):K e env∧∃ f,FrameE S op dst env e env f:=
 ⟨hK,.none,rfl,trivial,by simp,by simp,(fun s he=>by rw [hr] at he; cases he),by simp [hn],by simp,h⟩
theorem mem_r {α:Type} {x:α} {l m:List α} (h:x∈m):x∈l++m:=List.mem_append_right _ h
theorem mem_l {α:Type} {x:α} {l m:List α} (h:x∈l):x∈l++m:=List.mem_append_left _ h
theorem frame (hm:op.mov=true) (h:op.wp S env dst K):op.wp S env dst fun e env'=>K e env'∧∃ f,FrameE S op dst env e env' f:=by
 cases op with
 | mv x=>
  simp only [POp.wp] at h ⊢
  have key:∀ t,(x.ev env).val=some t->∀ env2,Like (.mv x) .none dst env env2->∀ K2:EV->Env->Prop,K2 (.tv t) env2->(POp.mv x).wp S env2 dst K2:=by
   intro t ht env2 hl K2 hK2
   have hv:=hl.val (x:=x) (fun s h=>h)
   simp only [Opd.val] at hv
   rw [ht] at hv
   simp only [POp.wp]
   cases he:x.ev env2 <;> rw [he] at hv <;> simp [EV.val] at hv <;> subst hv <;> exact hK2
  split at h
  ·rename_i t hx
   try simp only [hx]
   exact frame_pure h rfl rfl (key t (by rw [hx]; rfl))
  ·rename_i t hx
   try simp only [hx]
   exact frame_pure h rfl rfl (key t (by rw [hx]; rfl))
  ·rename_i ts hx
   try simp only [hx]
   refine frame_pure h rfl rfl fun env2 hl K2 hK2=>?_
   cases x with
   | c t=>simp [Opd.ev] at hx
   | s n=>
    simp only [Opd.ev] at hx
    have h2:env2.get n=.tp ts:=(hl.sl n (by simp [POp.slots,Opd.sl])).tp hx
    simp only [POp.wp,Opd.ev,h2]
    exact hK2
  ·exact h.elim
 | tk s=>
  simp only [POp.wp] at h ⊢
  split at h
  ·rename_i t hs
   try simp only [hs]
   refine ⟨h,.slot s t,rfl,hs,?_,by simp,(fun s he=>by cases he),by simp [POp.isNew],by simp,fun env2 hl K2 hK2=>?_⟩
   ·intro s' t' he
    simp only [Eff.slot.injEq] at he
    simp [POp.dem,he.1]
   ·have:=hl.eff
    simp only [Eff.ok] at this
    simp only [POp.wp,this]
    exact hK2
  ·rename_i t hs
   try simp only [hs]
   refine frame_pure h rfl rfl fun env2 hl K2 hK2=>?_
   have:=hl.dem s (by simp [POp.dem]) (by simp [hs])
   simp only [POp.wp,this,hs]
   exact hK2
  ·exact h.elim
 | nilo n=>exact frame_pure h rfl rfl fun env2 hl K2 hK2=>hK2
 | fad x k=>
  simp only [POp.wp] at h ⊢
  split at h
  ·rename_i row hx
   try simp only [hx]
   refine frame_pure h rfl rfl fun env2 hl K2 hK2=>?_
   have:=(hl.ev (x:=x) (fun s h=>h)).pt hx
   simp only [POp.wp,this]
   exact hK2
  ·rename_i s off hx
   split at h
   ·rename_i cs hs
    try simp only [hx,hs]
    have hxs:∃ n∈x.sl,env.get n=.bp s off:=by
     cases x with
     | c t=>simp [Opd.ev] at hx
     | s n=>exact ⟨n,by simp [Opd.sl],hx⟩
    obtain ⟨n,hn,hb⟩:=hxs
    refine ⟨h,.none,rfl,trivial,by simp,by simp,?_,by simp [POp.isNew],by simp,fun env2 hl K2 hK2=>?_⟩
    ·intro s' he
     simp only [EV.ref,Option.some.injEq] at he
     subst he
     exact .inr ⟨n,hn,by rw [hb]; rfl⟩
    ·have h1:=(hl.ev (x:=x) (fun s h=>h)).bp hx
     have h2:=hl.bp n hn s (by rw [hb]; rfl)
     rw [hs] at h2
     obtain ⟨ds,h3,_⟩:=h2.bx rfl
     simp only [POp.wp,h1,h3]
     exact hK2
   ·exact h.elim
  ·exact h.elim
 | bad s k=>
  simp only [POp.wp] at h ⊢
  split at h
  ·rename_i cs hs
   try simp only [hs]
   refine ⟨h,.none,rfl,trivial,by simp,by simp,?_,by simp [POp.isNew],by simp,fun env2 hl K2 hK2=>?_⟩
   ·intro s' he
    simp only [EV.ref,Option.some.injEq] at he
    exact .inl (by simp [POp.bads,he])
   ·have h2:=hl.sl s (by simp [POp.slots])
    rw [hs] at h2
    obtain ⟨ds,h3,_⟩:=h2.bx rfl
    simp only [POp.wp,h3]
    exact hK2
  ·rename_i row hs
   try simp only [hs]
   refine frame_pure h rfl rfl fun env2 hl K2 hK2=>?_
   have:=(hl.sl s (by simp [POp.slots])).pt hs
   simp only [POp.wp,this]
   exact hK2
  ·exact h.elim
 | iad x i n=>
  simp only [POp.wp] at h ⊢
  split at h
  ·rename_i m es k j hx hi
   try simp only [hx,hi]
   obtain ⟨h1,h2,e,h3,h4⟩:=h
   refine ⟨h1,h2,e,h3,frame_pure h4 rfl rfl fun env2 hl K2 hK2=>?_⟩
   simp only [POp.wp,hl.val (x:=x) (fun s h=>mem_l h),hl.val (x:=i) (fun s h=>mem_r h),hx,hi]
   exact ⟨h1,h2,e,h3,hK2⟩
  ·exact h.elim
 | aad x i n k=>
  simp only [POp.wp] at h ⊢
  split at h
  ·rename_i row kk j hx hi
   try simp only [hx,hi]
   obtain ⟨h1,h2,h3,h4⟩:=h
   refine ⟨h1,h2,h3,frame_pure h4 rfl rfl fun env2 hl K2 hK2=>?_⟩
   have:=(hl.ev (x:=x) (fun s h=>mem_l h)).pt hx
   simp only [POp.wp,this,hl.val (x:=i) (fun s h=>mem_r h),hi]
   exact ⟨h1,h2,h3,hK2⟩
  ·exact h.elim
 | ld x=>
  simp only [POp.wp] at h ⊢
  cases hc:addrCells env (x.ev env) with
  | none=>rw [hc] at h; exact h.elim
  | some cs=>
   rw [hc] at h
   simp only [optK] at h ⊢
   cases hf:leafOf cs with
   | none=>rw [hf] at h; exact h.elim
   | some t=>
    rw [hf] at h
    refine frame_pure h rfl rfl fun env2 hl K2 hK2=>?_
    simp only [POp.wp,hl.addr (x:=x) (fun s h=>h),hc,optK,hf]
    exact hK2
 | lda x n=>
  simp only [POp.wp] at h ⊢
  cases hc:addrCells env (x.ev env) with
  | none=>rw [hc] at h; exact h.elim
  | some cs=>
   rw [hc] at h
   simp only [optK] at h ⊢
   refine ⟨h.1,frame_pure h.2 rfl rfl fun env2 hl K2 hK2=>?_⟩
   simp only [POp.wp,hl.addr (x:=x) (fun s h=>h),hc,optK]
   exact ⟨h.1,hK2⟩
 | ldt x=>
  simp only [POp.wp] at h ⊢
  split at h
  ·rename_i s off hp
   split at h
   ·rename_i cs hs
    split at h
    ·rename_i n es hc
     try simp only [hp,hs,hc]
     refine ⟨h,.cell s off (.list n es),by simp [Eff.app,hs],⟨cs,hs,hc⟩,by simp,?_,(fun s he=>by cases he),by simp [POp.isNew],(fun s off t he=>by cases he; rfl),fun env2 hl K2 hK2=>?_⟩
     ·intro s' off' t' he
      simp only [Eff.cell.injEq] at he
      obtain ⟨rfl,rfl,rfl⟩:=he
      cases x with
      | c t=>simp [Opd.place] at hp
      | s n=>
       simp only [Opd.place] at hp
       split at hp
       ·rename_i q o hq
        simp only [Option.some.injEq,Prod.mk.injEq] at hp
        exact .inr ⟨n,by simp [POp.slots,Opd.sl],by rw [hq,hp.1]; rfl⟩
       ·simp only [Option.some.injEq,Prod.mk.injEq] at hp
        exact .inl (by simp [POp.slots,Opd.sl,hp.1])
       ·cases hp
     ·obtain ⟨ds,h1,h2⟩:=hl.eff
      simp only [Eff.app,h1] at hK2
      simp only [POp.wp,hl.place (x:=x) (fun s h=>h),hp,h1,h2]
      exact hK2
    ·exact h.elim
   ·exact h.elim
  ·exact h.elim
 | bin k op x y=>
  simp only [POp.wp] at h ⊢
  split at h
  ·rename_i a b hx hy
   try simp only [hx,hy]
   cases hb:binTV k op a b with
   | none=>rw [hb] at h; exact h.elim
   | some t=>
    rw [hb] at h
    refine frame_pure h rfl rfl fun env2 hl K2 hK2=>?_
    simp only [POp.wp,hl.val (x:=x) (fun s h=>mem_l h),hl.val (x:=y) (fun s h=>mem_r h),hx,hy,hb,optK]
    exact hK2
  ·exact h.elim
 | not x=>
  simp only [POp.wp] at h ⊢
  split at h
  ·rename_i b hx
   try simp only [hx]
   refine frame_pure h rfl rfl fun env2 hl K2 hK2=>?_
   simp only [POp.wp,hl.val (x:=x) (fun s h=>h),hx]
   exact hK2
  ·exact h.elim
 | neg x=>
  simp only [POp.wp] at h ⊢
  split at h
  ·rename_i k n hx
   try simp only [hx]
   refine frame_pure h rfl rfl fun env2 hl K2 hK2=>?_
   simp only [POp.wp,hl.val (x:=x) (fun s h=>h),hx]
   exact hK2
  ·exact h.elim
 | pick c a b=>
  simp only [POp.wp] at h ⊢
  split at h
  ·rename_i q hc
   try simp only [hc]
   have key:∀ t,((if q=true then a else b).ev env).val=some t->∀ env2,Like (.pick c a b) .none dst env env2->∀ K2:EV->Env->Prop,K2 (.tv t) env2->(POp.pick c a b).wp S env2 dst K2:=by
    intro t ht env2 hl K2 hK2
    have hv:=hl.val (x:=if q=true then a else b) (fun s h=>by
     cases q
     ·exact mem_r (mem_r h)
     ·exact mem_r (mem_l h))
    simp only [Opd.val] at hv
    rw [ht] at hv
    simp only [POp.wp,hl.val (x:=c) (fun s h=>mem_l h),hc]
    cases he:(if q=true then a else b).ev env2 <;> rw [he] at hv <;> simp [EV.val] at hv <;> subst hv <;> exact hK2
   split at h
   ·rename_i t hx
    try simp only [hx]
    exact frame_pure h rfl rfl (key t (by rw [hx]; rfl))
   ·rename_i t hx
    try simp only [hx]
    exact frame_pure h rfl rfl (key t (by rw [hx]; rfl))
   ·exact h.elim
  ·exact h.elim
 | len x=>
  simp only [POp.wp] at h ⊢
  split at h
  ·rename_i n es hx
   try simp only [hx]
   refine frame_pure h rfl rfl fun env2 hl K2 hK2=>?_
   simp only [POp.wp,hl.val (x:=x) (fun s h=>h),hx]
   exact hK2
  ·exact h.elim
 | slen x=>
  simp only [POp.wp] at h ⊢
  split at h
  ·rename_i s hx
   try simp only [hx]
   refine frame_pure h rfl rfl fun env2 hl K2 hK2=>?_
   simp only [POp.wp,hl.val (x:=x) (fun s h=>h),hx]
   exact hK2
  ·exact h.elim
 | slc n x lo hi=>
  simp only [POp.wp] at h ⊢
  split at h
  ·rename_i m es hx
   try simp only [hx]
   split at h
   ·rename_i k1 l k2 hh h1 h2
    try simp only [h1,h2]
    refine ⟨h.1,h.2.1,frame_pure h.2.2 rfl rfl fun env2 hl K2 hK2=>?_⟩
    simp only [POp.wp,hl.val (x:=x) (fun s h=>mem_l h),hx,hl.bnd (x:=lo) (fun s h=>mem_r (mem_l h)),hl.bnd (x:=hi) (fun s h=>mem_r (mem_r h)),h1,h2]
    exact ⟨h.1,h.2.1,hK2⟩
   ·exact h.elim
  ·exact h.elim
 | sslc x lo hi=>
  simp only [POp.wp] at h ⊢
  split at h
  ·rename_i str hx
   try simp only [hx]
   split at h
   ·rename_i k1 l k2 hh h1 h2
    try simp only [h1,h2]
    refine ⟨h.1,h.2.1,h.2.2.1,frame_pure h.2.2.2 rfl rfl fun env2 hl K2 hK2=>?_⟩
    simp only [POp.wp,hl.val (x:=x) (fun s h=>mem_l h),hx,hl.bnd (x:=lo) (fun s h=>mem_r (mem_l h)),hl.bnd (x:=hi) (fun s h=>mem_r (mem_r h)),h1,h2]
    exact ⟨h.1,h.2.1,h.2.2.1,hK2⟩
   ·exact h.elim
  ·exact h.elim
 | bld zero ps=>
  simp only [POp.wp] at h ⊢
  cases hc:partsTV env ps with
  | none=>rw [hc] at h; exact h.elim
  | some ts=>
   rw [hc] at h
   simp only [optK] at h ⊢
   cases hf:fillTV zero ts with
   | none=>rw [hf] at h; exact h.elim
   | some cs=>
    rw [hf] at h
    refine frame_pure h rfl rfl fun env2 hl K2 hK2=>?_
    simp only [POp.wp,hl.parts (xs:=ps) (fun s h=>h),hc,optK,hf]
    exact hK2
 | lst n ps=>
  simp only [POp.wp] at h ⊢
  cases hc:Go.Sf.vals env ps with
  | none=>rw [hc] at h; exact h.elim
  | some ts=>
   rw [hc] at h
   simp only [optK] at h ⊢
   refine ⟨h.1,frame_pure h.2 rfl rfl fun env2 hl K2 hK2=>?_⟩
   simp only [POp.wp,hl.vals (xs:=ps) (fun s h=>h),hc,optK]
   exact ⟨h.1,hK2⟩
 | app n x y=>
  simp only [POp.wp] at h ⊢
  split at h
  ·rename_i m es m' fs hx hy
   try simp only [hx,hy]
   obtain ⟨h1,h2,h3,h4⟩:=h
   cases x with
   | c t=>simp [Opd.ev] at hx
   | s s=>
    simp only [Opd.ev] at hx
    subst h1
    refine ⟨rfl,h2,h3,h4,.slot s (.list m es),rfl,hx,?_,by simp,(fun s he=>by cases he),by simp [POp.isNew],by simp,fun env2 hl K2 hK2=>?_⟩
    ·intro s' t' he
     simp only [Eff.slot.injEq] at he
     simp [POp.dem,Opd.sl,he.1]
    ·have:=hl.eff
     simp only [Eff.ok] at this
     simp only [POp.wp,Opd.ev,this,hl.val (x:=y) (fun s h=>mem_r h),hy]
     exact ⟨trivial,h2,h3,hK2⟩
  ·exact h.elim
 | call g xs=>
  simp only [POp.wp] at h ⊢
  cases hc:Go.Sf.vals env xs with
  | none=>rw [hc] at h; exact h.elim
  | some ts=>
   rw [hc] at h
   simp only [optK] at h ⊢
   obtain ⟨r,h1,h2⟩:=h
   refine ⟨r,h1,fun hw=>frame_pure (h2 hw) rfl (by cases r <;> rfl) fun env2 hl K2 hK2=>?_⟩
   simp only [POp.wp,hl.vals (xs:=xs) (fun s h=>h),hc,optK]
   exact ⟨r,h1,fun _=>hK2⟩
 | callv x xs=>
  simp only [POp.wp] at h ⊢
  split at h
  ·rename_i g caps ts hx hc
   try simp only [hx,hc]
   obtain ⟨r,h1,h2⟩:=h
   refine ⟨r,h1,fun hw=>frame_pure (h2 hw) rfl (by cases r <;> rfl) fun env2 hl K2 hK2=>?_⟩
   simp only [POp.wp,hl.val (x:=x) (fun s h=>mem_l h),hl.vals (xs:=xs) (fun s h=>mem_r h),hx,hc]
   exact ⟨r,h1,fun _=>hK2⟩
  ·exact h.elim
 | clo g xs=>
  simp only [POp.wp] at h ⊢
  cases hc:Go.Sf.vals env xs with
  | none=>rw [hc] at h; exact h.elim
  | some ts=>
   rw [hc] at h
   simp only [optK] at h ⊢
   refine frame_pure h rfl rfl fun env2 hl K2 hK2=>?_
   simp only [POp.wp,hl.vals (xs:=xs) (fun s h=>h),hc,optK]
   exact hK2
 | ext x i=>
  simp only [POp.wp] at h ⊢
  split at h
  ·rename_i ts hx
   try simp only [hx]
   cases hf:ts[i]? with
   | none=>rw [hf] at h; exact h.elim
   | some t=>
    rw [hf] at h
    refine frame_pure h rfl rfl fun env2 hl K2 hK2=>?_
    have:=(hl.ev (x:=x) (fun s h=>h)).tp hx
    simp only [POp.wp,this,hf,optK]
    exact hK2
  ·exact h.elim
 | cvt k x=>
  simp only [POp.wp] at h ⊢
  split at h
  ·rename_i k n hx
   try simp only [hx]
   refine frame_pure h rfl rfl fun env2 hl K2 hK2=>?_
   simp only [POp.wp,hl.val (x:=x) (fun s h=>h),hx]
   exact hK2
  ·exact h.elim
 | sidx x i=>
  simp only [POp.wp] at h ⊢
  split at h
  ·rename_i str k j hx hi
   try simp only [hx,hi]
   obtain ⟨h1,b,h2,h3⟩:=h
   refine ⟨h1,b,h2,frame_pure h3 rfl rfl fun env2 hl K2 hK2=>?_⟩
   simp only [POp.wp,hl.val (x:=x) (fun s h=>mem_l h),hl.val (x:=i) (fun s h=>mem_r h),hx,hi]
   exact ⟨h1,b,h2,hK2⟩
  ·exact h.elim
 | boxs x=>
  simp only [POp.wp] at h ⊢
  split at h
  ·rename_i t hx
   try simp only [hx]
   refine frame_pure h rfl rfl fun env2 hl K2 hK2=>?_
   simp only [POp.wp,hl.val (x:=x) (fun s h=>h),hx]
   exact hK2
  ·exact h.elim
 | boxo x=>
  simp only [POp.wp] at h ⊢
  split at h
  ·rename_i t d hx
   try simp only [hx]
   refine ⟨h.1,h.2,.none,rfl,trivial,by simp,by simp,(fun s he=>by cases he),fun _=>⟨rfl,fun d' hd=>?_⟩,by simp,fun env2 hl K2 hK2=>?_⟩
   ·simp only [Option.some.injEq] at hd; subst hd; exact h.1
   ·simp only [POp.wp,hl.val (x:=x) (fun s h=>h),hx]
    exact ⟨hl.new rfl _ rfl h.1,hK2⟩
  ·exact h.elim
 | mm mx x y=>
  simp only [POp.wp] at h ⊢
  split at h
  ·rename_i k a k' b hx hy
   try simp only [hx,hy]
   refine ⟨h.1,frame_pure h.2 rfl rfl fun env2 hl K2 hK2=>?_⟩
   simp only [POp.wp,hl.val (x:=x) (fun s h=>mem_l h),hl.val (x:=y) (fun s h=>mem_r h),hx,hy]
   exact ⟨h.1,hK2⟩
  ·exact h.elim
 | alc cs=>
  simp only [POp.wp] at h ⊢
  split at h
  ·rename_i d
   refine ⟨h.1,h.2,.none,rfl,trivial,by simp,by simp,(fun s he=>by cases he),fun _=>⟨rfl,fun d' hd=>?_⟩,by simp,fun env2 hl K2 hK2=>?_⟩
   ·simp only [Option.some.injEq] at hd; subst hd; exact h.1
   ·simp only [POp.wp]
    exact ⟨hl.new rfl _ rfl h.1,hK2⟩
  ·exact h.elim
 | st n x v=>cases hm
 | stb n s v=>cases hm
 | frz s=>cases hm
 | xal _=>cases hm
 | xlen x=>
  simp only [POp.wp] at h ⊢
  cases hx:x.xlist env with
  | none=>rw [hx] at h; exact h.elim
  | some p=>
   rw [hx] at h
   simp only [optK] at h ⊢
   refine frame_pure h rfl rfl fun env2 hl K2 hK2=>?_
   simp only [POp.wp,hl.xlist (x:=x) (fun s h=>h),hx,optK]
   exact hK2
 | lac x=>
  simp only [POp.wp] at h ⊢
  split at h
  ·rename_i s off hx
   split at h
   ·rename_i p hq
    try simp only [hx,hq]
    have hxs:∃ n∈x.sl,env.get n=.bp s off:=by
     cases x with
     | c t=>simp [Opd.ev] at hx
     | s n=>exact ⟨n,by simp [Opd.sl],hx⟩
    obtain ⟨n,hn,hb⟩:=hxs
    refine ⟨h,.none,rfl,trivial,by simp,by simp,?_,by simp [POp.isNew],by simp,fun env2 hl K2 hK2=>?_⟩
    ·intro s' he
     simp only [EV.ref,Option.some.injEq] at he
     subst he
     exact .inr ⟨n,hn,by rw [hb]; rfl⟩
    ·have h1:=(hl.ev (x:=x) (fun s h=>h)).bp hx
     have h2:=(hl.bp n hn s (by rw [hb]; rfl)).xat (some off)
     rw [hq] at h2
     simp only [POp.wp,h1,h2]
     exact hK2
   ·exact h.elim
  ·exact h.elim
 | ctk _=>cases hm
 | cpt _ _=>cases hm
 | cut _ _ _=>cases hm
 | appz _ _ _ _=>cases hm
 | callf g xs=>
  simp only [POp.wp] at h ⊢
  cases hc:Go.Sf.vals env xs with
  | none=>rw [hc] at h; exact h.elim
  | some ts=>
   rw [hc] at h
   simp only [optK] at h ⊢
   obtain ⟨r,h1,h2⟩:=h
   refine ⟨r,h1,frame_pure h2 rfl rfl fun env2 hl K2 hK2=>?_⟩
   simp only [POp.wp,hl.vals (xs:=xs) (fun s h=>h),hc,optK]
   exact ⟨r,h1,hK2⟩
 | callb _ _ _=>cases hm
 | calll g xs=>
  simp only [POp.wp] at h ⊢
  cases hc:Go.Sf.lvals env xs with
  | none=>rw [hc] at h; exact h.elim
  | some ts=>
   rw [hc] at h
   simp only [optK] at h ⊢
   obtain ⟨r,h1,h2⟩:=h
   refine ⟨r,h1,fun hw=>frame_pure (h2 hw) rfl (by cases r <;> rfl) fun env2 hl K2 hK2=>?_⟩
   simp only [POp.wp,hl.lvals (xs:=xs) (fun s h=>h),hc,optK]
   exact ⟨r,h1,fun _=>hK2⟩
 | boxp ps x=>
  simp only [POp.wp] at h ⊢
  split at h
  ·rename_i t d hx
   try simp only [hx]
   cases hc:boxCells ps t.cells with
   | none=>rw [hc] at h; exact h.elim
   | some cs=>
    rw [hc] at h
    simp only [optK] at h ⊢
    refine ⟨h.1,h.2,.none,rfl,trivial,by simp,by simp,(fun s he=>by cases he),fun _=>⟨rfl,fun d' hd=>?_⟩,by simp,fun env2 hl K2 hK2=>?_⟩
    ·simp only [Option.some.injEq] at hd; subst hd; exact h.1
    ·simp only [POp.wp,hl.val (x:=x) (fun s h=>h),hx,hc,optK]
     exact ⟨hl.new rfl _ rfl h.1,hK2⟩
  ·exact h.elim
 | xia _ _ _=>cases hm
 | xfa _ _=>cases hm
 | xld _=>cases hm
 | xst _ _=>cases hm
 | rel _=>cases hm
 | nilx _=>cases hm
 | tkx _=>cases hm
 | appx _ _ _=>cases hm
 | callx g xs=>
  simp only [POp.wp] at h ⊢
  split at h
  ·rename_i d
   obtain ⟨hno,h⟩:=h
   refine ⟨hno,?_⟩
   cases hc:Go.Sf.vals env xs with
   | none=>rw [hc] at h; exact h.elim
   | some ts=>
    rw [hc] at h
    simp only [optK] at h ⊢
    obtain ⟨n,es,h1,h2⟩:=h
    refine ⟨n,es,h1,fun hw=>⟨h2 hw,.none,rfl,trivial,by simp,by simp,(fun s he=>by cases he),fun _=>⟨rfl,fun d' hd=>?_⟩,by simp,fun env2 hl K2 hK2=>?_⟩⟩
    ·simp only [Option.some.injEq] at hd; subst hd; exact hno
    ·simp only [POp.wp,hl.vals (xs:=xs) (fun s h=>h),hc,optK]
     exact ⟨hl.new rfl _ rfl hno,n,es,h1,fun _=>hK2⟩
  ·exact h.elim
 | mkx n z x=>
  simp only [POp.wp] at h ⊢
  split at h
  ·rename_i d k j hx
   try simp only [hx]
   obtain ⟨hno,h1,h2,h3⟩:=h
   refine ⟨hno,h1,h2,h3,.none,rfl,trivial,by simp,by simp,(fun s he=>by cases he),fun _=>⟨rfl,fun d' hd=>?_⟩,by simp,fun env2 hl K2 hK2=>?_⟩
   ·simp only [Option.some.injEq] at hd; subst hd; exact hno
   ·simp only [POp.wp,hl.val (x:=x) (fun s h=>h),hx]
    exact ⟨hl.new rfl _ rfl hno,h1,h2,hK2⟩
  ·exact h.elim
 | callm _ _=>cases hm
 | callc _ _=>cases hm
 | bldo _=>cases hm
 | stx _ _ _=>cases hm
 | isn _=>cases hm
 | callg g xs=>
  simp only [POp.wp] at h ⊢
  cases hc:Go.Sf.vals env xs with
  | none=>rw [hc] at h; exact h.elim
  | some ts=>
   rw [hc] at h
   simp only [optK] at h ⊢
   obtain ⟨r,h1,h2⟩:=h
   refine ⟨r,h1,fun hw=>frame_pure (h2 hw) rfl rfl fun env2 hl K2 hK2=>?_⟩
   simp only [POp.wp,hl.vals (xs:=xs) (fun s h=>h),hc,optK]
   exact ⟨r,h1,fun _=>hK2⟩
 | fldv x k n agg=>
  simp only [POp.wp] at h ⊢
  split at h
  ·rename_i cs hx
   try simp only [hx]
   obtain ⟨h1,h2⟩:=h
   refine ⟨h1,?_⟩
   cases agg with
   | true=>
    simp only [if_true] at h2 ⊢
    refine frame_pure h2 rfl rfl fun env2 hl K2 hK2=>?_
    simp only [POp.wp,hl.val (x:=x) (fun s h=>h),hx,if_true]
    exact ⟨h1,hK2⟩
   | false=>
    simp only [Bool.false_eq_true,if_false] at h2 ⊢
    cases hc:leafOf (cs.drop k) with
    | none=>rw [hc] at h2; exact h2.elim
    | some t=>
     rw [hc] at h2
     simp only [optK] at h2 ⊢
     refine frame_pure h2 rfl rfl fun env2 hl K2 hK2=>?_
     simp only [POp.wp,hl.val (x:=x) (fun s h=>h),hx,Bool.false_eq_true,if_false,hc,optK]
     exact ⟨h1,hK2⟩
  ·exact h.elim
end
end Go.Sf
