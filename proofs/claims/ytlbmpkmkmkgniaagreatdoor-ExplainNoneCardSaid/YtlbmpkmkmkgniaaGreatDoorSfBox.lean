/- Boxes: variables in memory that a function has by itself. -/
import Derived.Test.YtlbmpkmkmkgniaaGreatDoorSfApp
namespace Go.Sf
open Go.RowKit (Below)
def Xw:TV->Bool
 | .list _ es=>es.isEmpty
 | .xl _ es=>es.isEmpty
 | _=>false
def Pc (c:AU) (v:Value):Bool:=if c.own then Xw c.t&&KX v else E2 c.t v&&v.oneCell'
def L0:List AU->List Value->Bool
 | [],vs=>vs.isEmpty
 | c::cs,vs=>match vs with | v::vs=>Pc c v&&L0 cs vs | []=>false
section
variable {w:World} {F:Nat->Nat->Prop}
theorem QF {c:AU} {v:Value} (h:Pc c v=true):CS w F none c v∧c.t.WF:=by
 obtain ⟨_ | _,t⟩:=c
 ·simp only [Pc,Bool.false_eq_true,if_false,zzZ] at h
  have h4:=Ho w F t v h.1
  exact ⟨⟨h4.1,h.2⟩,h4.2⟩
 ·simp only [Pc,if_true,zzZ] at h
  cases t <;> simp only [Xw,Bool.false_eq_true,false_and] at h
  ·rename_i n es
   rw [List.isEmpty_iff] at h
   obtain ⟨rfl,h⟩:=h
   refine ⟨?_,by simp,trivial⟩
   simp only [CS,IE,CQ]
   exact ⟨[],⟨by simp,.inl ⟨J0 h,rfl,rfl⟩⟩,rfl,by simp,by simp⟩
  ·rename_i n es
   rw [List.isEmpty_iff] at h
   obtain ⟨rfl,h⟩:=h
   refine ⟨?_,by simp,trivial⟩
   simp only [CS,IE]
   exact ⟨[],⟨none,⟨by simp,.inl ⟨J0 h,rfl,rfl⟩⟩,rfl⟩,rfl,by simp,by simp⟩
theorem LT:∀ {cs:List AU} {vs:List Value},L0 cs vs=true->vs.length=cs.length∧(∀ (i:Nat) (c:AU),cs[i]?=some c->∃ x,vs[i]?=some x∧CS w F none c x)∧∀ c∈cs,c.t.WF
 | [],vs,h=>by simp [L0] at h; subst h; simp
 | c::cs,[],h=>by simp [L0] at h
 | c::cs,v::vs,h=>by
  simp only [L0,zzZ] at h
  obtain ⟨h1,h2,h3⟩:=LT (cs:=cs) (vs:=vs) h.2
  have h4:=QF (w:=w) (F:=F) h.1
  refine ⟨by simp [h1],fun i c' hc=>?_,fun c' hc=>?_⟩
  ·cases i with
   | zero=>simp at hc; subst hc; exact ⟨v,rfl,h4.1⟩
   | succ i=>exact h2 i c' (by simpa using hc)
  ·rcases List.mem_cons.1 hc with rfl | hc
   ·exact h4.2
   ·exact h3 c' hc
end
def Pm (env:AC):Option Nat->AC
 | some q=>Go.Sf.strip env q
 | none=>env
theorem Ow (env:AC) (q:Option Nat) (p:Nat):(Pm env q).get p=.undef∨((Pm env q).get p=env.get p∧some p≠q):=by
 cases q with
 | none=>exact .inr ⟨rfl,by simp⟩
 | some q'=>
  simp only [Pm,Go.Sf.strip,AC.get_cons]
  split
  ·exact .inl rfl
  ·rename_i hne
   exact .inr ⟨rfl,fun e=>hne (by simpa using e.symm)⟩
section
variable {P:Program} {S:FuncId->List TV->CH->Prop} {F0:Nat->Nat->Prop} {w0:W0} {env:AC} {a:Act} {w:World} {G:DE} {d:Nat} {o:Oper} {K:EV->AC->Prop}
theorem AT.box (h:AT F0 w0 env a w G) (hd:d<a.tmps.size) (hno:env.noRef d=true) {cs:List AU} {c:Array Value} {T:TypeId} (hl:c.size=cs.length)
  (hc:∀ F',DK w (w.alloc (.cells c T)) (AY w0.heap.size F0 G) F'->∀ (i:Nat) (x:AU),cs[i]?=some x->∃ v,c[i]?=some v∧CS (w.alloc (.cells c T)) F' none x v) (hw:∀ x∈cs,x.t.WF) :
  C2 F0 w0 ((d,.bx cs)::env) (a.put (some d) (.pointer (some ⟨w.heap.size,0,none⟩))) (w.alloc (.cells c T)):=by
 have hb:Below w.heap.size w (w.alloc (.cells c T)):=(Below.refl _ _).alloc (Nat.le_refl _) _
 have hz:∀ (i:Option Nat) b lo,(if i=none then some (w.heap.size,0) else none)=some (b,lo)->w.heap.size<=b∧b<(w.alloc (.cells c T)).heap.size:=by
  intro i b lo hi
  split at hi
  ·simp only [zzY,Prod.mk.injEq] at hi
   rw [←hi.1]; exact ⟨Nat.le_refl _,by simp⟩
  ·cases hi
 have hag:=KS (F0:=F0) (w0:=w0) (G:=G) hb d (fun i=>if i=none then some (w.heap.size,0) else none) (fun i b lo hi=>(hz i b lo hi).1)
 refine ⟨_,h.quiet hb d hd (.bx cs) _ (fun i=>if i=none then some (w.heap.size,0) else none) hz (fun i i' b lo lo' h1 h2=>?_) (fun _=>hno) ?_ hw⟩
 ·split at h1
  ·split at h2
   ·simp_all
   ·cases h2
  ·cases h1
 ·simp only [AS]
  refine ⟨_,c,T,rfl,heap_alloc_new w _,hl,by rw [B0]; simp,fun i x hx=>?_⟩
  obtain ⟨v,h1,h2⟩:=hc _ hag i x hx
  refine ⟨v,h1,?_⟩
  rw [B0]
  simpa using h2
theorem Yd (hI:AT F0 w0 env a w G) (hd:d<a.tmps.size) {x:Operand} {y:AJ} {t:TypeId} (hop:o.op=.box t x) (hok:AP x y=true) (h:(AH.boxo y).wp S env (some d) K):BS P F0 w0 a w o d K:=by
 simp only [AH.wp] at h
 split at h
 ·rename_i u d' hv hdd
  simp only [zzY] at hdd
  subst hdd
  obtain ⟨hno,hK⟩:=h
  have h1:=BL hI hok hv
  have h2:=IY h1.1
  have h3:=CC h2.1
  refine ⟨_,_,by simp [execOp,hop,Instr.box,newVar,newRow],_,_,hK,hI.box hd hno (c:=(a.eval x).cells) (T:=t) (by simpa using h3) (fun F' hag i c hc=>?_) (fun c hc=>?_)⟩
  ·rw [List.getElem?_map] at hc
   simp only [Option.map_eq_some_iff] at hc
   obtain ⟨tt,ht,rfl⟩:=hc
   have hlt:i<u.cells.length:=by
    rcases Nat.lt_or_ge i u.cells.length with h | h
    ·exact h
    ·rw [List.getElem?_eq_none h] at ht; cases ht
   have hx:(a.eval x).cells.toList[i]?=some ((a.eval x).cells.toList[i]'(by omega)):=List.getElem?_eq_getElem (by omega)
   refine ⟨(a.eval x).cells.toList[i]'(by omega),by rw [←Array.getElem?_toList]; exact hx,?_,h2.2 _ (List.getElem_mem _)⟩
   exact C1 hag _ _ (((CD _ _).1 h2.1).2 i tt _ ht hx)
  ·simp only [List.mem_map] at hc
   obtain ⟨tt,ht,rfl⟩:=hc
   exact CJ.1 (JS h1.2) tt ht
 ·exact h.elim
theorem Zy (hI:AT F0 w0 env a w G) (hd:d<a.tmps.size) {t:TypeId} {i:TypeInfo} {z:Value} {cs:List AU} (hop:o.op=.alloc t) (hi:P.info? t=some i) (hz:i.zero=some z) (hok:L0 cs z.cells.toList=true) (h:(AH.alc cs).wp S env (some d) K):BS P F0 w0 a w o d K:=by
 simp only [AH.wp] at h
 obtain ⟨hno,hK⟩:=h
 refine ⟨_,_,?_,_,_,hK,hI.box hd hno (c:=z.cells) (T:=t) (by have:=(LT (w:=w) (F:=fun _ _=>False) hok).1; simpa using this) (fun F' _ i c hc=>?_) (LT (w:=w) (F:=fun _ _=>False) hok).2.2⟩
 ·simp [execOp,hop,Instr.alloc,zeroValue,typeInfo,hi,hz,newVar,newRow]
 ·obtain ⟨x,h1,h2⟩:=(LT hok).2.1 i c hc
  exact ⟨x,by simpa using h1,h2⟩
theorem JO (hI:AT F0 w0 env a w G) {x:Operand} {y:AJ} (hok:AP x y=true) {s off:Nat} (hp:y.place env=some (s,off)) {cs:List AU} (hs:env.get s=.bx cs) :
  ∃ b,slot a s=.pointer (some ⟨b,0,none⟩)∧a.eval x=.pointer (some ⟨b,off,none⟩):=by
 cases y with
 | c t=>simp [AJ.place] at hp
 | s n=>
  cases x <;> simp [AP] at hok
  subst hok
  rename_i n
  simp only [AJ.place] at hp
  have hr:=A4 hI hs (by simp)
  simp only [AS] at hr
  obtain ⟨b,c,T,h1,_⟩:=hr
  split at hp
  ·rename_i q off' he
   simp only [zzY,Prod.mk.injEq] at hp
   obtain ⟨rfl,rfl⟩:=hp
   have hr:=A4 hI he (by simp)
   simp only [AS] at hr
   obtain ⟨b',h5,h6⟩:=hr ⟨cs,hs⟩
   exact ⟨b',h5,h6⟩
  ·rename_i cs' he
   simp only [zzY,Prod.mk.injEq] at hp
   obtain ⟨rfl,rfl⟩:=hp
   exact ⟨b,h1,h1⟩
  ·cases hp
theorem AT.rebox (h:AT F0 w0 env a w G) {s:Nat} {cs cs':List AU} (hs:env.get s=.bx cs) {b:Nat} (hsl:slot a s=.pointer (some ⟨b,0,none⟩)) {c c':Array Value} {T:TypeId} (hblk:w.heap[b]?=some (.cells c T (0,0)))
  {q:Option Nat} (hqs:q≠some s) {zs:Option Nat->Option (Nat × Nat)} (hzb:zs none=some (b,0))
  (hz:∀ i b' lo,i≠none->zs i=some (b',lo)->G s i=some (b',lo)∨∃ q',q=some q'∧∃ j,G q' j=some (b',lo))
  (hzu:∀ i i' b' lo lo',zs i=some (b',lo)->zs i'=some (b',lo')->i=i')
  (hl:c'.size=cs'.length) (hcs:∀ F' w',DK w w' (AY w0.heap.size F0 G) F'->(∀ k,k≠b->w'.heap[k]?=w.heap[k]?)->∀ (i:Nat) (x:AU),cs'[i]?=some x->∃ v,c'[i]?=some v∧CS w' F' (zs (some i)) x v)
  (hw:∀ x∈cs',x.t.WF) (hx:∀ (k n:Nat) (es:List TV),cs'[k]?=some ⟨true,.xl n es⟩->(env.noX s (some k)=true∨((∃ p,env.xat s (some k)=some p)∧c'[k]?=c[k]?))) :
  ∃ G',AT F0 w0 ((s,.bx cs')::Pm env q) a (w.setRow b c') G'∧DK w (w.setRow b c') (AY w0.heap.size F0 G) (AY w0.heap.size F0 G'):=by
 have hsz:s<a.tmps.size:=GA h hs (by simp)
 have hG0:G s none=some (b,0):=by
  have:=A4 h hs (by simp)
  simp only [AS] at this
  obtain ⟨b',_,_,h1,_,_,h4,_⟩:=this
  rw [hsl] at h1
  simp only [Value.pointer.injEq,zzY,Addr.mk.injEq,and_true,and_self] at h1
  rw [h1]; exact h4
 let G':DE:=fun p=>if p=s then zs else if some p=q then (fun _=>none) else G p
 have hsame:G' s=zs:=by simp [G']
 have hback:∀ p i b' lo,G' p i=some (b',lo)->∃ p' i',G p' i'=some (b',lo)∧(p'=p∨some p'=q)∧(p≠s->p'=p∧i'=i):=by
  intro p i b' lo hp
  by_cases hps:p=s
  ·subst hps
   rw [hsame] at hp
   by_cases hi:i=none
   ·subst hi
    rw [hzb] at hp
    simp only [zzY,Prod.mk.injEq] at hp
    obtain ⟨rfl,rfl⟩:=hp
    exact ⟨p,none,hG0,.inl rfl,fun h=>absurd rfl h⟩
   ·rcases hz i b' lo hi hp with h1 | ⟨q',h1,j,h2⟩
    ·exact ⟨p,i,h1,.inl rfl,fun h=>absurd rfl h⟩
    ·exact ⟨q',j,h2,.inr h1.symm,fun h=>absurd rfl h⟩
  ·simp only [G',if_neg hps] at hp
   split at hp
   ·cases hp
   ·exact ⟨p,i,hp,.inl rfl,fun _=>⟨rfl,rfl⟩⟩
 have hqout:∀ p i b' lo,G' p i=some (b',lo)->some p≠q:=by
  intro p i b' lo hp hpq
  by_cases hps:p=s
  ·subst hps; exact hqs hpq.symm
  ·simp only [G',if_neg hps,if_pos hpq] at hp; cases hp
 have hother:∀ k,k≠b->(w.setRow b c').heap[k]?=w.heap[k]?:=fun k hk=>setRow_other w b k _ hk
 have hag:DK w (w.setRow b c') (AY w0.heap.size F0 G) (AY w0.heap.size F0 G'):=by
  intro b' o v hc hF
  have hbb:b'≠b:=fun e=>hF (.inr ⟨s,none,0,by rw [e]; exact hG0,Nat.zero_le _⟩)
  refine ⟨by rw [World.cell?_of_block (w:=w) (a:=⟨b',o,none⟩) (hother b' hbb)]; exact hc,fun hF'=>hF ?_⟩
  rcases hF' with h1 | ⟨p,i,lo,h1,h2⟩
  ·exact .inl h1
  ·obtain ⟨p',i',h3,_⟩:=hback p i b' lo h1
   exact .inr ⟨p',i',lo,h3,h2⟩
 have hbelow:Iw F0 w0 (w.setRow b c'):=h.below.but rfl rfl rfl (by simp) (Z:=fun k=>k=b) (fun k hk=>by rw [hk]; exact (h.lt _ _ _ _ hG0).2.imp id (fun e o=>e o (Nat.zero_le _))) (fun k _ hk=>hother k hk)
 refine ⟨G',⟨?_,?_,hbelow,h.defers,?_,?_,?_⟩,hag⟩
 ·intro p i p' i' b' lo lo' h1 h2
  by_cases hps:p=s <;> by_cases hps':p'=s
  ·subst hps; subst hps'
   rw [hsame] at h1 h2
   exact ⟨rfl,hzu i i' b' lo lo' h1 h2⟩
  ·obtain ⟨r,j,e1,e2,_⟩:=hback p i b' lo h1
   obtain ⟨r',j',e3,_,e4⟩:=hback p' i' b' lo' h2
   obtain ⟨rfl,rfl⟩:=e4 hps'
   obtain ⟨rfl,_⟩:=h.uniq _ _ _ _ _ _ _ e1 e3
   rcases e2 with e2 | e2
   ·exact absurd (e2.trans hps) hps'
   ·exact absurd e2 (hqout _ _ _ _ h2)
  ·obtain ⟨r,j,e1,e2,_⟩:=hback p' i' b' lo' h2
   obtain ⟨r',j',e3,_,e4⟩:=hback p i b' lo h1
   obtain ⟨rfl,rfl⟩:=e4 hps
   obtain ⟨rfl,_⟩:=h.uniq _ _ _ _ _ _ _ e1 e3
   rcases e2 with e2 | e2
   ·exact absurd (e2.trans hps') hps
   ·exact absurd e2 (hqout _ _ _ _ h1)
  ·obtain ⟨r,j,e1,_,e2⟩:=hback p i b' lo h1
   obtain ⟨r',j',e3,_,e4⟩:=hback p' i' b' lo' h2
   obtain ⟨rfl,rfl⟩:=e2 hps
   obtain ⟨rfl,rfl⟩:=e4 hps'
   exact h.uniq _ _ _ _ _ _ _ e1 e3
 ·intro p i b' lo h1
  obtain ⟨r,j,e1,_⟩:=hback p i b' lo h1
  have:=h.lt _ _ _ _ e1
  exact ⟨by simpa using this.1,this.2⟩
 ·intro p hp
  rw [AC.get_cons,if_neg (by omega)]
  cases q with
  | none=>exact h.dom p hp
  | some q'=>exact (h.strip q').dom p hp
 ·intro p hp
  rw [AC.get_cons]
  by_cases hps:s=p
  ·subst hps
   rw [if_pos rfl]
   simp only [AS]
   refine ⟨b,c',T,hsl,setRow_heap w b c c' T (0,0) hblk,hl,by rw [hsame]; exact hzb,fun i x hx=>?_⟩
   obtain ⟨v,h1,h2⟩:=hcs _ _ hag hother i x hx
   exact ⟨v,h1,by rw [hsame]; exact h2⟩
  ·rw [if_neg hps]
   have hcase:=Ow env q p
   rcases hcase with he | ⟨he,hpq⟩ <;> rw [he]
   ·trivial
   ·have hGp:∀ i,G' p i=G p i:=fun i=>by simp only [G']; rw [if_neg (fun e=>hps e.symm),if_neg hpq]
    refine AS.kept hag hGp (fun i b' lo hb'=>hother b' (fun e=>hps (h.uniq _ _ _ _ _ _ _ hG0 (e ▸ hb')).1)) (fun r off hr ⟨cs'',hcs''⟩=>⟨?_,rfl⟩) (fun r i hr ⟨pp,hpp⟩=>?_) (h.slots p hp)
    ·rw [AC.get_cons] at hcs''
     split at hcs''
     ·rename_i hsr; subst hsr; exact ⟨cs,hs⟩
     ·rcases Ow env q r with he | ⟨he,_⟩ <;> rw [he] at hcs''
      ·cases hcs''
      ·exact ⟨_,hcs''⟩
    ·by_cases hsr:s=r
     ·subst hsr
      obtain ⟨n,es⟩:=pp
      cases i with
      | none=>have:=AC.xat_none hpp; rw [AC.get_cons,if_pos rfl] at this; cases this
      | some k=>
       obtain ⟨cs'',h1,h2⟩:=AC.xat_some hpp
       rw [AC.get_cons,if_pos rfl] at h1
       simp only [EV.bx.injEq] at h1
       subst h1
       rcases hx k n es h2 with h3 | ⟨h3,h4⟩
       ·have h5:=AC.noX_spec h3 p k (.inr rfl)
        rcases hr with hr | ⟨c,hr⟩
        ·exact absurd hr h5.1
        ·exact absurd hr (h5.2 c)
       ·refine ⟨h3,fun v hv=>?_⟩
        obtain ⟨b',c0,T0,e1,e2,e3⟩:=hv
        rw [hsl] at e1
        simp only [Value.pointer.injEq,zzY,Addr.mk.injEq,and_true,and_self] at e1
        subst e1
        rw [hblk] at e2
        cases e2
        exact ⟨_,_,_,hsl,setRow_heap w _ _ c' _ (0,0) hblk,h4.trans e3⟩
     ·rw [AC.xat_cons hsr] at hpp
      have hp2:env.xat r i=some pp:=by
       rcases Ow env q r with he | ⟨he,_⟩
       ·rw [AC.xat_undef he] at hpp; cases hpp
       ·rw [←hpp]; exact (AC.xat_of he).symm
      exact ⟨⟨pp,hp2⟩,h.xv ⟨pp,hp2⟩ rfl (fun b' hb'=>hother b' (fun e=>hsr (h.uniq _ _ _ _ _ _ _ hG0 (e ▸ hb')).1))⟩
 ·intro p
  rw [AC.get_cons]
  split
  ·exact hw
  ·cases q with
   | none=>exact h.wf p
   | some q'=>exact (h.strip q').wf p
end
end Go.Sf
