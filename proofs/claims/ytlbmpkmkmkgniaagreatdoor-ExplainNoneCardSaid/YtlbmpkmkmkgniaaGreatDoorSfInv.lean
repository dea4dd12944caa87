/- The invariant between an environment of the pure language and a frame with memory. -/
import Derived.Test.YtlbmpkmkmkgniaaGreatDoorSfSem
import Derived.Laws.AppendOwn
namespace Go.Sf
open Go.RowKit (Below)
def HF (w:World) (size:Nat) (v:Value) (n:Nat) (xs:List Value) (z:Option (Nat × Nat)):Prop:=
 xs.length=n*size ∧
 ((v=.slice none 0 0∧n=0∧z=none) ∨
 ∃ g cap cur e,v=.slice (some ⟨g,0,none⟩) n cap∧w.heap[g]?=some (.cells cur e (0,0))∧n<=cap∧cap<=maxLen∧cur.size=cap*size∧cur.toList.take (n*size)=xs∧z=some (g,n*size))
def Jr (w:World) (size:Nat) (v:Value) (n:Nat) (xs:List Value) (z:Option (Nat × Nat)):Prop:=
 ∃ z0,HF w size v n xs z0∧z=z0.map fun p=>(p.1,0)
def CQ (w:World) (F:Nat->Nat->Prop) (z:Option (Nat × Nat)):TV->Value->Prop
 | .list n es,v=>∃ xs,HF w n v es.length xs z∧AQ w F (es.flatMap TV.cells) xs∧(∀ e∈es,e.cells.length=n)∧∀ x∈xs,x.oneCell'=true
 | _,_=>False
def IE (w:World) (F:Nat->Nat->Prop) (z:Option (Nat × Nat)):TV->Value->Prop
 | .xl n es,v=>∃ xs,Jr w n v es.length xs z∧AQ w F (es.flatMap TV.cells) xs∧(∀ e∈es,e.cells.length=n)∧∀ x∈xs,x.oneCell'=true
 | t,v=>CQ w F z t v
theorem CQ.c {w:World} {F:Nat->Nat->Prop} {z:Option (Nat × Nat)} {t:TV} {v:Value} (h:CQ w F z t v):IE w F z t v:=by
 cases t <;> first | exact h | (simp only [CQ] at h)
def CS (w:World) (F:Nat->Nat->Prop) (z:Option (Nat × Nat)) (c:AU) (v:Value):Prop:=
 match c with
 | ⟨true,t⟩=>IE w F z t v
 | ⟨false,t⟩=>A1 w F t v∧v.oneCell'=true
abbrev DE:=Nat->Option Nat->Option (Nat × Nat)
def AY (base:Nat) (F0:Nat->Nat->Prop) (G:DE) (b o:Nat):Prop:=(b<base∧F0 b o)∨∃ s i lo,G s i=some (b,lo)∧lo<=o
def slot (a:Act) (s:Nat):Value:=a.tmps.getD s undef
def XV (a:Act) (w:World) (q:Nat) (i:Option Nat) (v:Value):Prop:=
 match i with
 | none=>v=slot a q
 | some k=>∃ b c T,slot a q=.pointer (some ⟨b,0,none⟩)∧w.heap[b]?=some (.cells c T (0,0))∧c[k]?=some v
def AS (a:Act) (w:World) (F:Nat->Nat->Prop) (G:DE) (env:AC) (s:Nat):EV->Value->Prop
 | .undef,_=>True
 | .sk,v=>v=undef
 | .tv t,v=>A1 w F t v
 | .ow t,v=>CQ w F (G s none) t v
 | .bx cs,v=>∃ b c T,v=.pointer (some ⟨b,0,none⟩)∧w.heap[b]?=some (.cells c T (0,0))∧c.size=cs.length∧G s none=some (b,0)∧∀ (i:Nat) (d:AU),cs[i]?=some d->∃ x,c[i]?=some x∧CS w F (G s (some i)) d x
 | .bp q off,v=>(∃ cs,env.get q=.bx cs)->∃ b,slot a q=.pointer (some ⟨b,0,none⟩)∧v=.pointer (some ⟨b,off,none⟩)
 | .tp ts,v=>∃ vs,v=.tuple vs∧AQ w F ts vs.toList
 | .xo n es,v=>∃ xs,Jr w n v es.length xs (G s none)∧AQ w F (es.flatMap TV.cells) xs∧(∀ e∈es,e.cells.length=n)∧∀ x∈xs,x.oneCell'=true
 | .oag cs,v=>∃ vs,v=.agg vs∧vs.size=cs.length∧∀ (i:Nat) (d:AU),cs[i]?=some d->∃ x,vs[i]?=some x∧CS w F (G s (some i)) d x
 | .la q i,v=>(∃ p,env.xat q i=some p)->XV a w q i v
 | .lp q i c,v=>(∃ p,env.xat q i=some p)->∃ g len cap,XV a w q i (.slice (some ⟨g,0,none⟩) len cap)∧v=.pointer (some ⟨g,c,none⟩)
structure W0 extends World where
 E:Nat->Nat->Prop
theorem IE.own {w:World} {F:Nat->Nat->Prop} {z:Option (Nat × Nat)} {t:TV} {v:Value} (h:IE w F z t v) (hx:t.isXl=false):CQ w F z t v:=by
 cases t <;> first | exact h | (simp [TV.isXl] at hx)
structure Iw (F0:Nat->Nat->Prop) (w0:W0) (w:World):Prop where
 os:w.os=w0.os
 tape:w.tape=w0.tape
 output:w.output=w0.output
 size:w0.heap.size<=w.heap.size
 block:∀ k,k<w0.heap.size->(∀ o,¬ w0.E k o)->w.heap[k]?=w0.heap[k]?
 cell:∀ b o u,¬ w0.E b o->w0.cell? ⟨b,o,none⟩=some u->w.cell? ⟨b,o,none⟩=some u
 free:∀ b o o',w0.E b o->¬ F0 b o'
theorem Iw.trans {F0:Nat->Nat->Prop} {w0:W0} {w w':World} (h:Iw F0 w0 w) (h1:w'.os=w.os) (h2:w'.tape=w.tape) (h3:w'.output=w.output) (h4:w.heap.size<=w'.heap.size) (h5:∀ k,k<w0.heap.size->(∀ o,¬ w0.E k o)->w'.heap[k]?=w.heap[k]?) (h6:∀ b o u,b<w0.heap.size->¬ w0.E b o->w.cell? ⟨b,o,none⟩=some u->w'.cell? ⟨b,o,none⟩=some u):Iw F0 w0 w':=
 ⟨h1.trans h.os,h2.trans h.tape,h3.trans h.output,Nat.le_trans h.size h4,fun b hb he=>(h5 b hb he).trans (h.block b hb he),fun b o u he hu=>h6 b o u (World.block_lt_of_cell? _ ⟨b,o,none⟩ hu) he (h.cell b o u he hu),h.free⟩
theorem Iw.but {F0:Nat->Nat->Prop} {w0:W0} {w w':World} (h:Iw F0 w0 w) (h1:w'.os=w.os) (h2:w'.tape=w.tape) (h3:w'.output=w.output) (h4:w.heap.size<=w'.heap.size) {Z:Nat->Prop} (hz:∀ b,Z b->w0.heap.size<=b∨∀ o,w0.E b o) (h5:∀ k,k<w0.heap.size->¬ Z k->w'.heap[k]?=w.heap[k]?):Iw F0 w0 w':=
 h.trans h1 h2 h3 h4 (fun k hk he=>h5 k hk fun z=>(hz k z).elim (fun e=>by omega) (fun e=>he 0 (e 0))) (fun b o u hb he hu=>by
  rw [World.cell?_of_block (w:=w) (a:=⟨b,o,none⟩) (h5 b hb fun z=>(hz b z).elim (fun e=>by omega) (fun e=>he (e o)))]; exact hu)
theorem Iw.go {F0:Nat->Nat->Prop} {w0:W0} {w w':World} (h:Iw F0 w0 w) (k:Below w.heap.size w w'):Iw F0 w0 w':=
 h.trans k.os k.tape k.output k.size (fun b hb _=>k.block b (Nat.lt_of_lt_of_le hb h.size)) (fun b o u hb _ hu=>by rw [k.cell (p:=⟨b,o,none⟩) (Nat.lt_of_lt_of_le hb h.size)]; exact hu)
structure AT (F0:Nat->Nat->Prop) (w0:W0) (env:AC) (a:Act) (w:World) (G:DE):Prop where
 uniq:∀ s i s' i' b lo lo',G s i=some (b,lo)->G s' i'=some (b,lo')->s=s'∧i=i'
 lt:∀ s i b lo,G s i=some (b,lo)->b<w.heap.size∧(w0.heap.size<=b∨∀ o,lo<=o->w0.E b o)
 below:Iw F0 w0 w
 defers:a.defers=[]
 dom:∀ s,a.tmps.size<=s->env.get s=.undef
 slots:∀ s,s<a.tmps.size->AS a w (AY w0.heap.size F0 G) G env s (env.get s) (slot a s)
 wf:∀ s,(env.get s).WF
def C2 (F0:Nat->Nat->Prop) (w0:W0) (env:AC) (a:Act) (w:World):Prop:=∃ G,AT F0 w0 env a w G
theorem AC.get_cons (k:Nat) (e:EV) (env:AC) (n:Nat):AC.get ((k,e)::env) n=if k=n then e else env.get n:=rfl
theorem AC.get_map_keep (env:AC):∀ (live:List Nat) (n:Nat),AC.get (live.map fun s=>(s,env.get s)) n=if n∈live then env.get n else .undef
 | [],n=>by simp [AC.get]
 | s::live,n=>by
  simp only [List.map_cons,AC.get,AC.get_map_keep env live n,List.mem_cons]
  by_cases h:s=n
  ·subst h; simp
  ·have h':¬ n=s:=fun e=>h e.symm
   simp [h,h']
theorem AC.get_keep (env:AC) (live:List Nat) (n:Nat):(env.keep live).get n=if n∈live then env.get n else .undef:=AC.get_map_keep env live n
theorem AC.xat_of {env env':AC} {q:Nat} {i:Option Nat} (h:env'.get q=env.get q):env'.xat q i=env.xat q i:=by
 cases i <;> simp only [AC.xat,h]
theorem AC.xat_undef {env:AC} {q:Nat} {i:Option Nat} (h:env.get q=.undef):env.xat q i=none:=by
 cases i <;> simp only [AC.xat,h]
theorem AC.xat_keep {env:AC} {live:List Nat} {q:Nat} {i:Option Nat} (h:∃ p,(env.keep live).xat q i=some p):∃ p,env.xat q i=some p:=by
 obtain ⟨p,hp⟩:=h
 by_cases hm:q∈live
 ·exact ⟨p,by rw [←AC.xat_of (env:=env) (env':=env.keep live) (by rw [AC.get_keep,if_pos hm])]; exact hp⟩
 ·rw [AC.xat_undef (by rw [AC.get_keep,if_neg hm])] at hp; cases hp
theorem AC.xat_some {env:AC} {q k:Nat} {n:Nat} {es:List TV} (h:env.xat q (some k)=some (n,es)):∃ cs,env.get q=.bx cs∧cs[k]?=some ⟨true,.xl n es⟩:=by
 simp only [AC.xat] at h
 split at h
 ·rename_i cs hq
  split at h
  ·rename_i n' es' hk
   simp only [zzY,Prod.mk.injEq] at h
   obtain ⟨rfl,rfl⟩:=h
   exact ⟨cs,hq,hk⟩
  ·cases h
 ·cases h
theorem AC.xat_none {env:AC} {q:Nat} {n:Nat} {es:List TV} (h:env.xat q none=some (n,es)):env.get q=.xo n es:=by
 simp only [AC.xat] at h
 split at h
 ·rename_i n' es' hq
  simp only [zzY,Prod.mk.injEq] at h
  obtain ⟨rfl,rfl⟩:=h
  exact hq
 ·cases h
theorem AY.mono {base:Nat} {F0:Nat->Nat->Prop} {G G':DE} (h:∀ s i b lo,G' s i=some (b,lo)->∃ s' i' lo',G s' i'=some (b,lo')∧lo'<=lo) {b o:Nat} (hf:AY base F0 G' b o):AY base F0 G b o:=by
 rcases hf with hf | ⟨s,i,lo,h1,h2⟩
 ·exact .inl hf
 ·obtain ⟨s',i',lo',h3,h4⟩:=h s i b lo h1
  exact .inr ⟨s',i',lo',h3,Nat.le_trans h4 h2⟩
theorem C2.keep {F0:Nat->Nat->Prop} {w0:W0} {env:AC} {a:Act} {w:World} (h:C2 F0 w0 env a w) (live:List Nat):C2 F0 w0 (env.keep live) a w:=by
 obtain ⟨G,hg⟩:=h
 refine ⟨G,hg.uniq,hg.lt,hg.below,hg.defers,fun s hs=>?_,fun s hs=>?_,fun s=>?_⟩
 ·rw [AC.get_keep,hg.dom s hs]; split <;> rfl
 ·have:=hg.slots s hs
  rw [AC.get_keep]
  split
  ·cases he:env.get s with
   | bp q off=>
    rw [he] at this
    simp only [AS] at this ⊢
    rintro ⟨cs,hcs⟩
    rw [AC.get_keep] at hcs
    split at hcs
    ·exact this ⟨cs,hcs⟩
    ·cases hcs
   | undef=>trivial
   | sk=>rw [he] at this; exact this
   | tv t=>rw [he] at this; exact this
   | ow t=>rw [he] at this; exact this
   | bx cs=>rw [he] at this; exact this
   | tp ts=>rw [he] at this; exact this
   | xo n es=>rw [he] at this; exact this
   | oag cs=>rw [he] at this; exact this
   | la q i=>
    rw [he] at this
    simp only [AS] at this ⊢
    exact fun hx=>this (AC.xat_keep hx)
   | lp q i c=>
    rw [he] at this
    simp only [AS] at this ⊢
    exact fun hx=>this (AC.xat_keep hx)
  ·trivial
 ·rw [AC.get_keep]
  split
  ·exact hg.wf s
  ·trivial
section own
variable {w w':World} {F F':Nat->Nat->Prop} {z:Option (Nat × Nat)}
theorem HF.kept {size:Nat} {v:Value} {n:Nat} {xs:List Value} (h:HF w size v n xs z) (hk:∀ b lo,z=some (b,lo)->w'.heap[b]?=w.heap[b]?):HF w' size v n xs z:=by
 refine ⟨h.1,?_⟩
 rcases h.2 with hn | ⟨g,cap,cur,e,h1,h2,h3,h4,h5,h6,h7⟩
 ·exact .inl hn
 ·exact .inr ⟨g,cap,cur,e,h1,by rw [hk g _ h7]; exact h2,h3,h4,h5,h6,h7⟩
theorem Jr.kept {size:Nat} {v:Value} {n:Nat} {xs:List Value} (h:Jr w size v n xs z) (hk:∀ b lo,z=some (b,lo)->w'.heap[b]?=w.heap[b]?):Jr w' size v n xs z:=by
 obtain ⟨z0,h1,h2⟩:=h
 exact ⟨z0,h1.kept (fun b lo hz=>hk b 0 (by rw [h2,hz]; rfl)),h2⟩
theorem CQ.kept {t:TV} {v:Value} (ha:DK w w' F F') (h:CQ w F z t v) (hk:∀ b lo,z=some (b,lo)->w'.heap[b]?=w.heap[b]?):CQ w' F' z t v:=by
 cases t <;> simp only [CQ] at h ⊢
 obtain ⟨xs,h1,h2,h3⟩:=h
 exact ⟨xs,h1.kept hk,BI ha _ _ h2,h3⟩
theorem IE.kept {t:TV} {v:Value} (ha:DK w w' F F') (h:IE w F z t v) (hk:∀ b lo,z=some (b,lo)->w'.heap[b]?=w.heap[b]?):IE w' F' z t v:=by
 cases t <;> simp only [IE] at h ⊢ <;> first | exact CQ.kept ha h hk | skip
 obtain ⟨xs,h1,h2,h3⟩:=h
 exact ⟨xs,h1.kept hk,BI ha _ _ h2,h3⟩
theorem CS.kept {c:AU} {v:Value} (ha:DK w w' F F') (h:CS w F z c v) (hk:∀ b lo,z=some (b,lo)->w'.heap[b]?=w.heap[b]?):CS w' F' z c v:=by
 obtain ⟨_ | _,t⟩:=c
 ·exact ⟨C1 ha _ _ h.1,h.2⟩
 ·exact IE.kept ha h hk
end own
theorem AS.kept {a a':Act} {w w':World} {F F':Nat->Nat->Prop} {G G':DE} {env env':AC} {s:Nat} {e:EV} {v:Value}
  (ha:DK w w' F F') (hG:∀ i,G' s i=G s i) (hk:∀ i b lo,G s i=some (b,lo)->w'.heap[b]?=w.heap[b]?)
  (hbp:∀ q off,e=.bp q off->(∃ cs,env'.get q=.bx cs)->(∃ cs,env.get q=.bx cs)∧slot a' q=slot a q)
  (hxo:∀ q i,(e=.la q i∨∃ c,e=.lp q i c)->(∃ p,env'.xat q i=some p)->(∃ p,env.xat q i=some p)∧∀ v,XV a w q i v->XV a' w' q i v)
  (h:AS a w F G env s e v):AS a' w' F' G' env' s e v:=by
 cases e with
 | undef=>trivial
 | sk=>exact h
 | tv t=>exact C1 ha t v h
 | ow t=>
  simp only [AS] at h ⊢
  rw [hG]
  exact h.kept ha (fun b lo=>hk _ b lo)
 | bx cs=>
  simp only [AS] at h ⊢
  obtain ⟨b,c,T,h1,h2,h3,h4,h5⟩:=h
  refine ⟨b,c,T,h1,by rw [hk _ _ _ h4]; exact h2,h3,by rw [hG]; exact h4,fun i d hd=>?_⟩
  obtain ⟨x,hx,hc⟩:=h5 i d hd
  exact ⟨x,hx,by rw [hG]; exact hc.kept ha (fun b lo=>hk _ b lo)⟩
 | bp q off=>
  simp only [AS] at h ⊢
  intro hq
  obtain ⟨hc,ht⟩:=hbp q off rfl hq
  rw [ht]
  exact h hc
 | tp ts=>
  simp only [AS] at h ⊢
  obtain ⟨vs,h1,h2⟩:=h
  exact ⟨vs,h1,BI ha _ _ h2⟩
 | xo n es=>
  simp only [AS] at h ⊢
  obtain ⟨xs,h1,h2,h3⟩:=h
  rw [hG]
  exact ⟨xs,h1.kept (fun b lo=>hk _ b lo),BI ha _ _ h2,h3⟩
 | oag cs=>
  simp only [AS] at h ⊢
  obtain ⟨vs,h1,h3,h5⟩:=h
  refine ⟨vs,h1,h3,fun i d hd=>?_⟩
  obtain ⟨x,hx,hc⟩:=h5 i d hd
  exact ⟨x,hx,by rw [hG]; exact hc.kept ha (fun b lo=>hk _ b lo)⟩
 | la q i=>
  simp only [AS] at h ⊢
  intro hq
  obtain ⟨hc,ht⟩:=hxo q i (.inl rfl) hq
  exact ht _ (h hc)
 | lp q i c=>
  simp only [AS] at h ⊢
  intro hq
  obtain ⟨hc,ht⟩:=hxo q i (.inr ⟨c,rfl⟩) hq
  obtain ⟨g,len,cap,h1,h2⟩:=h hc
  exact ⟨g,len,cap,ht _ h1,h2⟩
theorem AT.xv {F0:Nat->Nat->Prop} {w0:W0} {env:AC} {a a':Act} {w w':World} {G:DE} (h:AT F0 w0 env a w G) {q:Nat} {i:Option Nat} (hx:∃ p,env.xat q i=some p) (hs:slot a' q=slot a q) (hb:∀ b,G q none=some (b,0)->w'.heap[b]?=w.heap[b]?):∀ v,XV a w q i v->XV a' w' q i v:=by
 intro v hv
 cases i with
 | none=>exact hv.trans hs.symm
 | some k=>
  obtain ⟨⟨n,es⟩,hp⟩:=hx
  obtain ⟨cs,hq,_⟩:=AC.xat_some hp
  obtain ⟨b,c,T,h1,h2,h3⟩:=hv
  have hlt:q<a.tmps.size:=by
   rcases Nat.lt_or_ge q a.tmps.size with h' | h'
   ·exact h'
   ·rw [h.dom q h'] at hq; cases hq
  have hr:=h.slots q hlt
  rw [hq] at hr
  obtain ⟨b',c',T',e1,e2,_,e4,_⟩:=hr
  rw [h1] at e1
  simp only [Value.pointer.injEq,zzY,Addr.mk.injEq,and_true,and_self] at e1
  subst e1
  exact ⟨b,c,T,by rw [hs,h1],by rw [hb b e4]; exact h2,h3⟩
theorem Hf (a:Act) (d:Nat) (v:Value) (h:d<a.tmps.size):slot (a.put (some d) v) d=v:=by
 simp [slot,Act.put,Array.getD_eq_getD_getElem?,h]
theorem BD (a:Act) (d s:Nat) (v:Value) (h:d≠s):slot (a.put (some d) v) s=slot a s:=by
 simp [slot,Act.put,Array.getD_eq_getD_getElem?,Array.getElem?_setIfInBounds,h]
theorem E9 (a:Act) (d:Option Nat) (v:Value):(a.put d v).tmps.size=a.tmps.size:=by
 cases d <;> simp [Act.put]
theorem KA (a:Act) (d:Option Nat) (v:Value):(a.put d v).defers=a.defers:=by
 cases d <;> simp [Act.put]
def O1 (a:Act) (d:Nat) (a':Act):Prop:=∃ v,a'=a.put (some d) v
structure K0 (N:Nat) (p:Option (Nat × Value)) (a:Act):Prop where
 size:a.tmps.size=N
 pin:∀ i v,p=some (i,v)->slot a i=v
theorem K0.put {N:Nat} {p:Option (Nat × Value)} {a a':Act} {d:Nat} (h:K0 N p a) (hd:∀ i v,p=some (i,v)->some d≠some i) (k:O1 a d a'):K0 N p a':=by
 obtain ⟨v,rfl⟩:=k
 exact ⟨by rw [E9]; exact h.size,fun i u hp=>by rw [BD _ _ _ _ (fun e=>hd i u hp (by rw [e]))]; exact h.pin i u hp⟩
theorem ON (w:World) (F:Nat->Nat->Prop):DK w w F F:=fun _ _ _ h1 h2=>⟨h1,h2⟩
theorem AT.rem {F0:Nat->Nat->Prop} {w0:W0} {env env':AC} {a:Act} {w:World} {G:DE} (h:AT F0 w0 env a w G) (s:Nat) {t:TV} (hs:s<a.tmps.size) (hr:A1 w (AY w0.heap.size F0 G) t (slot a s)) (hw:t.WF)
  (hg:∀ n,env'.get n=env.get n∨(n=s∧env'.get n=.tv t)):AT F0 w0 env' a w G:=by
 refine ⟨h.uniq,h.lt,h.below,h.defers,fun q hq=>?_,fun q hq=>?_,fun q=>?_⟩
 ·rcases hg q with e | ⟨rfl,_⟩
  ·rw [e]; exact h.dom q hq
  ·omega
 ·rcases hg q with e | ⟨rfl,e⟩
  ·rw [e]
   refine AS.kept (ON _ _) (fun _=>rfl) (fun _ _ _ _=>rfl) (fun r off hr ⟨cs,hcs⟩=>?_) (fun r i hr ⟨p,hp⟩=>?_) (h.slots q hq)
   ·rcases hg r with e' | ⟨_,e'⟩
    ·rw [e'] at hcs; exact ⟨⟨cs,hcs⟩,rfl⟩
    ·rw [e'] at hcs; cases hcs
   ·rcases hg r with e' | ⟨_,e'⟩
    ·rw [AC.xat_of e'] at hp; exact ⟨⟨p,hp⟩,fun _ hv=>hv⟩
    ·cases i <;> simp only [AC.xat,e'] at hp <;> cases hp
  ·rw [e]; exact hr
 ·rcases hg q with e | ⟨_,e⟩
  ·rw [e]; exact h.wf q
  ·rw [e]; exact hw
end Go.Sf
