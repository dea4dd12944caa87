/- The invariant between an environment of the pure language and a frame with memory. -/
import Derived.Test.YtbedpmpjdnooiaaGreatSfMono
import Derived.Test.YtbedpmpjdnooiaaGreatSfRules
import Derived.Laws.AppendOwn
namespace Go.Sf
open Go.RowKit (Below)
def OwnRow (w:World) (size:Nat) (v:Value) (n:Nat) (xs:List Value) (z:Option (Nat × Nat)):Prop:=
 xs.length=n*size ∧
 ((v=.slice none 0 0∧n=0∧z=none) ∨
 ∃ g cap cur e,v=.slice (some ⟨g,0,none⟩) n cap∧w.heap[g]?=some (.cells cur e (0,0))∧n<=cap∧cap<=maxLen∧cur.size=cap*size∧cur.toList.take (n*size)=xs∧z=some (g,n*size))
def XRow (w:World) (size:Nat) (v:Value) (n:Nat) (xs:List Value) (z:Option (Nat × Nat)):Prop:=
 ∃ z0,OwnRow w size v n xs z0∧z=z0.map fun p=>(p.1,0)
def OwnRep (w:World) (F:Nat->Nat->Prop) (z:Option (Nat × Nat)):TV->Value->Prop
 | .list n es,v=>∃ xs,OwnRow w n v es.length xs z∧RepAll w F (es.flatMap TV.cells) xs∧(∀ e∈es,e.cells.length=n)∧∀ x∈xs,x.oneCell'=true
 | _,_=>False
def CellRep (w:World) (F:Nat->Nat->Prop) (z:Option (Nat × Nat)) (c:Cell) (v:Value):Prop:=
 match c with
 | ⟨true,t⟩=>OwnRep w F z t v
 | ⟨false,t⟩=>Rep w F t v∧v.oneCell'=true
abbrev Zones:=Nat->Option Nat->Option (Nat × Nat)
def Forb (base:Nat) (F0:Nat->Nat->Prop) (G:Zones) (b o:Nat):Prop:=(b<base∧F0 b o)∨∃ s i lo,G s i=some (b,lo)∧lo<=o
def slot (a:Act) (s:Nat):Value:=a.tmps.getD s undef
def EvRep (a:Act) (w:World) (F:Nat->Nat->Prop) (G:Zones) (env:Env) (s:Nat):EV->Value->Prop
 | .undef,_=>True
 | .sk,v=>v=undef
 | .tv t,v=>Rep w F t v
 | .ow t,v=>OwnRep w F (G s none) t v
 | .bx cs,v=>∃ b c T,v=.pointer (some ⟨b,0,none⟩)∧w.heap[b]?=some (.cells c T (0,0))∧c.size=cs.length∧G s none=some (b,0)∧∀ (i:Nat) (d:Cell),cs[i]?=some d->∃ x,c[i]?=some x∧CellRep w F (G s (some i)) d x
 | .bp q off,v=>(∃ cs,env.get q=.bx cs)->∃ b,slot a q=.pointer (some ⟨b,0,none⟩)∧v=.pointer (some ⟨b,off,none⟩)
 | .tp ts,v=>∃ vs,v=.tuple vs∧RepAll w F ts vs.toList
 | .xo n es,v=>∃ xs,XRow w n v es.length xs (G s none)∧RepAll w F (es.flatMap TV.cells) xs∧(∀ e∈es,e.cells.length=n)∧∀ x∈xs,x.oneCell'=true
 | .oag cs,v=>∃ vs,v=.agg vs∧vs.size=cs.length∧∀ (i:Nat) (d:Cell),cs[i]?=some d->∃ x,vs[i]?=some x∧CellRep w F (G s (some i)) d x
 | .la q,v=>(∃ n es,env.get q=.xo n es)->v=slot a q
 | .lp q c,v=>(∃ n es,env.get q=.xo n es)->∃ g len cap,slot a q=.slice (some ⟨g,0,none⟩) len cap∧v=.pointer (some ⟨g,c,none⟩)
structure InvG (F0:Nat->Nat->Prop) (w0:World) (env:Env) (a:Act) (w:World) (G:Zones):Prop where
 uniq:∀ s i s' i' b lo lo',G s i=some (b,lo)->G s' i'=some (b,lo')->s=s'∧i=i'
 lt:∀ s i b lo,G s i=some (b,lo)->b<w.heap.size∧w0.heap.size<=b
 below:Below w0.heap.size w0 w
 defers:a.defers=[]
 dom:∀ s,a.tmps.size<=s->env.get s=.undef
 slots:∀ s,s<a.tmps.size->EvRep a w (Forb w0.heap.size F0 G) G env s (env.get s) (slot a s)
 wf:∀ s,(env.get s).WF
def Inv (F0:Nat->Nat->Prop) (w0:World) (env:Env) (a:Act) (w:World):Prop:=∃ G,InvG F0 w0 env a w G
theorem Env.get_cons (k:Nat) (e:EV) (env:Env) (n:Nat):Env.get ((k,e)::env) n=if k=n then e else env.get n:=rfl
theorem Env.get_map_keep (env:Env):∀ (live:List Nat) (n:Nat),Env.get (live.map fun s=>(s,env.get s)) n=if n∈live then env.get n else .undef
 | [],n=>by simp [Env.get]
 | s::live,n=>by
  simp only [List.map_cons,Env.get,Env.get_map_keep env live n,List.mem_cons]
  by_cases h:s=n
  ·subst h; simp
  ·have h':¬ n=s:=fun e=>h e.symm
   simp [h,h']
theorem Env.get_keep (env:Env) (live:List Nat) (n:Nat):(env.keep live).get n=if n∈live then env.get n else .undef:=Env.get_map_keep env live n
theorem Forb.mono {base:Nat} {F0:Nat->Nat->Prop} {G G':Zones} (h:∀ s i b lo,G' s i=some (b,lo)->∃ s' i' lo',G s' i'=some (b,lo')∧lo'<=lo) {b o:Nat} (hf:Forb base F0 G' b o):Forb base F0 G b o:=by
 rcases hf with hf | ⟨s,i,lo,h1,h2⟩
 ·exact .inl hf
 ·obtain ⟨s',i',lo',h3,h4⟩:=h s i b lo h1
  exact .inr ⟨s',i',lo',h3,Nat.le_trans h4 h2⟩
theorem Inv.keep {F0:Nat->Nat->Prop} {w0:World} {env:Env} {a:Act} {w:World} (h:Inv F0 w0 env a w) (live:List Nat):Inv F0 w0 (env.keep live) a w:=by
 obtain ⟨G,hg⟩:=h
 refine ⟨G,hg.uniq,hg.lt,hg.below,hg.defers,fun s hs=>?_,fun s hs=>?_,fun s=>?_⟩
 ·rw [Env.get_keep,hg.dom s hs]; split <;> rfl
 ·have:=hg.slots s hs
  rw [Env.get_keep]
  split
  ·cases he:env.get s with
   | bp q off=>
    rw [he] at this
    simp only [EvRep] at this ⊢
    rintro ⟨cs,hcs⟩
    rw [Env.get_keep] at hcs
    split at hcs
    ·exact this ⟨cs,hcs⟩
    ·cases hcs
   | undef=>trivial
   | sk=>rw [he] at this; exact this
   | tv t=>rw [he] at this; exact this
   | ow t=>rw [he] at this; exact this
   | bx cs=>rw [he] at this; exact this
   | tp ts=>rw [he] at this; exact this
   | xo n es=>rw [he] at this; exact this
   | oag cs=>rw [he] at this; exact this
   | la q=>
    rw [he] at this
    simp only [EvRep] at this ⊢
    rintro ⟨n,es,hcs⟩
    rw [Env.get_keep] at hcs
    split at hcs
    ·exact this ⟨n,es,hcs⟩
    ·cases hcs
   | lp q c=>
    rw [he] at this
    simp only [EvRep] at this ⊢
    rintro ⟨n,es,hcs⟩
    rw [Env.get_keep] at hcs
    split at hcs
    ·exact this ⟨n,es,hcs⟩
    ·cases hcs
  ·trivial
 ·rw [Env.get_keep]
  split
  ·exact hg.wf s
  ·trivial
section own
variable {w w':World} {F F':Nat->Nat->Prop} {z:Option (Nat × Nat)}
theorem OwnRow.kept {size:Nat} {v:Value} {n:Nat} {xs:List Value} (h:OwnRow w size v n xs z) (hk:∀ b lo,z=some (b,lo)->w'.heap[b]?=w.heap[b]?):OwnRow w' size v n xs z:=by
 refine ⟨h.1,?_⟩
 rcases h.2 with hn | ⟨g,cap,cur,e,h1,h2,h3,h4,h5,h6,h7⟩
 ·exact .inl hn
 ·exact .inr ⟨g,cap,cur,e,h1,by rw [hk g _ h7]; exact h2,h3,h4,h5,h6,h7⟩
theorem XRow.kept {size:Nat} {v:Value} {n:Nat} {xs:List Value} (h:XRow w size v n xs z) (hk:∀ b lo,z=some (b,lo)->w'.heap[b]?=w.heap[b]?):XRow w' size v n xs z:=by
 obtain ⟨z0,h1,h2⟩:=h
 exact ⟨z0,h1.kept (fun b lo hz=>hk b 0 (by rw [h2,hz]; rfl)),h2⟩
theorem OwnRep.kept {t:TV} {v:Value} (ha:Agree w w' F F') (h:OwnRep w F z t v) (hk:∀ b lo,z=some (b,lo)->w'.heap[b]?=w.heap[b]?):OwnRep w' F' z t v:=by
 cases t <;> simp only [OwnRep] at h ⊢
 obtain ⟨xs,h1,h2,h3⟩:=h
 exact ⟨xs,h1.kept hk,repAll_mono ha _ _ h2,h3⟩
theorem CellRep.kept {c:Cell} {v:Value} (ha:Agree w w' F F') (h:CellRep w F z c v) (hk:∀ b lo,z=some (b,lo)->w'.heap[b]?=w.heap[b]?):CellRep w' F' z c v:=by
 obtain ⟨_ | _,t⟩:=c
 ·exact ⟨rep_mono ha _ _ h.1,h.2⟩
 ·exact OwnRep.kept ha h hk
end own
theorem EvRep.kept {a a':Act} {w w':World} {F F':Nat->Nat->Prop} {G G':Zones} {env env':Env} {s:Nat} {e:EV} {v:Value}
  (ha:Agree w w' F F') (hG:∀ i,G' s i=G s i) (hk:∀ i b lo,G s i=some (b,lo)->w'.heap[b]?=w.heap[b]?)
  (hbp:∀ q off,e=.bp q off->(∃ cs,env'.get q=.bx cs)->(∃ cs,env.get q=.bx cs)∧slot a' q=slot a q)
  (hxo:∀ q n es,(e=.la q∨∃ c,e=.lp q c)->env'.get q=.xo n es->(∃ n es,env.get q=.xo n es)∧slot a' q=slot a q)
  (h:EvRep a w F G env s e v):EvRep a' w' F' G' env' s e v:=by
 cases e with
 | undef=>trivial
 | sk=>exact h
 | tv t=>exact rep_mono ha t v h
 | ow t=>
  simp only [EvRep] at h ⊢
  rw [hG]
  exact h.kept ha (fun b lo=>hk _ b lo)
 | bx cs=>
  simp only [EvRep] at h ⊢
  obtain ⟨b,c,T,h1,h2,h3,h4,h5⟩:=h
  refine ⟨b,c,T,h1,by rw [hk _ _ _ h4]; exact h2,h3,by rw [hG]; exact h4,fun i d hd=>?_⟩
  obtain ⟨x,hx,hc⟩:=h5 i d hd
  exact ⟨x,hx,by rw [hG]; exact hc.kept ha (fun b lo=>hk _ b lo)⟩
 | bp q off=>
  simp only [EvRep] at h ⊢
  intro hq
  obtain ⟨hc,ht⟩:=hbp q off rfl hq
  rw [ht]
  exact h hc
 | tp ts=>
  simp only [EvRep] at h ⊢
  obtain ⟨vs,h1,h2⟩:=h
  exact ⟨vs,h1,repAll_mono ha _ _ h2⟩
 | xo n es=>
  simp only [EvRep] at h ⊢
  obtain ⟨xs,h1,h2,h3⟩:=h
  rw [hG]
  exact ⟨xs,h1.kept (fun b lo=>hk _ b lo),repAll_mono ha _ _ h2,h3⟩
 | oag cs=>
  simp only [EvRep] at h ⊢
  obtain ⟨vs,h1,h3,h5⟩:=h
  refine ⟨vs,h1,h3,fun i d hd=>?_⟩
  obtain ⟨x,hx,hc⟩:=h5 i d hd
  exact ⟨x,hx,by rw [hG]; exact hc.kept ha (fun b lo=>hk _ b lo)⟩
 | la q=>
  simp only [EvRep] at h ⊢
  rintro ⟨n,es,hq⟩
  obtain ⟨hc,ht⟩:=hxo q n es (.inl rfl) hq
  rw [ht]; exact h hc
 | lp q c=>
  simp only [EvRep] at h ⊢
  rintro ⟨n,es,hq⟩
  obtain ⟨hc,ht⟩:=hxo q n es (.inr ⟨c,rfl⟩) hq
  rw [ht]; exact h hc
theorem slot_put_same (a:Act) (d:Nat) (v:Value) (h:d<a.tmps.size):slot (a.put (some d) v) d=v:=by
 simp [slot,Act.put,Array.getD_eq_getD_getElem?,h]
theorem slot_put_other (a:Act) (d s:Nat) (v:Value) (h:d≠s):slot (a.put (some d) v) s=slot a s:=by
 simp [slot,Act.put,Array.getD_eq_getD_getElem?,Array.getElem?_setIfInBounds,h]
theorem size_put (a:Act) (d:Option Nat) (v:Value):(a.put d v).tmps.size=a.tmps.size:=by
 cases d <;> simp [Act.put]
theorem defers_put (a:Act) (d:Option Nat) (v:Value):(a.put d v).defers=a.defers:=by
 cases d <;> simp [Act.put]
theorem agree_refl (w:World) (F:Nat->Nat->Prop):Agree w w F F:=fun _ _ _ h1 h2=>⟨h1,h2⟩
theorem InvG.rem {F0:Nat->Nat->Prop} {w0:World} {env env':Env} {a:Act} {w:World} {G:Zones} (h:InvG F0 w0 env a w G) (s:Nat) {t:TV} (hs:s<a.tmps.size) (hr:Rep w (Forb w0.heap.size F0 G) t (slot a s)) (hw:t.WF)
  (hg:∀ n,env'.get n=env.get n∨(n=s∧env'.get n=.tv t)):InvG F0 w0 env' a w G:=by
 refine ⟨h.uniq,h.lt,h.below,h.defers,fun q hq=>?_,fun q hq=>?_,fun q=>?_⟩
 ·rcases hg q with e | ⟨rfl,_⟩
  ·rw [e]; exact h.dom q hq
  ·omega
 ·rcases hg q with e | ⟨rfl,e⟩
  ·rw [e]
   refine EvRep.kept (agree_refl _ _) (fun _=>rfl) (fun _ _ _ _=>rfl) (fun r off hr ⟨cs,hcs⟩=>?_) (fun r n es hr hcs=>?_) (h.slots q hq)
   ·rcases hg r with e' | ⟨_,e'⟩
    ·rw [e'] at hcs; exact ⟨⟨cs,hcs⟩,rfl⟩
    ·rw [e'] at hcs; cases hcs
   ·rcases hg r with e' | ⟨_,e'⟩
    ·rw [e'] at hcs; exact ⟨⟨n,es,hcs⟩,rfl⟩
    ·rw [e'] at hcs; cases hcs
  ·rw [e]; exact hr
 ·rcases hg q with e | ⟨_,e⟩
  ·rw [e]; exact h.wf q
  ·rw [e]; exact hw
end Go.Sf
