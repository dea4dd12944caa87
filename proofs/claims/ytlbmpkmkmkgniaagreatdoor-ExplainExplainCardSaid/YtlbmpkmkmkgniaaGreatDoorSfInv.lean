/- The invariant between an environment of the pure language and a frame with memory. -/
import Derived.Test.YtlbmpkmkmkgniaaGreatDoorSfSem
import Derived.Laws.AppendOwn
set_option linter.all false
namespace Go.Sf
open Go.RowKit (Below)
def ID (w:World) (size:Nat) (v:Value) (n:Nat) (xs:List Value) (z:Option (Nat × Nat)):Prop:=
 xs.length=n*size ∧
 ((v=.slice none 0 0∧n=0∧z=none) ∨
 ∃ g cap cur e,v=.slice (some ⟨g,0,none⟩) n cap∧w.heap[g]?=some (.cells cur e (0,0))∧n<=cap∧cap<=maxLen∧cur.size=cap*size∧cur.toList.take (n*size)=xs∧z=some (g,n*size))
def K5 (w:World) (size:Nat) (v:Value) (n:Nat) (xs:List Value) (z:Option (Nat × Nat)):Prop:=
 ∃ z0,ID w size v n xs z0∧z=z0.map fun p=>(p.1,0)
def C3 (w:World) (F:Nat->Nat->Prop) (z:Option (Nat × Nat)):TV->Value->Prop
 | .list n es,v=>∃ xs,ID w n v es.length xs z∧AS w F (es.flatMap TV.cells) xs∧(∀ e∈es,e.cells.length=n)∧∀ x∈xs,x.oneCell'=true
 | _,_=>False
def JE (w:World) (F:Nat->Nat->Prop) (z:Option (Nat × Nat)):TV->Value->Prop
 | .xl n es,v=>∃ xs,K5 w n v es.length xs z∧AS w F (es.flatMap TV.cells) xs∧(∀ e∈es,e.cells.length=n)∧∀ x∈xs,x.oneCell'=true
 | t,v=>C3 w F z t v
variable {t:TV} {v:Value}
theorem C3.c {w:World} {F:Nat->Nat->Prop} {z:Option (Nat × Nat)} (h:C3 w F z t v):JE w F z t v:=by
 cases t <;> first | exact h | (simp only [C3] at h)
def C6 (w:World) (F:Nat->Nat->Prop) (z:Option (Nat × Nat)) (c:At) (v:Value):Prop:=
 match c with
 | ⟨true,t⟩=>JE w F z t v
 | ⟨false,t⟩=>A7 w F t v∧v.oneCell'=true
abbrev DT:=Nat->Option Nat->Option (Nat × Nat)
def A2 (base:Nat) (F0:Nat->Nat->Prop) (G:DT) (b o:Nat):Prop:=(b<base∧F0 b o)∨∃ s i lo,G s i=some (b,lo)∧lo<=o
def slot (a:Act) (s:Nat):Value:=a.tmps.getD s undef
def XV (a:Act) (w:World) (q:Nat) (i:Option Nat) (v:Value):Prop:=
 match i with
 | none=>v=slot a q
 | some k=>∃ b c T,slot a q=.pointer (some ⟨b,0,none⟩)∧w.heap[b]?=some (.cells c T (0,0))∧c[k]?=some v
def AX (a:Act) (w:World) (F:Nat->Nat->Prop) (G:DT) (O:AD) (s:Nat):EV->Value->Prop
 | .undef,_=>True
 | .sk,v=>v=undef
 | .tv t,v=>A7 w F t v
 | .ow t,v=>C3 w F (G s none) t v
 | .bx cs,v=>∃ b c T,v=.pointer (some ⟨b,0,none⟩)∧w.heap[b]?=some (.cells c T (0,0))∧c.size=cs.length∧G s none=some (b,0)∧∀ (i:Nat) (d:At),cs[i]?=some d->∃ x,c[i]?=some x∧C6 w F (G s (some i)) d x
 | .bp q off,v=>(∃ cs,O.get q=.bx cs)->∃ b,slot a q=.pointer (some ⟨b,0,none⟩)∧v=.pointer (some ⟨b,off,none⟩)
 | .tp ts,v=>∃ vs,v=.tuple vs∧AS w F ts vs.toList
 | .xo n es,v=>∃ xs,K5 w n v es.length xs (G s none)∧AS w F (es.flatMap TV.cells) xs∧(∀ e∈es,e.cells.length=n)∧∀ x∈xs,x.oneCell'=true
 | .oag cs,v=>∃ vs,v=.agg vs∧vs.size=cs.length∧∀ (i:Nat) (d:At),cs[i]?=some d->∃ x,vs[i]?=some x∧C6 w F (G s (some i)) d x
 | .la q i,v=>(∃ p,O.xat q i=some p)->XV a w q i v
 | .lp q i c,v=>(∃ p,O.xat q i=some p)->∃ g len cap,XV a w q i (.slice (some ⟨g,0,none⟩) len cap)∧v=.pointer (some ⟨g,c,none⟩)
structure W0 extends World where
 E:Nat->Nat->Prop
theorem JE.own {w:World} {F:Nat->Nat->Prop} {z:Option (Nat × Nat)} (h:JE w F z t v) (b:t.isXl=false):C3 w F z t v:=by
 cases t <;> first | exact h | (simp [TV.isXl] at b)
structure Jt (F0:Nat->Nat->Prop) (w0:W0) (w:World):Prop where
 os:w.os=w0.os
 tape:w.tape=w0.tape
 output:w.output=w0.output
 size:w0.heap.size<=w.heap.size
 block:∀ k,k<w0.heap.size->(∀ o,¬ w0.E k o)->w.heap[k]?=w0.heap[k]?
 cell:∀ b o u,¬ w0.E b o->w0.cell? ⟨b,o,none⟩=some u->w.cell? ⟨b,o,none⟩=some u
 free:∀ b o o',w0.E b o->¬ F0 b o'
theorem Jt.trans {F0:Nat->Nat->Prop} {w0:W0} {w w':World} (h:Jt F0 w0 w) (f:w'.os=w.os) (g:w'.tape=w.tape) (j:w'.output=w.output) (l:w.heap.size<=w'.heap.size) (m:∀ k,k<w0.heap.size->(∀ o,¬ w0.E k o)->w'.heap[k]?=w.heap[k]?) (p:∀ b o u,b<w0.heap.size->¬ w0.E b o->w.cell? ⟨b,o,none⟩=some u->w'.cell? ⟨b,o,none⟩=some u):Jt F0 w0 w':=
 ⟨f.trans h.os,g.trans h.tape,j.trans h.output,Nat.le_trans h.size l,fun b d c=>(m b d c).trans (h.block b d c),fun b o u c e=>p b o u (World.block_lt_of_cell? _ ⟨b,o,none⟩ e) c (h.cell b o u c e),h.free⟩
theorem Jt.but {F0:Nat->Nat->Prop} {w0:W0} {w w':World} (h:Jt F0 w0 w) (g:w'.os=w.os) (j:w'.tape=w.tape) (l:w'.output=w.output) (m:w.heap.size<=w'.heap.size) {Z:Nat->Prop} (d:∀ b,Z b->w0.heap.size<=b∨∀ o,w0.E b o) (f:∀ k,k<w0.heap.size->¬ Z k->w'.heap[k]?=w.heap[k]?):Jt F0 w0 w':=
 h.trans g j l m (fun k p c=>f k p fun z=>(d k z).elim (fun e=>by omega) (fun e=>c 0 (e 0))) (fun b o u r c s=>by
  rw [World.cell?_of_block (w:=w) (a:=⟨b,o,none⟩) (f b r fun z=>(d b z).elim (fun e=>by omega) (fun e=>c (e o)))]; exact s)
theorem Jt.go {F0:Nat->Nat->Prop} {w0:W0} {w w':World} (h:Jt F0 w0 w) (k:Below w.heap.size w w'):Jt F0 w0 w':=
 h.trans k.os k.tape k.output k.size (fun b c _=>k.block b (Nat.lt_of_lt_of_le c h.size)) (fun b o u c _ d=>by rw [k.cell (p:=⟨b,o,none⟩) (Nat.lt_of_lt_of_le c h.size)]; exact d)
structure AY (F0:Nat->Nat->Prop) (w0:W0) (O:AD) (a:Act) (w:World) (G:DT):Prop where
 uniq:∀ s i s' i' b lo lo',G s i=some (b,lo)->G s' i'=some (b,lo')->s=s'∧i=i'
 lt:∀ s i b lo,G s i=some (b,lo)->b<w.heap.size∧(w0.heap.size<=b∨∀ o,lo<=o->w0.E b o)
 below:Jt F0 w0 w
 defers:a.defers=[]
 dom:∀ s,a.tmps.size<=s->O.get s=.undef
 slots:∀ s,s<a.tmps.size->AX a w (A2 w0.heap.size F0 G) G O s (O.get s) (slot a s)
 wf:∀ s,(O.get s).WF
def DJ (F0:Nat->Nat->Prop) (w0:W0) (O:AD) (a:Act) (w:World):Prop:=∃ G,AY F0 w0 O a w G
theorem AD.get_cons (k:Nat) (e:EV) (O:AD) (n:Nat):AD.get ((k,e)::O) n=if k=n then e else O.get n:=rfl
theorem AD.get_map_keep (O:AD):∀ (b:ci) (n:Nat),AD.get (b.map fun s=>(s,O.get s)) n=if n∈b then O.get n else .undef
 | [],n=>by simp [AD.get]
 | s::b,n=>by
  simp only [List.map_cons,AD.get,AD.get_map_keep O b n,List.mem_cons];by_cases h:s=n
  ·subst h; simp
  ·have c:¬ n=s:=fun e=>h e.symm;simp [h,c]
theorem AD.get_keep (O:AD) (b:ci) (n:Nat):(O.keep b).get n=if n∈b then O.get n else .undef:=AD.get_map_keep O b n
variable {q:Nat} {i:Option Nat}
theorem AD.xat_of {O env':AD} (h:env'.get q=O.get q):env'.xat q i=O.xat q i:=by
 cases i <;> simp only [AD.xat,h]
variable {O:AD}
theorem AD.xat_undef (h:O.get q=.undef):O.xat q i=none:=by
 cases i <;> simp only [AD.xat,h]
theorem AD.xat_keep {b:ci} (h:∃ p,(O.keep b).xat q i=some p):∃ p,O.xat q i=some p:=by
 obtain ⟨p,c⟩:=h;by_cases d:q∈b
 ·exact ⟨p,by rw [←AD.xat_of (O:=O) (env':=O.keep b) (by rw [AD.get_keep,d1 d])]; exact c⟩
 ·rw [AD.xat_undef (by rw [AD.get_keep,d2 d])] at c; cases c
variable {n:Nat}
theorem AD.xat_some {q k:Nat} {es:QQ} (h:O.xat q (some k)=some (n,es)):∃ cs,O.get q=.bx cs∧cs[k]?=some ⟨true,.xl n es⟩:=by
 simp only [AD.xat] at h;split at h
 ·rename_i cs b;split at h
  ·rename_i d es' c;simp only [zzY,Prod.mk.injEq] at h;obtain ⟨rfl,rfl⟩:=h;exact ⟨cs,b,c⟩
  ·cases h
 ·cases h
theorem AD.xat_none {es:QQ} (h:O.xat q none=some (n,es)):O.get q=.xo n es:=by
 simp only [AD.xat] at h;split at h
 ·rename_i c es' b;simp only [zzY,Prod.mk.injEq] at h;obtain ⟨rfl,rfl⟩:=h;exact b
 ·cases h
variable {G G':DT}
theorem A2.mono {base:Nat} {F0:Nat->Nat->Prop} (h:∀ s i b lo,G' s i=some (b,lo)->∃ s' e c,G s' e=some (b,c)∧c<=lo) {b o:Nat} (d:A2 base F0 G' b o):A2 base F0 G b o:=by
 rcases d with d | ⟨s,i,lo,j,k⟩
 ·exact .inl d
 ·obtain ⟨s',e,c,f,g⟩:=h s i b lo j;exact .inr ⟨s',e,c,f,Nat.le_trans g k⟩
variable {a:Act}
theorem DJ.keep {F0:Nat->Nat->Prop} {w0:W0} {w:World} (h:DJ F0 w0 O a w) (f:ci):DJ F0 w0 (O.keep f) a w:=by
 obtain ⟨G,e⟩:=h;refine ⟨G,e.uniq,e.lt,e.below,e.defers,fun s g=>?_,fun s g=>?_,fun s=>?_⟩
 ·rw [AD.get_keep,e.dom s g]; split <;> rfl
 ·have:=e.slots s g;rw [AD.get_keep];split
  ·cases b:O.get s with
   | bp q k=>
    rw [b] at this;simp only [AX] at this ⊢;rintro ⟨cs,d⟩;rw [AD.get_keep] at d;split at d
    ·exact this ⟨cs,d⟩
    ·cases d
   | undef=>trivial
   | sk=>rw [b] at this; exact this
   | tv t=>rw [b] at this; exact this
   | ow t=>rw [b] at this; exact this
   | bx cs=>rw [b] at this; exact this
   | tp l=>rw [b] at this; exact this
   | xo n es=>rw [b] at this; exact this
   | oag cs=>rw [b] at this; exact this
   | la q i=>
    rw [b] at this;simp only [AX] at this ⊢;exact fun j=>this (AD.xat_keep j)
   | lp q i c=>
    rw [b] at this;simp only [AX] at this ⊢;exact fun j=>this (AD.xat_keep j)
  ·trivial
 ·rw [AD.get_keep];split
  ·exact e.wf s
  ·trivial
section own
variable {w w':World} {F F':Nat->Nat->Prop} {z:Option (Nat × Nat)}
variable {size:Nat} {v:Value} {n:Nat}
theorem ID.kept {xs:List Value} (h:ID w size v n xs z) (f:∀ b lo,z=some (b,lo)->w'.heap[b]?=w.heap[b]?):ID w' size v n xs z:=by
 refine ⟨h.1,?_⟩;rcases h.2 with j | ⟨g,cap,c,e,k,l,m,o,p,r,d⟩
 ·exact .inl j
 ·exact .inr ⟨g,cap,c,e,k,by rw [f g _ d]; exact l,m,o,p,r,d⟩
theorem K5.kept {xs:List Value} (h:K5 w size v n xs z) (d:∀ b lo,z=some (b,lo)->w'.heap[b]?=w.heap[b]?):K5 w' size v n xs z:=by
 obtain ⟨f,g,c⟩:=h;exact ⟨f,g.kept (fun b lo e=>d b 0 (by rw [c,e]; rfl)),c⟩
variable {t:TV}
theorem C3.kept (c:D0 w w' F F') (h:C3 w F z t v) (d:∀ b lo,z=some (b,lo)->w'.heap[b]?=w.heap[b]?):C3 w' F' z t v:=by
 cases t <;> simp only [C3] at h ⊢;obtain ⟨xs,e,f,g⟩:=h;exact ⟨xs,e.kept d,BS c _ _ f,g⟩
theorem JE.kept (c:D0 w w' F F') (h:JE w F z t v) (d:∀ b lo,z=some (b,lo)->w'.heap[b]?=w.heap[b]?):JE w' F' z t v:=by
 cases t <;> simp only [JE] at h ⊢ <;> first | exact C3.kept c h d | skip
 obtain ⟨xs,e,f,g⟩:=h;exact ⟨xs,e.kept d,BS c _ _ f,g⟩
theorem C6.kept {c:At} (d:D0 w w' F F') (h:C6 w F z c v) (e:∀ b lo,z=some (b,lo)->w'.heap[b]?=w.heap[b]?):C6 w' F' z c v:=by
 obtain ⟨_ | _,t⟩:=c
 ·exact ⟨DH d _ _ h.1,h.2⟩
 ·exact JE.kept d h e
end own
variable {a a':Act} {G G':DT} {v:Value}
theorem AX.kept {w w':World} {F F':Nat->Nat->Prop} {O env':AD} {s:Nat} {e:EV}
  (m:D0 w w' F F') (o:∀ i,G' s i=G s i) (r:∀ i b lo,G s i=some (b,lo)->w'.heap[b]?=w.heap[b]?)
  (C:∀ q k,e=.bp q k->(∃ cs,env'.get q=.bx cs)->(∃ cs,O.get q=.bx cs)∧slot a' q=slot a q)
  (u:∀ q i,(e=.la q i∨∃ c,e=.lp q i c)->(∃ p,env'.xat q i=some p)->(∃ p,O.xat q i=some p)∧∀ v,XV a w q i v->XV a' w' q i v)
  (h:AX a w F G O s e v):AX a' w' F' G' env' s e v:=by
 cases e with
 | undef=>trivial
 | sk=>exact h
 | tv t=>exact DH m t v h
 | ow t=>
  simp only [AX] at h ⊢;rw [o];exact h.kept m (fun b lo=>r _ b lo)
 | bx cs=>
  simp only [AX] at h ⊢;obtain ⟨b,c,T,f,l,A,I,E⟩:=h;refine ⟨b,c,T,f,by rw [r _ _ _ I]; exact l,A,by rw [o]; exact I,fun i d D=>?_⟩;obtain ⟨x,H,j⟩:=E i d D;exact ⟨x,H,by rw [o]; exact j.kept m (fun b lo=>r _ b lo)⟩
 | bp q k=>
  simp only [AX] at h ⊢;intro y;obtain ⟨j,B⟩:=C q k rfl y;rw [B];exact h j
 | tp J=>
  simp only [AX] at h ⊢;obtain ⟨vs,f,l⟩:=h;exact ⟨vs,f,BS m _ _ l⟩
 | xo n es=>
  simp only [AX] at h ⊢;obtain ⟨xs,f,l,A⟩:=h;rw [o];exact ⟨xs,f.kept (fun b lo=>r _ b lo),BS m _ _ l,A⟩
 | oag cs=>
  simp only [AX] at h ⊢;obtain ⟨vs,f,A,E⟩:=h;refine ⟨vs,f,A,fun i d D=>?_⟩;obtain ⟨x,H,j⟩:=E i d D;exact ⟨x,H,by rw [o]; exact j.kept m (fun b lo=>r _ b lo)⟩
 | la q i=>
  simp only [AX] at h ⊢;intro y;obtain ⟨j,B⟩:=u q i (.inl rfl) y;exact B _ (h j)
 | lp q i c=>
  simp only [AX] at h ⊢;intro y;obtain ⟨j,B⟩:=u q i (.inr ⟨c,rfl⟩) y;obtain ⟨g,len,cap,f,l⟩:=h j;exact ⟨g,len,cap,B _ f,l⟩
variable {O:AD} {q:Nat} {i:Option Nat}
theorem AY.xv {F0:Nat->Nat->Prop} {w0:W0} {w w':World} (h:AY F0 w0 O a w G) (o:∃ p,O.xat q i=some p) (j:slot a' q=slot a q) (r:∀ b,G q none=some (b,0)->w'.heap[b]?=w.heap[b]?):∀ v,XV a w q i v->XV a' w' q i v:=by
 intro v hv;cases i with
 | none=>exact hv.trans j.symm
 | some k=>
  obtain ⟨⟨n,es⟩,s⟩:=o;obtain ⟨cs,e,_⟩:=AD.xat_some s;obtain ⟨b,c,T,m,u,x⟩:=hv;have d:q<a.tmps.size:=by
   rcases Nat.lt_or_ge q a.tmps.size with g | g
   ·exact g
   ·rw [h.dom q g] at e; cases e
  have l:=h.slots q d;rw [e] at l;obtain ⟨A,c',B,f,C,_,y,_⟩:=l;rw [m] at f;simp only [Value.pointer.injEq,zzY,Addr.mk.injEq,and_true,and_self] at f;subst f;exact ⟨b,c,T,by rw [j,m],by rw [r b y]; exact u,x⟩
theorem IY (a:Act) (d:Nat) (v:Value) (h:d<a.tmps.size):slot (a.put (some d) v) d=v:=by
 simp [slot,Act.put,Array.getD_eq_getD_getElem?,h]
theorem BN (a:Act) (d s:Nat) (v:Value) (h:d≠s):slot (a.put (some d) v) s=slot a s:=by
 simp [slot,Act.put,Array.getD_eq_getD_getElem?,Array.getElem?_setIfInBounds,h]
theorem F1 (a:Act) (d:Option Nat) (v:Value):(a.put d v).tmps.size=a.tmps.size:=by
 cases d <;> simp [Act.put]
theorem LT (a:Act) (d:Option Nat) (v:Value):(a.put d v).defers=a.defers:=by
 cases d <;> simp [Act.put]
def Q1 (a:Act) (d:Nat) (a':Act):Prop:=∃ v,a'=a.put (some d) v
structure MU (N:Nat) (p:Option (Nat × Value)) (a:Act):Prop where
 size:a.tmps.size=N
 pin:∀ i v,p=some (i,v)->slot a i=v
theorem MU.put {N:Nat} {p:Option (Nat × Value)} {d:Nat} (h:MU N p a) (c:∀ i v,p=some (i,v)->some d≠some i) (k:Q1 a d a'):MU N p a':=by
 obtain ⟨v,rfl⟩:=k;exact ⟨by rw [F1]; exact h.size,fun i u b=>by rw [BN _ _ _ _ (fun e=>c i u b (by rw [e]))]; exact h.pin i u b⟩
theorem QA (w:World) (F:Nat->Nat->Prop):D0 w w F F:=fun _ _ _ b c=>⟨b,c⟩
variable {t:TV}
theorem AY.rem {F0:Nat->Nat->Prop} {w0:W0} {O env':AD} {w:World} (h:AY F0 w0 O a w G) (s:Nat) (m:s<a.tmps.size) (g:A7 w (A2 w0.heap.size F0 G) t (slot a s)) (k:t.WF)
  (d:∀ n,env'.get n=O.get n∨(n=s∧env'.get n=.tv t)):AY F0 w0 env' a w G:=by
 refine ⟨h.uniq,h.lt,h.below,h.defers,fun q j=>?_,fun q j=>?_,fun q=>?_⟩
 ·rcases d q with e | ⟨rfl,_⟩
  ·rw [e]; exact h.dom q j
  ·omega
 ·rcases d q with e | ⟨rfl,e⟩
  ·rw [e];refine AX.kept (QA _ _) (fun _=>rfl) (fun _ _ _ _=>rfl) (fun r l g ⟨cs,b⟩=>?_) (fun r i g ⟨p,f⟩=>?_) (h.slots q j)
   ·rcases d r with c | ⟨_,c⟩
    ·rw [c] at b; exact ⟨⟨cs,b⟩,rfl⟩
    ·rw [c] at b; cases b
   ·rcases d r with c | ⟨_,c⟩
    ·rw [AD.xat_of c] at f; exact ⟨⟨p,f⟩,fun _ hv=>hv⟩
    ·cases i <;> simp only [AD.xat,c] at f <;> cases f
  ·rw [e]; exact g
 ·rcases d q with e | ⟨_,e⟩
  ·rw [e]; exact h.wf q
  ·rw [e]; exact k
end Go.Sf
