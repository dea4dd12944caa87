/- The invariant between an environment of the pure language and a frame with memory. -/
import Derived.Test.YtlbmpkmkmkgniaaGreatDoorSfSem
import Derived.Laws.AppendOwn
set_option linter.all false
namespace Go.Sf
open Go.RowKit (Below)
def IB (w:World) (size:Nat) (v:Value) (n:Nat) (xs:List Value) (z:Option (Nat × Nat)):Prop:=
 xs.length=n*size ∧
 ((v=.slice none 0 0∧n=0∧z=none) ∨
 ∃ g cap cur e,v=.slice (some ⟨g,0,none⟩) n cap∧w.heap[g]?=some (.cells cur e (0,0))∧n<=cap∧cap<=maxLen∧cur.size=cap*size∧cur.toList.take (n*size)=xs∧z=some (g,n*size))
def K5 (w:World) (size:Nat) (v:Value) (n:Nat) (xs:List Value) (z:Option (Nat × Nat)):Prop:=
 ∃ z0,IB w size v n xs z0∧z=z0.map fun p=>(p.1,0)
def C1 (w:World) (F:Nat->Nat->Prop) (z:Option (Nat × Nat)):TV->Value->Prop
 | .list n es,v=>∃ xs,IB w n v es.length xs z∧AS w F (es.flatMap TV.cells) xs∧(∀ e∈es,e.cells.length=n)∧∀ x∈xs,x.oneCell'=true
 | _,_=>False
def JI (w:World) (F:Nat->Nat->Prop) (z:Option (Nat × Nat)):TV->Value->Prop
 | .xl n es,v=>∃ xs,K5 w n v es.length xs z∧AS w F (es.flatMap TV.cells) xs∧(∀ e∈es,e.cells.length=n)∧∀ x∈xs,x.oneCell'=true
 | t,v=>C1 w F z t v
theorem C1.c {w:World} {F:Nat->Nat->Prop} {z:Option (Nat × Nat)} {t:TV} {v:Value} (h:C1 w F z t v):JI w F z t v:=by
 cases t <;> first | exact h | (simp only [C1] at h)
def C3 (w:World) (F:Nat->Nat->Prop) (z:Option (Nat × Nat)) (c:A1) (v:Value):Prop:=
 match c with
 | ⟨true,t⟩=>JI w F z t v
 | ⟨false,t⟩=>A7 w F t v∧v.oneCell'=true
abbrev DP:=Nat->Option Nat->Option (Nat × Nat)
def A3 (base:Nat) (F0:Nat->Nat->Prop) (G:DP) (b o:Nat):Prop:=(b<base∧F0 b o)∨∃ s i lo,G s i=some (b,lo)∧lo<=o
def slot (a:Act) (s:Nat):Value:=a.tmps.getD s undef
def XV (a:Act) (w:World) (q:Nat) (i:Option Nat) (v:Value):Prop:=
 match i with
 | none=>v=slot a q
 | some k=>∃ b c T,slot a q=.pointer (some ⟨b,0,none⟩)∧w.heap[b]?=some (.cells c T (0,0))∧c[k]?=some v
def AY (a:Act) (w:World) (F:Nat->Nat->Prop) (G:DP) (O:AD) (s:Nat):EV->Value->Prop
 | .undef,_=>True
 | .sk,v=>v=undef
 | .tv t,v=>A7 w F t v
 | .ow t,v=>C1 w F (G s none) t v
 | .bx cs,v=>∃ b c T,v=.pointer (some ⟨b,0,none⟩)∧w.heap[b]?=some (.cells c T (0,0))∧c.size=cs.length∧G s none=some (b,0)∧∀ (i:Nat) (d:A1),cs[i]?=some d->∃ x,c[i]?=some x∧C3 w F (G s (some i)) d x
 | .bp q off,v=>(∃ cs,O.get q=.bx cs)->∃ b,slot a q=.pointer (some ⟨b,0,none⟩)∧v=.pointer (some ⟨b,off,none⟩)
 | .tp ts,v=>∃ vs,v=.tuple vs∧AS w F ts vs.toList
 | .xo n es,v=>∃ xs,K5 w n v es.length xs (G s none)∧AS w F (es.flatMap TV.cells) xs∧(∀ e∈es,e.cells.length=n)∧∀ x∈xs,x.oneCell'=true
 | .oag cs,v=>∃ vs,v=.agg vs∧vs.size=cs.length∧∀ (i:Nat) (d:A1),cs[i]?=some d->∃ x,vs[i]?=some x∧C3 w F (G s (some i)) d x
 | .la q i,v=>(∃ p,O.xat q i=some p)->XV a w q i v
 | .lp q i c,v=>(∃ p,O.xat q i=some p)->∃ g len cap,XV a w q i (.slice (some ⟨g,0,none⟩) len cap)∧v=.pointer (some ⟨g,c,none⟩)
structure W0 extends World where
 E:Nat->Nat->Prop
theorem JI.own {w:World} {F:Nat->Nat->Prop} {z:Option (Nat × Nat)} {t:TV} {v:Value} (h:JI w F z t v) (a:t.isXl=false):C1 w F z t v:=by
 cases t <;> first | exact h | (simp [TV.isXl] at a)
structure Jw (F0:Nat->Nat->Prop) (w0:W0) (w:World):Prop where
 os:w.os=w0.os
 tape:w.tape=w0.tape
 output:w.output=w0.output
 size:w0.heap.size<=w.heap.size
 block:∀ k,k<w0.heap.size->(∀ o,¬ w0.E k o)->w.heap[k]?=w0.heap[k]?
 cell:∀ b o u,¬ w0.E b o->w0.cell? ⟨b,o,none⟩=some u->w.cell? ⟨b,o,none⟩=some u
 free:∀ b o o',w0.E b o->¬ F0 b o'
theorem Jw.trans {F0:Nat->Nat->Prop} {w0:W0} {w w':World} (h:Jw F0 w0 w) (e:w'.os=w.os) (f:w'.tape=w.tape) (g:w'.output=w.output) (i:w.heap.size<=w'.heap.size) (j:∀ k,k<w0.heap.size->(∀ o,¬ w0.E k o)->w'.heap[k]?=w.heap[k]?) (l:∀ b o u,b<w0.heap.size->¬ w0.E b o->w.cell? ⟨b,o,none⟩=some u->w'.cell? ⟨b,o,none⟩=some u):Jw F0 w0 w':=
 ⟨e.trans h.os,f.trans h.tape,g.trans h.output,Nat.le_trans h.size i,fun b c a=>(j b c a).trans (h.block b c a),fun b o u a d=>l b o u (World.block_lt_of_cell? _ ⟨b,o,none⟩ d) a (h.cell b o u a d),h.free⟩
theorem Jw.but {F0:Nat->Nat->Prop} {w0:W0} {w w':World} (h:Jw F0 w0 w) (g:w'.os=w.os) (i:w'.tape=w.tape) (j:w'.output=w.output) (l:w.heap.size<=w'.heap.size) {Z:Nat->Prop} (d:∀ b,Z b->w0.heap.size<=b∨∀ o,w0.E b o) (f:∀ k,k<w0.heap.size->¬ Z k->w'.heap[k]?=w.heap[k]?):Jw F0 w0 w':=
 h.trans g i j l (fun k m c=>f k m fun z=>(d k z).elim (fun e=>by omega) (fun e=>c 0 (e 0))) (fun b o u n c p=>by
  rw [World.cell?_of_block (w:=w) (a:=⟨b,o,none⟩) (f b n fun z=>(d b z).elim (fun e=>by omega) (fun e=>c (e o)))]; exact p)
theorem Jw.go {F0:Nat->Nat->Prop} {w0:W0} {w w':World} (h:Jw F0 w0 w) (k:Below w.heap.size w w'):Jw F0 w0 w':=
 h.trans k.os k.tape k.output k.size (fun b a _=>k.block b (Nat.lt_of_lt_of_le a h.size)) (fun b o u a _ c=>by rw [k.cell (p:=⟨b,o,none⟩) (Nat.lt_of_lt_of_le a h.size)]; exact c)
structure AZ (F0:Nat->Nat->Prop) (w0:W0) (O:AD) (a:Act) (w:World) (G:DP):Prop where
 uniq:∀ s i s' i' b lo lo',G s i=some (b,lo)->G s' i'=some (b,lo')->s=s'∧i=i'
 lt:∀ s i b lo,G s i=some (b,lo)->b<w.heap.size∧(w0.heap.size<=b∨∀ o,lo<=o->w0.E b o)
 below:Jw F0 w0 w
 defers:a.defers=[]
 dom:∀ s,a.tmps.size<=s->O.get s=.undef
 slots:∀ s,s<a.tmps.size->AY a w (A3 w0.heap.size F0 G) G O s (O.get s) (slot a s)
 wf:∀ s,(O.get s).WF
def DI (F0:Nat->Nat->Prop) (w0:W0) (O:AD) (a:Act) (w:World):Prop:=∃ G,AZ F0 w0 O a w G
theorem AD.get_cons (k:Nat) (e:EV) (O:AD) (n:Nat):AD.get ((k,e)::O) n=if k=n then e else O.get n:=rfl
theorem AD.get_map_keep (O:AD):∀ (a:ci) (n:Nat),AD.get (a.map fun s=>(s,O.get s)) n=if n∈a then O.get n else .undef
 | [],n=>by simp [AD.get]
 | s::a,n=>by
  simp only [List.map_cons,AD.get,AD.get_map_keep O a n,List.mem_cons];by_cases h:s=n
  ·subst h; simp
  ·have b:¬ n=s:=fun e=>h e.symm;simp [h,b]
theorem AD.get_keep (O:AD) (a:ci) (n:Nat):(O.keep a).get n=if n∈a then O.get n else .undef:=AD.get_map_keep O a n
theorem AD.xat_of {O env':AD} {q:Nat} {i:Option Nat} (h:env'.get q=O.get q):env'.xat q i=O.xat q i:=by
 cases i <;> simp only [AD.xat,h]
theorem AD.xat_undef {O:AD} {q:Nat} {i:Option Nat} (h:O.get q=.undef):O.xat q i=none:=by
 cases i <;> simp only [AD.xat,h]
theorem AD.xat_keep {O:AD} {a:ci} {q:Nat} {i:Option Nat} (h:∃ p,(O.keep a).xat q i=some p):∃ p,O.xat q i=some p:=by
 obtain ⟨p,b⟩:=h;by_cases c:q∈a
 ·exact ⟨p,by rw [←AD.xat_of (O:=O) (env':=O.keep a) (by rw [AD.get_keep,d1 c])]; exact b⟩
 ·rw [AD.xat_undef (by rw [AD.get_keep,d2 c])] at b; cases b
theorem AD.xat_some {O:AD} {q k:Nat} {n:Nat} {es:QQ} (h:O.xat q (some k)=some (n,es)):∃ cs,O.get q=.bx cs∧cs[k]?=some ⟨true,.xl n es⟩:=by
 simp only [AD.xat] at h;split at h
 ·rename_i cs a;split at h
  ·rename_i c es' b;simp only [zzY,Prod.mk.injEq] at h;obtain ⟨rfl,rfl⟩:=h;exact ⟨cs,a,b⟩
  ·cases h
 ·cases h
theorem AD.xat_none {O:AD} {q:Nat} {n:Nat} {es:QQ} (h:O.xat q none=some (n,es)):O.get q=.xo n es:=by
 simp only [AD.xat] at h;split at h
 ·rename_i b es' a;simp only [zzY,Prod.mk.injEq] at h;obtain ⟨rfl,rfl⟩:=h;exact a
 ·cases h
theorem A3.mono {base:Nat} {F0:Nat->Nat->Prop} {G e:DP} (h:∀ s i b lo,e s i=some (b,lo)->∃ s' d a,G s' d=some (b,a)∧a<=lo) {b o:Nat} (c:A3 base F0 e b o):A3 base F0 G b o:=by
 rcases c with c | ⟨s,i,lo,j,k⟩
 ·exact .inl c
 ·obtain ⟨s',d,a,f,g⟩:=h s i b lo j;exact .inr ⟨s',d,a,f,Nat.le_trans g k⟩
theorem DI.keep {F0:Nat->Nat->Prop} {w0:W0} {O:AD} {a:Act} {w:World} (h:DI F0 w0 O a w) (f:ci):DI F0 w0 (O.keep f) a w:=by
 obtain ⟨G,e⟩:=h;refine ⟨G,e.uniq,e.lt,e.below,e.defers,fun s g=>?_,fun s g=>?_,fun s=>?_⟩
 ·rw [AD.get_keep,e.dom s g]; split <;> rfl
 ·have:=e.slots s g;rw [AD.get_keep];split
  ·cases b:O.get s with
   | bp q k=>
    rw [b] at this;simp only [AY] at this ⊢;rintro ⟨cs,d⟩;rw [AD.get_keep] at d;split at d
    ·exact this ⟨cs,d⟩
    ·cases d
   | undef=>trivial
   | sk=>rw [b] at this; exact this
   | tv t=>rw [b] at this; exact this
   | ow t=>rw [b] at this; exact this
   | bx cs=>rw [b] at this; exact this
   | tp l=>rw [b] at this; exact this
   | xo n es=>rw [b] at this; exact this
   | oag cs=>rw [b] at this; exact this
   | la q i=>
    rw [b] at this;simp only [AY] at this ⊢;exact fun j=>this (AD.xat_keep j)
   | lp q i c=>
    rw [b] at this;simp only [AY] at this ⊢;exact fun j=>this (AD.xat_keep j)
  ·trivial
 ·rw [AD.get_keep];split
  ·exact e.wf s
  ·trivial
section own
variable {w w':World} {F F':Nat->Nat->Prop} {z:Option (Nat × Nat)}
theorem IB.kept {size:Nat} {v:Value} {n:Nat} {xs:List Value} (h:IB w size v n xs z) (d:∀ b lo,z=some (b,lo)->w'.heap[b]?=w.heap[b]?):IB w' size v n xs z:=by
 refine ⟨h.1,?_⟩;rcases h.2 with f | ⟨g,cap,a,e,i,j,k,l,m,o,c⟩
 ·exact .inl f
 ·exact .inr ⟨g,cap,a,e,i,by rw [d g _ c]; exact j,k,l,m,o,c⟩
theorem K5.kept {size:Nat} {v:Value} {n:Nat} {xs:List Value} (h:K5 w size v n xs z) (c:∀ b lo,z=some (b,lo)->w'.heap[b]?=w.heap[b]?):K5 w' size v n xs z:=by
 obtain ⟨e,f,a⟩:=h;exact ⟨e,f.kept (fun b lo d=>c b 0 (by rw [a,d]; rfl)),a⟩
theorem C1.kept {t:TV} {v:Value} (a:DW w w' F F') (h:C1 w F z t v) (c:∀ b lo,z=some (b,lo)->w'.heap[b]?=w.heap[b]?):C1 w' F' z t v:=by
 cases t <;> simp only [C1] at h ⊢;obtain ⟨xs,d,e,f⟩:=h;exact ⟨xs,d.kept c,BP a _ _ e,f⟩
theorem JI.kept {t:TV} {v:Value} (a:DW w w' F F') (h:JI w F z t v) (c:∀ b lo,z=some (b,lo)->w'.heap[b]?=w.heap[b]?):JI w' F' z t v:=by
 cases t <;> simp only [JI] at h ⊢ <;> first | exact C1.kept a h c | skip
 obtain ⟨xs,d,e,f⟩:=h;exact ⟨xs,d.kept c,BP a _ _ e,f⟩
theorem C3.kept {c:A1} {v:Value} (a:DW w w' F F') (h:C3 w F z c v) (d:∀ b lo,z=some (b,lo)->w'.heap[b]?=w.heap[b]?):C3 w' F' z c v:=by
 obtain ⟨_ | _,t⟩:=c
 ·exact ⟨DG a _ _ h.1,h.2⟩
 ·exact JI.kept a h d
end own
theorem AY.kept {a C:Act} {w w':World} {F F':Nat->Nat->Prop} {G J:DP} {O env':AD} {s:Nat} {e:EV} {v:Value}
  (m:DW w w' F F') (o:∀ i,J s i=G s i) (r:∀ i b lo,G s i=some (b,lo)->w'.heap[b]?=w.heap[b]?)
  (D:∀ q k,e=.bp q k->(∃ cs,env'.get q=.bx cs)->(∃ cs,O.get q=.bx cs)∧slot C q=slot a q)
  (u:∀ q i,(e=.la q i∨∃ c,e=.lp q i c)->(∃ p,env'.xat q i=some p)->(∃ p,O.xat q i=some p)∧∀ v,XV a w q i v->XV C w' q i v)
  (h:AY a w F G O s e v):AY C w' F' J env' s e v:=by
 cases e with
 | undef=>trivial
 | sk=>exact h
 | tv t=>exact DG m t v h
 | ow t=>
  simp only [AY] at h ⊢;rw [o];exact h.kept m (fun b lo=>r _ b lo)
 | bx cs=>
  simp only [AY] at h ⊢;obtain ⟨b,c,T,f,l,A,K,H⟩:=h;refine ⟨b,c,T,f,by rw [r _ _ _ K]; exact l,A,by rw [o]; exact K,fun i d E=>?_⟩;obtain ⟨x,I,j⟩:=H i d E;exact ⟨x,I,by rw [o]; exact j.kept m (fun b lo=>r _ b lo)⟩
 | bp q k=>
  simp only [AY] at h ⊢;intro y;obtain ⟨j,B⟩:=D q k rfl y;rw [B];exact h j
 | tp L=>
  simp only [AY] at h ⊢;obtain ⟨vs,f,l⟩:=h;exact ⟨vs,f,BP m _ _ l⟩
 | xo n es=>
  simp only [AY] at h ⊢;obtain ⟨xs,f,l,A⟩:=h;rw [o];exact ⟨xs,f.kept (fun b lo=>r _ b lo),BP m _ _ l,A⟩
 | oag cs=>
  simp only [AY] at h ⊢;obtain ⟨vs,f,A,H⟩:=h;refine ⟨vs,f,A,fun i d E=>?_⟩;obtain ⟨x,I,j⟩:=H i d E;exact ⟨x,I,by rw [o]; exact j.kept m (fun b lo=>r _ b lo)⟩
 | la q i=>
  simp only [AY] at h ⊢;intro y;obtain ⟨j,B⟩:=u q i (.inl rfl) y;exact B _ (h j)
 | lp q i c=>
  simp only [AY] at h ⊢;intro y;obtain ⟨j,B⟩:=u q i (.inr ⟨c,rfl⟩) y;obtain ⟨g,len,cap,f,l⟩:=h j;exact ⟨g,len,cap,B _ f,l⟩
theorem AZ.xv {F0:Nat->Nat->Prop} {w0:W0} {O:AD} {a j:Act} {w w':World} {G:DP} (h:AZ F0 w0 O a w G) {q:Nat} {i:Option Nat} (r:∃ p,O.xat q i=some p) (l:slot j q=slot a q) (s:∀ b,G q none=some (b,0)->w'.heap[b]?=w.heap[b]?):∀ v,XV a w q i v->XV j w' q i v:=by
 intro v hv;cases i with
 | none=>exact hv.trans l.symm
 | some k=>
  obtain ⟨⟨n,es⟩,t⟩:=r;obtain ⟨cs,e,_⟩:=AD.xat_some t;obtain ⟨b,c,T,o,u,x⟩:=hv;have d:q<a.tmps.size:=by
   rcases Nat.lt_or_ge q a.tmps.size with g | g
   ·exact g
   ·rw [h.dom q g] at e; cases e
  have m:=h.slots q d;rw [e] at m;obtain ⟨A,c',B,f,C,_,y,_⟩:=m;rw [o] at f;simp only [Value.pointer.injEq,zzY,Addr.mk.injEq,and_true,and_self] at f;subst f;exact ⟨b,c,T,by rw [l,o],by rw [s b y]; exact u,x⟩
theorem Ia (a:Act) (d:Nat) (v:Value) (h:d<a.tmps.size):slot (a.put (some d) v) d=v:=by
 simp [slot,Act.put,Array.getD_eq_getD_getElem?,h]
theorem BJ (a:Act) (d s:Nat) (v:Value) (h:d≠s):slot (a.put (some d) v) s=slot a s:=by
 simp [slot,Act.put,Array.getD_eq_getD_getElem?,Array.getElem?_setIfInBounds,h]
theorem FW (a:Act) (d:Option Nat) (v:Value):(a.put d v).tmps.size=a.tmps.size:=by
 cases d <;> simp [Act.put]
theorem LS (a:Act) (d:Option Nat) (v:Value):(a.put d v).defers=a.defers:=by
 cases d <;> simp [Act.put]
def Q6 (a:Act) (d:Nat) (a':Act):Prop:=∃ v,a'=a.put (some d) v
structure MX (N:Nat) (p:Option (Nat × Value)) (a:Act):Prop where
 size:a.tmps.size=N
 pin:∀ i v,p=some (i,v)->slot a i=v
theorem MX.put {N:Nat} {p:Option (Nat × Value)} {a b:Act} {d:Nat} (h:MX N p a) (f:∀ i v,p=some (i,v)->some d≠some i) (k:Q6 a d b):MX N p b:=by
 obtain ⟨v,rfl⟩:=k;exact ⟨by rw [FW]; exact h.size,fun i u c=>by rw [BJ _ _ _ _ (fun e=>f i u c (by rw [e]))]; exact h.pin i u c⟩
theorem QL (w:World) (F:Nat->Nat->Prop):DW w w F F:=fun _ _ _ a b=>⟨a,b⟩
theorem AZ.rem {F0:Nat->Nat->Prop} {w0:W0} {O env':AD} {a:Act} {w:World} {G:DP} (h:AZ F0 w0 O a w G) (s:Nat) {t:TV} (m:s<a.tmps.size) (g:A7 w (A3 w0.heap.size F0 G) t (slot a s)) (k:t.WF)
  (d:∀ n,env'.get n=O.get n∨(n=s∧env'.get n=.tv t)):AZ F0 w0 env' a w G:=by
 refine ⟨h.uniq,h.lt,h.below,h.defers,fun q j=>?_,fun q j=>?_,fun q=>?_⟩
 ·rcases d q with e | ⟨rfl,_⟩
  ·rw [e]; exact h.dom q j
  ·omega
 ·rcases d q with e | ⟨rfl,e⟩
  ·rw [e];refine AY.kept (QL _ _) (fun _=>rfl) (fun _ _ _ _=>rfl) (fun r l g ⟨cs,b⟩=>?_) (fun r i g ⟨p,f⟩=>?_) (h.slots q j)
   ·rcases d r with c | ⟨_,c⟩
    ·rw [c] at b; exact ⟨⟨cs,b⟩,rfl⟩
    ·rw [c] at b; cases b
   ·rcases d r with c | ⟨_,c⟩
    ·rw [AD.xat_of c] at f; exact ⟨⟨p,f⟩,fun _ hv=>hv⟩
    ·cases i <;> simp only [AD.xat,c] at f <;> cases f
  ·rw [e]; exact g
 ·rcases d q with e | ⟨_,e⟩
  ·rw [e]; exact h.wf q
  ·rw [e]; exact k
end Go.Sf
