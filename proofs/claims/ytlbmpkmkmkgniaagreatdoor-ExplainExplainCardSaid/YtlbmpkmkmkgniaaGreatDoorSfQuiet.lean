/- Steps that leave what was there. -/
import Derived.Test.YtlbmpkmkmkgniaaGreatDoorSfInv
set_option linter.all false
namespace Go.Sf
open Go.RowKit (Below)
theorem AD.noRef_ref (d:Nat):∀ (O:AD),O.noRef d=true->∀ s,(O.get s).ref≠some d
 | [],_,s=>by simp [AD.get,EV.ref]
 | (k,e)::r,b,s=>by
  simp only [AD.noRef,zzZ] at b;rw [AD.get_cons];split
  ·intro h;have:=b.1;simp [EV.noR,h] at this
  ·exact AD.noRef_ref d r b.2 s
theorem AD.noRef_x (d:Nat) (O:AD) (h:O.noRef d=true) (s:Nat):(∀ i,O.get s≠.la d i)∧∀ i c,O.get s≠.lp d i c:=
 ⟨fun i e=>AD.noRef_ref d O h s (by rw [e]; rfl),fun i c e=>AD.noRef_ref d O h s (by rw [e]; rfl)⟩
theorem AD.noRef_spec (d:Nat) (O:AD) (h:O.noRef d=true) (s b:Nat):O.get s≠.bp d b:=
 fun e=>AD.noRef_ref d O h s (by rw [e]; rfl)
variable {d:Nat} {e:EV} {i:Option Nat} {p:Nat × QQ}
theorem AD.xat_same {O:AD} (h:AD.xat ((d,e)::O) d i=some p):(∃ cs,e=.bx cs)∨(∃ n es,e=.xo n es):=by
 obtain ⟨n,es⟩:=p;cases i with
 | none=>have:=AD.xat_none h; rw [AD.get_cons,d1 rfl] at this; exact .inr ⟨n,es,this⟩
 | some k=>obtain ⟨cs,b,_⟩:=AD.xat_some h; rw [AD.get_cons,d1 rfl] at b; exact .inl ⟨cs,b⟩
variable {q:Nat}
theorem AD.xat_drop {O:AD} (f:∀ cs,e≠.bx cs) (g:∀ n es,e≠.xo n es) (h:AD.xat ((d,e)::O) q i=some p):d≠q∧O.xat q i=some p:=by
 by_cases b:d=q
 ·subst b;rcases AD.xat_same h with ⟨cs,c⟩ | ⟨n,es,c⟩
  ·exact absurd c (f cs)
  ·exact absurd c (g n es)
 ·exact ⟨b,by rw [←h]; exact (AD.xat_of (by rw [AD.get_cons,d2 b])).symm⟩
theorem AD.xat_cons {O:AD} (h:d≠q):AD.xat ((d,e)::O) q i=O.xat q i:=
 AD.xat_of (by rw [AD.get_cons,d2 h])
theorem AD.noX_all {s k:Nat}:∀ {O:AD},O.noX s none=true->O.noX s (some k)=true
 | [],_=>rfl
 | (q,e)::r,b=>by
  simp only [AD.noX,zzZ] at b ⊢;refine ⟨?_,AD.noX_all b.2⟩;have h:=b.1;cases e <;> try rfl
  ·rename_i q i;cases i with
   | none=>rfl
   | some i=>simp only [EV.noC,Bool.or_false] at h; simp [EV.noC,h]
  ·rename_i q i c;cases i with
   | none=>rfl
   | some i=>simp only [EV.noC,Bool.or_false] at h; simp [EV.noC,h]
variable {s:Nat}
theorem AD.noX_ref:∀ {O:AD},O.noRef s=true->O.noX s none=true
 | [],_=>rfl
 | (q,e)::r,b=>by
  simp only [AD.noRef,AD.noX,zzZ] at b ⊢;refine ⟨?_,AD.noX_ref b.2⟩;have h:=b.1;cases e <;> try rfl
  ·rename_i q i;cases i with
   | none=>rfl
   | some i=>simpa [EV.noR,EV.ref,EV.noC] using h
  ·rename_i q i c;cases i with
   | none=>rfl
   | some i=>simpa [EV.noR,EV.ref,EV.noC] using h
theorem AD.noX_spec {k:Option Nat}:∀ {O:AD},O.noX s k=true->∀ p j,(k=none∨k=some j)->O.get p≠.la s (some j)∧∀ c,O.get p≠.lp s (some j) c
 | [],_,p,j,_=>by simp [AD.get]
 | (q,e)::r,f,p,j,g=>by
  simp only [AD.noX,zzZ] at f;have l:=AD.noX_spec f.2 p j g;rw [AD.get_cons];split
  ·have b:=f.1;rcases g with rfl | rfl
   ·exact ⟨fun h=>by rw [h] at b; simp [EV.noC] at b,fun c h=>by rw [h] at b; simp [EV.noC] at b⟩
   ·exact ⟨fun h=>by rw [h] at b; simp [EV.noC] at b,fun c h=>by rw [h] at b; simp [EV.noC] at b⟩
  ·exact l
def G0 (G:DT) (d:Nat) (zd:Option Nat->Option (Nat × Nat)):DT:=fun s=>if s=d then zd else G s
theorem CD (G:DT) (d:Nat) (b:Option Nat->Option (Nat × Nat)):G0 G d b d=b:=by simp [G0]
theorem B2 (G:DT) (d s:Nat) (b:Option Nat->Option (Nat × Nat)) (h:s≠d):G0 G d b s=G s:=by simp [G0,h]
section
variable {F0:Nat->Nat->Prop} {w0:W0} {O:AD} {a:Act} {w:World} {G:DT}
theorem Lr {w':World} (m:Below w.heap.size w w') (d:Nat) (j:Option Nat->Option (Nat × Nat)) (n:∀ i b lo,j i=some (b,lo)->w.heap.size<=b) :
  D0 w w' (A2 w0.heap.size F0 G) (A2 w0.heap.size F0 (G0 G d j)):=by
 intro b o v k r;have g:b<w.heap.size:=World.block_lt_of_cell? w ⟨b,o,none⟩ k;refine ⟨by rw [m.cell (p:=⟨b,o,none⟩) g]; exact k,fun f=>r ?_⟩;rcases f with h | ⟨s,i,lo,c,u⟩
 ·exact .inl h
 ·by_cases l:s=d
  ·subst l;rw [CD] at c;have:=n i b lo c;omega
  ·rw [B2 _ _ _ _ l] at c;exact .inr ⟨s,i,lo,c,u⟩
theorem AY.quiet {w':World} (h:AY F0 w0 O a w G) (A:Below w.heap.size w w') (d:Nat) (N:d<a.tmps.size) (e:EV) (v:Value)
  (u:Option Nat->Option (Nat × Nat)) (D:∀ i b lo,u i=some (b,lo)->w.heap.size<=b∧b<w'.heap.size) (H:∀ i x b lo g,u i=some (b,lo)->u x=some (b,g)->i=x)
  (B:(∃ cs,e=.bx cs)∨(∃ n es,e=.xo n es)->O.noRef d=true)
  (C:AX (a.put (some d) v) w' (A2 w0.heap.size F0 (G0 G d u)) (G0 G d u) ((d,e)::O) d e v) (I:e.WF) :
  AY F0 w0 ((d,e)::O) (a.put (some d) v) w' (G0 G d u):=by
 have L:=Lr (F0:=F0) (w0:=w0) (G:=G) A d u (fun i b lo h=>(D i b lo h).1);refine ⟨?_,?_,h.below.go A,by rw [LT]; exact h.defers,?_,?_,?_⟩
 ·intro s i s' x b lo g j r;by_cases k:s=d <;> by_cases m:s'=d
  ·subst k; subst m;rw [CD] at j r;exact ⟨rfl,H i x b lo g j r⟩
  ·subst k;rw [CD] at j;rw [B2 _ _ _ _ m] at r;have:=(D i b lo j).1; have:=(h.lt s' x b g r).1; omega
  ·subst m;rw [CD] at r;rw [B2 _ _ _ _ k] at j;have:=(D x b g r).1; have:=(h.lt s i b lo j).1; omega
  ·rw [B2 _ _ _ _ k] at j;rw [B2 _ _ _ _ m] at r;exact h.uniq s i s' x b lo g j r
 ·intro s i b lo j;by_cases k:s=d
  ·subst k;rw [CD] at j;have:=D i b lo j;exact ⟨this.2,.inl (Nat.le_trans h.below.size this.1)⟩
  ·rw [B2 _ _ _ _ k] at j;have:=h.lt s i b lo j;exact ⟨Nat.lt_of_lt_of_le this.1 A.size,this.2⟩
 ·intro s k;rw [F1] at k;rw [AD.get_cons,d2 (by omega)];exact h.dom s k
 ·intro s k;rw [F1] at k;rw [AD.get_cons];by_cases o:d=s
  ·subst o;rw [d1 rfl,IY _ _ _ N];exact C
  ·rw [d2 o,BN _ _ _ _ o];refine AX.kept L (fun i=>by rw [B2 _ _ _ _ (fun e=>o e.symm)]) (fun i b lo P=>A.block b (h.lt s i b lo P).1) (fun q J y ⟨cs,l⟩=>?_) (fun q i y ⟨p,E⟩=>?_) (h.slots s k)
   ·rw [AD.get_cons] at l;by_cases f:d=q
    ·subst f;rw [d1 rfl] at l;exact absurd y (AD.noRef_spec d O (B (.inl ⟨cs,l⟩)) s J)
    ·rw [d2 f] at l;exact ⟨⟨cs,l⟩,BN _ _ _ _ f⟩
   ·by_cases f:d=q
    ·subst f;have M:=AD.noRef_x d O (B (AD.xat_same E)) s;rcases y with y | ⟨c,y⟩
     ·exact absurd y (M.1 i)
     ·exact absurd y (M.2 i c)
    ·rw [AD.xat_cons f] at E;exact ⟨⟨p,E⟩,h.xv ⟨p,E⟩ (BN _ _ _ _ f) (fun b K=>A.block b (h.lt _ _ _ _ K).1)⟩
 ·intro s;rw [AD.get_cons];split
  ·exact I
  ·exact h.wf s
theorem AY.tv {w':World} (h:AY F0 w0 O a w G) (f:Below w.heap.size w w') (d:Nat) (g:d<a.tmps.size) (t:TV) (v:Value)
  (b:A7 w' (A2 w0.heap.size F0 (G0 G d fun _=>none)) t v) (c:t.WF) :
  DJ F0 w0 ((d,.tv t)::O) (a.put (some d) v) w':=
 ⟨_,h.quiet f d g (.tv t) v (fun _=>none) (by simp) (by simp) (by simp) b c⟩
theorem AY.tv_same (h:AY F0 w0 O a w G) (d:Nat) (f:d<a.tmps.size) (t:TV) (v:Value)
  (b:A7 w (A2 w0.heap.size F0 G) t v) (c:t.WF) :
  DJ F0 w0 ((d,.tv t)::O) (a.put (some d) v) w:=
 h.tv (Below.refl _ _) d f t v (DH (Lr (Below.refl _ _) d _ (by simp)) t v b) c
theorem AY.ow {w':World} (h:AY F0 w0 O a w G) (k:Below w.heap.size w w') (d:Nat) (l:d<a.tmps.size) (t:TV) (v:Value) (z:Option (Nat × Nat))
  (m:∀ b lo,z=some (b,lo)->w.heap.size<=b∧b<w'.heap.size)
  (c:C3 w' (A2 w0.heap.size F0 (G0 G d fun i=>if i=none then z else none)) z t v) (f:t.WF) :
  DJ F0 w0 ((d,.ow t)::O) (a.put (some d) v) w':=by
 refine ⟨_,h.quiet k d l (.ow t) v (fun i=>if i=none then z else none) (fun i b lo hi=>?_) (fun i o b lo n g j=>?_) (by simp) ?_ f⟩
 ·split at hi
  ·exact m b lo hi
  ·cases hi
 ·split at g
  ·split at j
   ·simp_all
   ·cases j
  ·cases g
 ·simp only [AX,CD,if_true];exact c
end
section reads
variable {w:World} {F:Nat->Nat->Prop}
theorem St (n:Nat):∀ (es:QQ) (b o:Nat),(∀ e∈es,e.cells.length=n)->EN w F (es.flatMap TV.cells) b o->IN w F n es b o
 | [],_,_,_,_=>trivial
 | e::es,b,o,f,h=>by
  rw [OZ];have c:e.cells.length=n:=f e (by simp);rw [List.flatMap_cons] at h;refine ⟨by have:=Xw h e.cells.length; simpa using this,c,St n es b (o+n) (fun x g=>f x (by simp [g])) ?_⟩;have:=Nw h e.cells.length;rw [c] at this;simpa [c] using this
theorem Nn (n:Nat):∀ (es:QQ),(∀ e∈es,e.cells.length=n)->(es.flatMap TV.cells).length=es.length*n
 | [],_=>by simp
 | e::es,b=>by
  rw [List.flatMap_cons,d4,Nn n es (fun x c=>b x (by simp [c])),b e (by simp),d6,Nat.add_mul,Nat.one_mul,Nat.add_comm]
theorem Pa {c:QQ} {xs:List Value} {b o:Nat} (h:AS w F c xs) (j:∀ x∈xs,x.oneCell'=true) (g:∀ (i:Nat) (x:Value),xs[i]?=some x->w.cell? ⟨b,o+i,none⟩=some x∧¬ F b (o+i)):EN w F c b o:=by
 rw [GU];rw [CP] at h;intro i t hi;have k:i<c.length:=by
  rcases Nat.lt_or_ge i c.length with h | h
  ·exact h
  ·rw [List.getElem?_eq_none h] at hi; cases hi
 have f:xs[i]?=some xs[i]:=List.getElem?_eq_getElem (by omega);exact ⟨xs[i],(g i _ f).1,(g i _ f).2,j _ (List.getElem_mem _),h.2 i t _ hi f⟩
variable {v:Value} {z:Option (Nat × Nat)}
theorem ID.cell {size:Nat} {n:Nat} {xs:List Value} {g cap:Nat} (h:ID w size v n xs z) (hv:v=.slice (some ⟨g,0,none⟩) n cap):∀ (j:Nat) (u:Value),xs[j]?=some u->w.cell? ⟨g,j,none⟩=some u:=by
 intro j u c;rcases h.2 with ⟨rfl,_⟩ | ⟨l,k,f,e,rfl,m,_,_,_,b,_⟩
 ·cases hv
 ·simp only [Value.slice.injEq,zzY,Addr.mk.injEq] at hv;obtain ⟨⟨rfl,_⟩,_⟩:=hv;rw [cell_of_row w l j f e (0,0) m];rw [←b,List.getElem?_take] at c;split at c
  ·simpa using c
  ·cases c
variable {t:TV}
theorem C3.rep (h:C3 w F z t v) (y:∀ b lo o,z=some (b,lo)->o<lo->¬ F b o):A7 w F t v:=by
 cases t <;> simp only [C3] at h;rename_i n es;obtain ⟨xs,j,A,B,C⟩:=h;simp only [A7];rcases j.2 with ⟨rfl,D,u⟩ | ⟨g,cap,E,e,rfl,K,k,H,I,l,u⟩
 ·have:es=[]:=List.eq_nil_of_length_eq_zero D;subst this;exact ⟨none,0,rfl,d3 _,fun _=>rfl,by simp⟩
 ·refine ⟨some ⟨g,0,none⟩,cap,rfl,k,by simp,fun J c=>?_⟩;simp only [zzY] at c;subst c;refine ⟨.inr rfl,St n es g 0 B (Pa A C fun i x f=>?_)⟩;rw [Nat.zero_add];refine ⟨j.cell rfl i x f,y g _ i u ?_⟩;rcases Nat.lt_or_ge i xs.length with m | r
  ·rwa [j.1] at m
  ·rw [List.getElem?_eq_none r] at f; cases f
theorem JE.rep (h:JE w F z t v) (c:∀ b lo o,z=some (b,lo)->o<lo->¬ F b o):A7 w F t v:=by
 cases t <;> first | exact C3.rep h c | skip
 obtain ⟨xs,⟨k,f,_⟩,_⟩:=h;simp only [A7];rcases f.2 with ⟨rfl,_⟩ | ⟨g,cap,j,e,rfl,_⟩ <;> rfl
end reads
end Go.Sf
