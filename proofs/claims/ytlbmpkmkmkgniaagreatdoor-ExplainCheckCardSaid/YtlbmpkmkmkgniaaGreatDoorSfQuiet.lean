/- Steps that leave what was there. -/
import Derived.Test.YtlbmpkmkmkgniaaGreatDoorSfInv
set_option linter.all false
namespace Go.Sf
open Go.RowKit (Below)
theorem AD.noRef_ref (d:Nat):∀ (O:AD),O.noRef d=true->∀ s,(O.get s).ref≠some d
 | [],_,s=>by simp [AD.get,EV.ref]
 | (k,e)::r,b,s=>by
  simp only [AD.noRef,zzZ] at b;rw [AD.get_cons];split
  ·intro h;have:=b.1;simp [EV.noR,h] at this
  ·exact AD.noRef_ref d r b.2 s
theorem AD.noRef_x (d:Nat) (O:AD) (h:O.noRef d=true) (s:Nat):(∀ i,O.get s≠.la d i)∧∀ i c,O.get s≠.lp d i c:=
 ⟨fun i e=>AD.noRef_ref d O h s (by rw [e]; rfl),fun i c e=>AD.noRef_ref d O h s (by rw [e]; rfl)⟩
theorem AD.noRef_spec (d:Nat) (O:AD) (h:O.noRef d=true) (s b:Nat):O.get s≠.bp d b:=
 fun e=>AD.noRef_ref d O h s (by rw [e]; rfl)
theorem AD.xat_same {O:AD} {d:Nat} {e:EV} {i:Option Nat} {p:Nat × QQ} (h:AD.xat ((d,e)::O) d i=some p):(∃ cs,e=.bx cs)∨(∃ n es,e=.xo n es):=by
 obtain ⟨n,es⟩:=p;cases i with
 | none=>have:=AD.xat_none h; rw [AD.get_cons,d1 rfl] at this; exact .inr ⟨n,es,this⟩
 | some k=>obtain ⟨cs,b,_⟩:=AD.xat_some h; rw [AD.get_cons,d1 rfl] at b; exact .inl ⟨cs,b⟩
theorem AD.xat_drop {O:AD} {d q:Nat} {e:EV} {i:Option Nat} {p:Nat × QQ} (f:∀ cs,e≠.bx cs) (g:∀ n es,e≠.xo n es) (h:AD.xat ((d,e)::O) q i=some p):d≠q∧O.xat q i=some p:=by
 by_cases b:d=q
 ·subst b;rcases AD.xat_same h with ⟨cs,c⟩ | ⟨n,es,c⟩
  ·exact absurd c (f cs)
  ·exact absurd c (g n es)
 ·exact ⟨b,by rw [←h]; exact (AD.xat_of (by rw [AD.get_cons,d2 b])).symm⟩
theorem AD.xat_cons {O:AD} {d q:Nat} {e:EV} {i:Option Nat} (h:d≠q):AD.xat ((d,e)::O) q i=O.xat q i:=
 AD.xat_of (by rw [AD.get_cons,d2 h])
theorem AD.noX_all {s k:Nat}:∀ {O:AD},O.noX s none=true->O.noX s (some k)=true
 | [],_=>rfl
 | (q,e)::r,b=>by
  simp only [AD.noX,zzZ] at b ⊢;refine ⟨?_,AD.noX_all b.2⟩;have h:=b.1;cases e <;> try rfl
  ·rename_i q i;cases i with
   | none=>rfl
   | some i=>simp only [EV.noC,Bool.or_false] at h; simp [EV.noC,h]
  ·rename_i q i c;cases i with
   | none=>rfl
   | some i=>simp only [EV.noC,Bool.or_false] at h; simp [EV.noC,h]
theorem AD.noX_ref {s:Nat}:∀ {O:AD},O.noRef s=true->O.noX s none=true
 | [],_=>rfl
 | (q,e)::r,b=>by
  simp only [AD.noRef,AD.noX,zzZ] at b ⊢;refine ⟨?_,AD.noX_ref b.2⟩;have h:=b.1;cases e <;> try rfl
  ·rename_i q i;cases i with
   | none=>rfl
   | some i=>simpa [EV.noR,EV.ref,EV.noC] using h
  ·rename_i q i c;cases i with
   | none=>rfl
   | some i=>simpa [EV.noR,EV.ref,EV.noC] using h
theorem AD.noX_spec {s:Nat} {k:Option Nat}:∀ {O:AD},O.noX s k=true->∀ p j,(k=none∨k=some j)->O.get p≠.la s (some j)∧∀ c,O.get p≠.lp s (some j) c
 | [],_,p,j,_=>by simp [AD.get]
 | (q,e)::r,d,p,j,f=>by
  simp only [AD.noX,zzZ] at d;have g:=AD.noX_spec d.2 p j f;rw [AD.get_cons];split
  ·have b:=d.1;rcases f with rfl | rfl
   ·exact ⟨fun h=>by rw [h] at b; simp [EV.noC] at b,fun c h=>by rw [h] at b; simp [EV.noC] at b⟩
   ·exact ⟨fun h=>by rw [h] at b; simp [EV.noC] at b,fun c h=>by rw [h] at b; simp [EV.noC] at b⟩
  ·exact g
def GX (G:DP) (d:Nat) (zd:Option Nat->Option (Nat × Nat)):DP:=fun s=>if s=d then zd else G s
theorem CB (G:DP) (d:Nat) (b:Option Nat->Option (Nat × Nat)):GX G d b d=b:=by simp [GX]
theorem B1 (G:DP) (d s:Nat) (b:Option Nat->Option (Nat × Nat)) (h:s≠d):GX G d b s=G s:=by simp [GX,h]
section
variable {F0:Nat->Nat->Prop} {w0:W0} {O:AD} {a:Act} {w:World} {G:DP}
theorem Lq {w':World} (l:Below w.heap.size w w') (d:Nat) (g:Option Nat->Option (Nat × Nat)) (m:∀ i b lo,g i=some (b,lo)->w.heap.size<=b) :
  DW w w' (A3 w0.heap.size F0 G) (A3 w0.heap.size F0 (GX G d g)):=by
 intro b o v j n;have f:b<w.heap.size:=World.block_lt_of_cell? w ⟨b,o,none⟩ j;refine ⟨by rw [l.cell (p:=⟨b,o,none⟩) f]; exact j,fun e=>n ?_⟩;rcases e with h | ⟨s,i,lo,c,q⟩
 ·exact .inl h
 ·by_cases k:s=d
  ·subst k;rw [CB] at c;have:=m i b lo c;omega
  ·rw [B1 _ _ _ _ k] at c;exact .inr ⟨s,i,lo,c,q⟩
theorem AZ.quiet {w':World} (h:AZ F0 w0 O a w G) (y:Below w.heap.size w w') (d:Nat) (L:d<a.tmps.size) (e:EV) (v:Value)
  (t:Option Nat->Option (Nat × Nat)) (B:∀ i b lo,t i=some (b,lo)->w.heap.size<=b∧b<w'.heap.size) (D:∀ i u b lo g,t i=some (b,lo)->t u=some (b,g)->i=u)
  (z:(∃ cs,e=.bx cs)∨(∃ n es,e=.xo n es)->O.noRef d=true)
  (A:AY (a.put (some d) v) w' (A3 w0.heap.size F0 (GX G d t)) (GX G d t) ((d,e)::O) d e v) (E:e.WF) :
  AZ F0 w0 ((d,e)::O) (a.put (some d) v) w' (GX G d t):=by
 have J:=Lq (F0:=F0) (w0:=w0) (G:=G) y d t (fun i b lo h=>(B i b lo h).1);refine ⟨?_,?_,h.below.go y,by rw [LS]; exact h.defers,?_,?_,?_⟩
 ·intro s i s' u b lo g j r;by_cases k:s=d <;> by_cases m:s'=d
  ·subst k; subst m;rw [CB] at j r;exact ⟨rfl,D i u b lo g j r⟩
  ·subst k;rw [CB] at j;rw [B1 _ _ _ _ m] at r;have:=(B i b lo j).1; have:=(h.lt s' u b g r).1; omega
  ·subst m;rw [CB] at r;rw [B1 _ _ _ _ k] at j;have:=(B u b g r).1; have:=(h.lt s i b lo j).1; omega
  ·rw [B1 _ _ _ _ k] at j;rw [B1 _ _ _ _ m] at r;exact h.uniq s i s' u b lo g j r
 ·intro s i b lo j;by_cases k:s=d
  ·subst k;rw [CB] at j;have:=B i b lo j;exact ⟨this.2,.inl (Nat.le_trans h.below.size this.1)⟩
  ·rw [B1 _ _ _ _ k] at j;have:=h.lt s i b lo j;exact ⟨Nat.lt_of_lt_of_le this.1 y.size,this.2⟩
 ·intro s k;rw [FW] at k;rw [AD.get_cons,d2 (by omega)];exact h.dom s k
 ·intro s k;rw [FW] at k;rw [AD.get_cons];by_cases o:d=s
  ·subst o;rw [d1 rfl,Ia _ _ _ L];exact A
  ·rw [d2 o,BJ _ _ _ _ o];refine AY.kept J (fun i=>by rw [B1 _ _ _ _ (fun e=>o e.symm)]) (fun i b lo M=>y.block b (h.lt s i b lo M).1) (fun q H x ⟨cs,l⟩=>?_) (fun q i x ⟨p,C⟩=>?_) (h.slots s k)
   ·rw [AD.get_cons] at l;by_cases f:d=q
    ·subst f;rw [d1 rfl] at l;exact absurd x (AD.noRef_spec d O (z (.inl ⟨cs,l⟩)) s H)
    ·rw [d2 f] at l;exact ⟨⟨cs,l⟩,BJ _ _ _ _ f⟩
   ·by_cases f:d=q
    ·subst f;have K:=AD.noRef_x d O (z (AD.xat_same C)) s;rcases x with x | ⟨c,x⟩
     ·exact absurd x (K.1 i)
     ·exact absurd x (K.2 i c)
    ·rw [AD.xat_cons f] at C;exact ⟨⟨p,C⟩,h.xv ⟨p,C⟩ (BJ _ _ _ _ f) (fun b I=>y.block b (h.lt _ _ _ _ I).1)⟩
 ·intro s;rw [AD.get_cons];split
  ·exact E
  ·exact h.wf s
theorem AZ.tv {w':World} (h:AZ F0 w0 O a w G) (e:Below w.heap.size w w') (d:Nat) (f:d<a.tmps.size) (t:TV) (v:Value)
  (b:A7 w' (A3 w0.heap.size F0 (GX G d fun _=>none)) t v) (c:t.WF) :
  DI F0 w0 ((d,.tv t)::O) (a.put (some d) v) w':=
 ⟨_,h.quiet e d f (.tv t) v (fun _=>none) (by simp) (by simp) (by simp) b c⟩
theorem AZ.tv_same (h:AZ F0 w0 O a w G) (d:Nat) (e:d<a.tmps.size) (t:TV) (v:Value)
  (b:A7 w (A3 w0.heap.size F0 G) t v) (c:t.WF) :
  DI F0 w0 ((d,.tv t)::O) (a.put (some d) v) w:=
 h.tv (Below.refl _ _) d e t v (DG (Lq (Below.refl _ _) d _ (by simp)) t v b) c
theorem AZ.ow {w':World} (h:AZ F0 w0 O a w G) (j:Below w.heap.size w w') (d:Nat) (k:d<a.tmps.size) (t:TV) (v:Value) (z:Option (Nat × Nat))
  (l:∀ b lo,z=some (b,lo)->w.heap.size<=b∧b<w'.heap.size)
  (c:C1 w' (A3 w0.heap.size F0 (GX G d fun i=>if i=none then z else none)) z t v) (e:t.WF) :
  DI F0 w0 ((d,.ow t)::O) (a.put (some d) v) w':=by
 refine ⟨_,h.quiet j d k (.ow t) v (fun i=>if i=none then z else none) (fun i b lo hi=>?_) (fun i n b lo m f g=>?_) (by simp) ?_ e⟩
 ·split at hi
  ·exact l b lo hi
  ·cases hi
 ·split at f
  ·split at g
   ·simp_all
   ·cases g
  ·cases f
 ·simp only [AY,CB,if_true];exact c
end
section reads
variable {w:World} {F:Nat->Nat->Prop}
theorem SV (n:Nat):∀ (es:QQ) (b o:Nat),(∀ e∈es,e.cells.length=n)->EN w F (es.flatMap TV.cells) b o->IN w F n es b o
 | [],_,_,_,_=>trivial
 | e::es,b,o,d,h=>by
  rw [Oa];have c:e.cells.length=n:=d e (by simp);rw [List.flatMap_cons] at h;refine ⟨by have:=Xx h e.cells.length; simpa using this,c,SV n es b (o+n) (fun x f=>d x (by simp [f])) ?_⟩;have:=Nz h e.cells.length;rw [c] at this;simpa [c] using this
theorem Nr (n:Nat):∀ (es:QQ),(∀ e∈es,e.cells.length=n)->(es.flatMap TV.cells).length=es.length*n
 | [],_=>by simp
 | e::es,b=>by
  rw [List.flatMap_cons,d4,Nr n es (fun x c=>b x (by simp [c])),b e (by simp),d6,Nat.add_mul,Nat.one_mul,Nat.add_comm]
theorem Pm {c:QQ} {xs:List Value} {b o:Nat} (h:AS w F c xs) (f:∀ x∈xs,x.oneCell'=true) (e:∀ (i:Nat) (x:Value),xs[i]?=some x->w.cell? ⟨b,o+i,none⟩=some x∧¬ F b (o+i)):EN w F c b o:=by
 rw [GQ];rw [CP] at h;intro i t hi;have g:i<c.length:=by
  rcases Nat.lt_or_ge i c.length with h | h
  ·exact h
  ·rw [List.getElem?_eq_none h] at hi; cases hi
 have d:xs[i]?=some xs[i]:=List.getElem?_eq_getElem (by omega);exact ⟨xs[i],(e i _ d).1,(e i _ d).2,f _ (List.getElem_mem _),h.2 i t _ hi d⟩
theorem IB.cell {size:Nat} {v:Value} {n:Nat} {xs:List Value} {z:Option (Nat × Nat)} {g cap:Nat} (h:IB w size v n xs z) (hv:v=.slice (some ⟨g,0,none⟩) n cap):∀ (j:Nat) (u:Value),xs[j]?=some u->w.cell? ⟨g,j,none⟩=some u:=by
 intro j u c;rcases h.2 with ⟨rfl,_⟩ | ⟨i,f,d,e,rfl,k,_,_,_,b,_⟩
 ·cases hv
 ·simp only [Value.slice.injEq,zzY,Addr.mk.injEq] at hv;obtain ⟨⟨rfl,_⟩,_⟩:=hv;rw [cell_of_row w i j d e (0,0) k];rw [←b,List.getElem?_take] at c;split at c
  ·simpa using c
  ·cases c
theorem C1.rep {z:Option (Nat × Nat)} {t:TV} {v:Value} (h:C1 w F z t v) (q:∀ b lo o,z=some (b,lo)->o<lo->¬ F b o):A7 w F t v:=by
 cases t <;> simp only [C1] at h;rename_i n es;obtain ⟨xs,f,r,s,u⟩:=h;simp only [A7];rcases f.2 with ⟨rfl,y,p⟩ | ⟨g,cap,A,e,rfl,E,j,B,C,k,p⟩
 ·have:es=[]:=List.eq_nil_of_length_eq_zero y;subst this;exact ⟨none,0,rfl,d3 _,fun _=>rfl,by simp⟩
 ·refine ⟨some ⟨g,0,none⟩,cap,rfl,j,by simp,fun D c=>?_⟩;simp only [zzY] at c;subst c;refine ⟨.inr rfl,SV n es g 0 s (Pm r u fun i x d=>?_)⟩;rw [Nat.zero_add];refine ⟨f.cell rfl i x d,q g _ i p ?_⟩;rcases Nat.lt_or_ge i xs.length with l | m
  ·rwa [f.1] at l
  ·rw [List.getElem?_eq_none m] at d; cases d
theorem JI.rep {z:Option (Nat × Nat)} {t:TV} {v:Value} (h:JI w F z t v) (c:∀ b lo o,z=some (b,lo)->o<lo->¬ F b o):A7 w F t v:=by
 cases t <;> first | exact C1.rep h c | skip
 obtain ⟨xs,⟨i,d,_⟩,_⟩:=h;simp only [A7];rcases d.2 with ⟨rfl,_⟩ | ⟨g,cap,f,e,rfl,_⟩ <;> rfl
end reads
end Go.Sf
