/- Steps that leave what was there. -/
import Derived.Test.YtlbmpkmkmkgniaaGreatDoorSfInv
namespace Go.Sf
open Go.RowKit (Below)
theorem AC.noRef_ref (d:Nat):∀ (env:AC),env.noRef d=true->∀ s,(env.get s).ref≠some d
 | [],_,s=>by simp [AC.get,EV.ref]
 | (k,e)::r,hn,s=>by
  simp only [AC.noRef,zzZ] at hn
  rw [AC.get_cons]
  split
  ·intro h
   have:=hn.1
   simp [EV.noR,h] at this
  ·exact AC.noRef_ref d r hn.2 s
theorem AC.noRef_x (d:Nat) (env:AC) (h:env.noRef d=true) (s:Nat):(∀ i,env.get s≠.la d i)∧∀ i c,env.get s≠.lp d i c:=
 ⟨fun i e=>AC.noRef_ref d env h s (by rw [e]; rfl),fun i c e=>AC.noRef_ref d env h s (by rw [e]; rfl)⟩
theorem AC.noRef_spec (d:Nat) (env:AC) (h:env.noRef d=true) (s off:Nat):env.get s≠.bp d off:=
 fun e=>AC.noRef_ref d env h s (by rw [e]; rfl)
theorem AC.xat_same {env:AC} {d:Nat} {e:EV} {i:Option Nat} {p:Nat × List TV} (h:AC.xat ((d,e)::env) d i=some p):(∃ cs,e=.bx cs)∨(∃ n es,e=.xo n es):=by
 obtain ⟨n,es⟩:=p
 cases i with
 | none=>have:=AC.xat_none h; rw [AC.get_cons,if_pos rfl] at this; exact .inr ⟨n,es,this⟩
 | some k=>obtain ⟨cs,h1,_⟩:=AC.xat_some h; rw [AC.get_cons,if_pos rfl] at h1; exact .inl ⟨cs,h1⟩
theorem AC.xat_drop {env:AC} {d q:Nat} {e:EV} {i:Option Nat} {p:Nat × List TV} (h1:∀ cs,e≠.bx cs) (h2:∀ n es,e≠.xo n es) (h:AC.xat ((d,e)::env) q i=some p):d≠q∧env.xat q i=some p:=by
 by_cases hdq:d=q
 ·subst hdq
  rcases AC.xat_same h with ⟨cs,hc⟩ | ⟨n,es,hc⟩
  ·exact absurd hc (h1 cs)
  ·exact absurd hc (h2 n es)
 ·exact ⟨hdq,by rw [←h]; exact (AC.xat_of (by rw [AC.get_cons,if_neg hdq])).symm⟩
theorem AC.xat_cons {env:AC} {d q:Nat} {e:EV} {i:Option Nat} (h:d≠q):AC.xat ((d,e)::env) q i=env.xat q i:=
 AC.xat_of (by rw [AC.get_cons,if_neg h])
theorem AC.noX_all {s k:Nat}:∀ {env:AC},env.noX s none=true->env.noX s (some k)=true
 | [],_=>rfl
 | (q,e)::r,hn=>by
  simp only [AC.noX,zzZ] at hn ⊢
  refine ⟨?_,AC.noX_all hn.2⟩
  have h:=hn.1
  cases e <;> try rfl
  ·rename_i q i
   cases i with
   | none=>rfl
   | some i=>simp only [EV.noC,Bool.or_false] at h; simp [EV.noC,h]
  ·rename_i q i c
   cases i with
   | none=>rfl
   | some i=>simp only [EV.noC,Bool.or_false] at h; simp [EV.noC,h]
theorem AC.noX_ref {s:Nat}:∀ {env:AC},env.noRef s=true->env.noX s none=true
 | [],_=>rfl
 | (q,e)::r,hn=>by
  simp only [AC.noRef,AC.noX,zzZ] at hn ⊢
  refine ⟨?_,AC.noX_ref hn.2⟩
  have h:=hn.1
  cases e <;> try rfl
  ·rename_i q i
   cases i with
   | none=>rfl
   | some i=>simpa [EV.noR,EV.ref,EV.noC] using h
  ·rename_i q i c
   cases i with
   | none=>rfl
   | some i=>simpa [EV.noR,EV.ref,EV.noC] using h
theorem AC.noX_spec {s:Nat} {k:Option Nat}:∀ {env:AC},env.noX s k=true->∀ p j,(k=none∨k=some j)->env.get p≠.la s (some j)∧∀ c,env.get p≠.lp s (some j) c
 | [],_,p,j,_=>by simp [AC.get]
 | (q,e)::r,hn,p,j,hk=>by
  simp only [AC.noX,zzZ] at hn
  have ih:=AC.noX_spec hn.2 p j hk
  rw [AC.get_cons]
  split
  ·have h1:=hn.1
   rcases hk with rfl | rfl
   ·exact ⟨fun h=>by rw [h] at h1; simp [EV.noC] at h1,fun c h=>by rw [h] at h1; simp [EV.noC] at h1⟩
   ·exact ⟨fun h=>by rw [h] at h1; simp [EV.noC] at h1,fun c h=>by rw [h] at h1; simp [EV.noC] at h1⟩
  ·exact ih
def F3 (G:DE) (d:Nat) (zd:Option Nat->Option (Nat × Nat)):DE:=fun s=>if s=d then zd else G s
theorem B0 (G:DE) (d:Nat) (zd:Option Nat->Option (Nat × Nat)):F3 G d zd d=zd:=by simp [F3]
theorem BR (G:DE) (d s:Nat) (zd:Option Nat->Option (Nat × Nat)) (h:s≠d):F3 G d zd s=G s:=by simp [F3,h]
section
variable {F0:Nat->Nat->Prop} {w0:W0} {env:AC} {a:Act} {w:World} {G:DE}
theorem KS {w':World} (hb:Below w.heap.size w w') (d:Nat) (zd:Option Nat->Option (Nat × Nat)) (hz:∀ i b lo,zd i=some (b,lo)->w.heap.size<=b) :
  DK w w' (AY w0.heap.size F0 G) (AY w0.heap.size F0 (F3 G d zd)):=by
 intro b o v hc hf
 have hlt:b<w.heap.size:=World.block_lt_of_cell? w ⟨b,o,none⟩ hc
 refine ⟨by rw [hb.cell (p:=⟨b,o,none⟩) hlt]; exact hc,fun hf'=>hf ?_⟩
 rcases hf' with h | ⟨s,i,lo,h1,h2⟩
 ·exact .inl h
 ·by_cases hs:s=d
  ·subst hs
   rw [B0] at h1
   have:=hz i b lo h1
   omega
  ·rw [BR _ _ _ _ hs] at h1
   exact .inr ⟨s,i,lo,h1,h2⟩
theorem AT.quiet {w':World} (h:AT F0 w0 env a w G) (hb:Below w.heap.size w w') (d:Nat) (hd:d<a.tmps.size) (e:EV) (v:Value)
  (zd:Option Nat->Option (Nat × Nat)) (hz:∀ i b lo,zd i=some (b,lo)->w.heap.size<=b∧b<w'.heap.size) (hzu:∀ i i' b lo lo',zd i=some (b,lo)->zd i'=some (b,lo')->i=i')
  (hno:(∃ cs,e=.bx cs)∨(∃ n es,e=.xo n es)->env.noRef d=true)
  (hrep:AS (a.put (some d) v) w' (AY w0.heap.size F0 (F3 G d zd)) (F3 G d zd) ((d,e)::env) d e v) (hwf:e.WF) :
  AT F0 w0 ((d,e)::env) (a.put (some d) v) w' (F3 G d zd):=by
 have hag:=KS (F0:=F0) (w0:=w0) (G:=G) hb d zd (fun i b lo h=>(hz i b lo h).1)
 refine ⟨?_,?_,h.below.go hb,by rw [KA]; exact h.defers,?_,?_,?_⟩
 ·intro s i s' i' b lo lo' h1 h2
  by_cases hs:s=d <;> by_cases hs':s'=d
  ·subst hs; subst hs'
   rw [B0] at h1 h2
   exact ⟨rfl,hzu i i' b lo lo' h1 h2⟩
  ·subst hs
   rw [B0] at h1
   rw [BR _ _ _ _ hs'] at h2
   have:=(hz i b lo h1).1; have:=(h.lt s' i' b lo' h2).1; omega
  ·subst hs'
   rw [B0] at h2
   rw [BR _ _ _ _ hs] at h1
   have:=(hz i' b lo' h2).1; have:=(h.lt s i b lo h1).1; omega
  ·rw [BR _ _ _ _ hs] at h1
   rw [BR _ _ _ _ hs'] at h2
   exact h.uniq s i s' i' b lo lo' h1 h2
 ·intro s i b lo h1
  by_cases hs:s=d
  ·subst hs
   rw [B0] at h1
   have:=hz i b lo h1
   exact ⟨this.2,.inl (Nat.le_trans h.below.size this.1)⟩
  ·rw [BR _ _ _ _ hs] at h1
   have:=h.lt s i b lo h1
   exact ⟨Nat.lt_of_lt_of_le this.1 hb.size,this.2⟩
 ·intro s hs
  rw [E9] at hs
  rw [AC.get_cons,if_neg (by omega)]
  exact h.dom s hs
 ·intro s hs
  rw [E9] at hs
  rw [AC.get_cons]
  by_cases hsd:d=s
  ·subst hsd
   rw [if_pos rfl,Hf _ _ _ hd]
   exact hrep
  ·rw [if_neg hsd,BD _ _ _ _ hsd]
   refine AS.kept hag (fun i=>by rw [BR _ _ _ _ (fun e=>hsd e.symm)]) (fun i b lo hG=>hb.block b (h.lt s i b lo hG).1) (fun q off hq ⟨cs,hcs⟩=>?_) (fun q i hq ⟨p,hp⟩=>?_) (h.slots s hs)
   ·rw [AC.get_cons] at hcs
    by_cases hdq:d=q
    ·subst hdq
     rw [if_pos rfl] at hcs
     exact absurd hq (AC.noRef_spec d env (hno (.inl ⟨cs,hcs⟩)) s off)
    ·rw [if_neg hdq] at hcs
     exact ⟨⟨cs,hcs⟩,BD _ _ _ _ hdq⟩
   ·by_cases hdq:d=q
    ·subst hdq
     have hx:=AC.noRef_x d env (hno (AC.xat_same hp)) s
     rcases hq with hq | ⟨c,hq⟩
     ·exact absurd hq (hx.1 i)
     ·exact absurd hq (hx.2 i c)
    ·rw [AC.xat_cons hdq] at hp
     exact ⟨⟨p,hp⟩,h.xv ⟨p,hp⟩ (BD _ _ _ _ hdq) (fun b hb'=>hb.block b (h.lt _ _ _ _ hb').1)⟩
 ·intro s
  rw [AC.get_cons]
  split
  ·exact hwf
  ·exact h.wf s
theorem AT.tv {w':World} (h:AT F0 w0 env a w G) (hb:Below w.heap.size w w') (d:Nat) (hd:d<a.tmps.size) (t:TV) (v:Value)
  (hrep:A1 w' (AY w0.heap.size F0 (F3 G d fun _=>none)) t v) (hwf:t.WF) :
  C2 F0 w0 ((d,.tv t)::env) (a.put (some d) v) w':=
 ⟨_,h.quiet hb d hd (.tv t) v (fun _=>none) (by simp) (by simp) (by simp) hrep hwf⟩
theorem AT.tv_same (h:AT F0 w0 env a w G) (d:Nat) (hd:d<a.tmps.size) (t:TV) (v:Value)
  (hrep:A1 w (AY w0.heap.size F0 G) t v) (hwf:t.WF) :
  C2 F0 w0 ((d,.tv t)::env) (a.put (some d) v) w:=
 h.tv (Below.refl _ _) d hd t v (C1 (KS (Below.refl _ _) d _ (by simp)) t v hrep) hwf
theorem AT.ow {w':World} (h:AT F0 w0 env a w G) (hb:Below w.heap.size w w') (d:Nat) (hd:d<a.tmps.size) (t:TV) (v:Value) (z:Option (Nat × Nat))
  (hz:∀ b lo,z=some (b,lo)->w.heap.size<=b∧b<w'.heap.size)
  (hrep:CQ w' (AY w0.heap.size F0 (F3 G d fun i=>if i=none then z else none)) z t v) (hwf:t.WF) :
  C2 F0 w0 ((d,.ow t)::env) (a.put (some d) v) w':=by
 refine ⟨_,h.quiet hb d hd (.ow t) v (fun i=>if i=none then z else none) (fun i b lo hi=>?_) (fun i i' b lo lo' h1 h2=>?_) (by simp) ?_ hwf⟩
 ·split at hi
  ·exact hz b lo hi
  ·cases hi
 ·split at h1
  ·split at h2
   ·simp_all
   ·cases h2
  ·cases h1
 ·simp only [AS,B0,if_true]
  exact hrep
end
section reads
variable {w:World} {F:Nat->Nat->Prop}
theorem QI (n:Nat):∀ (es:List TV) (b o:Nat),(∀ e∈es,e.cells.length=n)->D7 w F (es.flatMap TV.cells) b o->HU w F n es b o
 | [],_,_,_,_=>trivial
 | e::es,b,o,hn,h=>by
  rw [Ms]
  have he:e.cells.length=n:=hn e (by simp)
  rw [List.flatMap_cons] at h
  refine ⟨by have:=VY h e.cells.length; simpa using this,he,QI n es b (o+n) (fun x hx=>hn x (by simp [hx])) ?_⟩
  have:=MH h e.cells.length
  rw [he] at this
  simpa [he] using this
theorem MB (n:Nat):∀ (es:List TV),(∀ e∈es,e.cells.length=n)->(es.flatMap TV.cells).length=es.length*n
 | [],_=>by simp
 | e::es,hn=>by
  rw [List.flatMap_cons,List.length_append,MB n es (fun x hx=>hn x (by simp [hx])),hn e (by simp),List.length_cons,Nat.add_mul,Nat.one_mul,Nat.add_comm]
theorem Nt {ts:List TV} {xs:List Value} {b o:Nat} (h:AQ w F ts xs) (h1:∀ x∈xs,x.oneCell'=true) (hc:∀ (i:Nat) (x:Value),xs[i]?=some x->w.cell? ⟨b,o+i,none⟩=some x∧¬ F b (o+i)):D7 w F ts b o:=by
 rw [FW]
 rw [CD] at h
 intro i t hi
 have hlt:i<ts.length:=by
  rcases Nat.lt_or_ge i ts.length with h | h
  ·exact h
  ·rw [List.getElem?_eq_none h] at hi; cases hi
 have hx:xs[i]?=some xs[i]:=List.getElem?_eq_getElem (by omega)
 exact ⟨xs[i],(hc i _ hx).1,(hc i _ hx).2,h1 _ (List.getElem_mem _),h.2 i t _ hi hx⟩
theorem HF.cell {size:Nat} {v:Value} {n:Nat} {xs:List Value} {z:Option (Nat × Nat)} {g cap:Nat} (h:HF w size v n xs z) (hv:v=.slice (some ⟨g,0,none⟩) n cap):∀ (j:Nat) (u:Value),xs[j]?=some u->w.cell? ⟨g,j,none⟩=some u:=by
 intro j u hu
 rcases h.2 with ⟨rfl,_⟩ | ⟨g',cap',cur,e,rfl,hg,_,_,_,htake,_⟩
 ·cases hv
 ·simp only [Value.slice.injEq,zzY,Addr.mk.injEq] at hv
  obtain ⟨⟨rfl,_⟩,_⟩:=hv
  rw [cell_of_row w g' j cur e (0,0) hg]
  rw [←htake,List.getElem?_take] at hu
  split at hu
  ·simpa using hu
  ·cases hu
theorem CQ.rep {z:Option (Nat × Nat)} {t:TV} {v:Value} (h:CQ w F z t v) (hF:∀ b lo o,z=some (b,lo)->o<lo->¬ F b o):A1 w F t v:=by
 cases t <;> simp only [CQ] at h
 rename_i n es
 obtain ⟨xs,h1,h2,h3,h4⟩:=h
 simp only [A1]
 rcases h1.2 with ⟨rfl,hn,hz⟩ | ⟨g,cap,cur,e,rfl,hg,hnc,hcm,hcs,htake,hz⟩
 ·have:es=[]:=List.eq_nil_of_length_eq_zero hn
  subst this
  exact ⟨none,0,rfl,Nat.le_refl _,fun _=>rfl,by simp⟩
 ·refine ⟨some ⟨g,0,none⟩,cap,rfl,hnc,by simp,fun ad had=>?_⟩
  simp only [zzY] at had
  subst had
  refine ⟨.inr rfl,QI n es g 0 h3 (Nt h2 h4 fun i x hx=>?_)⟩
  rw [Nat.zero_add]
  refine ⟨h1.cell rfl i x hx,hF g _ i hz ?_⟩
  rcases Nat.lt_or_ge i xs.length with hlt | hge
  ·rwa [h1.1] at hlt
  ·rw [List.getElem?_eq_none hge] at hx; cases hx
theorem IE.rep {z:Option (Nat × Nat)} {t:TV} {v:Value} (h:IE w F z t v) (hF:∀ b lo o,z=some (b,lo)->o<lo->¬ F b o):A1 w F t v:=by
 cases t <;> first | exact CQ.rep h hF | skip
 obtain ⟨xs,⟨z0,h1,_⟩,_⟩:=h
 simp only [A1]
 rcases h1.2 with ⟨rfl,_⟩ | ⟨g,cap,cur,e,rfl,_⟩ <;> rfl
end reads
end Go.Sf
