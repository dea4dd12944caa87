/- Steps that leave what was there. -/
import Derived.Test.YtmaobfbhdkafkaaGreatSfInv
namespace Go.Sf
open Go.RowKit (Below)
theorem Env.noRef_ref (d:Nat):∀ (env:Env),env.noRef d=true->∀ s,(env.get s).ref≠some d
 | [],_,s=>by simp [Env.get,EV.ref]
 | (k,e)::r,hn,s=>by
  simp only [Env.noRef,Bool.and_eq_true] at hn
  rw [Env.get_cons]
  split
  ·intro h
   have:=hn.1
   simp [EV.noR,h] at this
  ·exact Env.noRef_ref d r hn.2 s
theorem Env.noRef_x (d:Nat) (env:Env) (h:env.noRef d=true) (s:Nat):(∀ i,env.get s≠.la d i)∧∀ i c,env.get s≠.lp d i c:=
 ⟨fun i e=>Env.noRef_ref d env h s (by rw [e]; rfl),fun i c e=>Env.noRef_ref d env h s (by rw [e]; rfl)⟩
theorem Env.noRef_spec (d:Nat) (env:Env) (h:env.noRef d=true) (s off:Nat):env.get s≠.bp d off:=
 fun e=>Env.noRef_ref d env h s (by rw [e]; rfl)
theorem Env.xat_same {env:Env} {d:Nat} {e:EV} {i:Option Nat} {p:Nat × List TV} (h:Env.xat ((d,e)::env) d i=some p):(∃ cs,e=.bx cs)∨(∃ n es,e=.xo n es):=by
 obtain ⟨n,es⟩:=p
 cases i with
 | none=>have:=Env.xat_none h; rw [Env.get_cons,if_pos rfl] at this; exact .inr ⟨n,es,this⟩
 | some k=>obtain ⟨cs,h1,_⟩:=Env.xat_some h; rw [Env.get_cons,if_pos rfl] at h1; exact .inl ⟨cs,h1⟩
theorem Env.xat_drop {env:Env} {d q:Nat} {e:EV} {i:Option Nat} {p:Nat × List TV} (h1:∀ cs,e≠.bx cs) (h2:∀ n es,e≠.xo n es) (h:Env.xat ((d,e)::env) q i=some p):d≠q∧env.xat q i=some p:=by
 by_cases hdq:d=q
 ·subst hdq
  rcases Env.xat_same h with ⟨cs,hc⟩ | ⟨n,es,hc⟩
  ·exact absurd hc (h1 cs)
  ·exact absurd hc (h2 n es)
 ·exact ⟨hdq,by rw [←h]; exact (Env.xat_of (by rw [Env.get_cons,if_neg hdq])).symm⟩
theorem Env.xat_cons {env:Env} {d q:Nat} {e:EV} {i:Option Nat} (h:d≠q):Env.xat ((d,e)::env) q i=env.xat q i:=
 Env.xat_of (by rw [Env.get_cons,if_neg h])
theorem Env.noX_spec {s:Nat} {k:Option Nat}:∀ {env:Env},env.noX s k=true->∀ p j,(k=none∨k=some j)->env.get p≠.la s (some j)∧∀ c,env.get p≠.lp s (some j) c
 | [],_,p,j,_=>by simp [Env.get]
 | (q,e)::r,hn,p,j,hk=>by
  simp only [Env.noX,Bool.and_eq_true] at hn
  have ih:=Env.noX_spec hn.2 p j hk
  rw [Env.get_cons]
  split
  ·have h1:=hn.1
   rcases hk with rfl | rfl
   ·exact ⟨fun h=>by rw [h] at h1; simp [EV.noC] at h1,fun c h=>by rw [h] at h1; simp [EV.noC] at h1⟩
   ·exact ⟨fun h=>by rw [h] at h1; simp [EV.noC] at h1,fun c h=>by rw [h] at h1; simp [EV.noC] at h1⟩
  ·exact ih
def zput (G:Zones) (d:Nat) (zd:Option Nat->Option (Nat × Nat)):Zones:=fun s=>if s=d then zd else G s
theorem zput_same (G:Zones) (d:Nat) (zd:Option Nat->Option (Nat × Nat)):zput G d zd d=zd:=by simp [zput]
theorem zput_other (G:Zones) (d s:Nat) (zd:Option Nat->Option (Nat × Nat)) (h:s≠d):zput G d zd s=G s:=by simp [zput,h]
section
variable {F0:Nat->Nat->Prop} {w0:W0} {env:Env} {a:Act} {w:World} {G:Zones}
theorem agree_quiet {w':World} (hb:Below w.heap.size w w') (d:Nat) (zd:Option Nat->Option (Nat × Nat)) (hz:∀ i b lo,zd i=some (b,lo)->w.heap.size<=b) :
  Agree w w' (Forb w0.heap.size F0 G) (Forb w0.heap.size F0 (zput G d zd)):=by
 intro b o v hc hf
 have hlt:b<w.heap.size:=World.block_lt_of_cell? w ⟨b,o,none⟩ hc
 refine ⟨by rw [hb.cell (p:=⟨b,o,none⟩) hlt]; exact hc,fun hf'=>hf ?_⟩
 rcases hf' with h | ⟨s,i,lo,h1,h2⟩
 ·exact .inl h
 ·by_cases hs:s=d
  ·subst hs
   rw [zput_same] at h1
   have:=hz i b lo h1
   omega
  ·rw [zput_other _ _ _ _ hs] at h1
   exact .inr ⟨s,i,lo,h1,h2⟩
theorem InvG.quiet {w':World} (h:InvG F0 w0 env a w G) (hb:Below w.heap.size w w') (d:Nat) (hd:d<a.tmps.size) (e:EV) (v:Value)
  (zd:Option Nat->Option (Nat × Nat)) (hz:∀ i b lo,zd i=some (b,lo)->w.heap.size<=b∧b<w'.heap.size) (hzu:∀ i i' b lo lo',zd i=some (b,lo)->zd i'=some (b,lo')->i=i')
  (hno:(∃ cs,e=.bx cs)∨(∃ n es,e=.xo n es)->env.noRef d=true)
  (hrep:EvRep (a.put (some d) v) w' (Forb w0.heap.size F0 (zput G d zd)) (zput G d zd) ((d,e)::env) d e v) (hwf:e.WF) :
  InvG F0 w0 ((d,e)::env) (a.put (some d) v) w' (zput G d zd):=by
 have hag:=agree_quiet (F0:=F0) (w0:=w0) (G:=G) hb d zd (fun i b lo h=>(hz i b lo h).1)
 refine ⟨?_,?_,h.below.go hb,by rw [defers_put]; exact h.defers,?_,?_,?_⟩
 ·intro s i s' i' b lo lo' h1 h2
  by_cases hs:s=d <;> by_cases hs':s'=d
  ·subst hs; subst hs'
   rw [zput_same] at h1 h2
   exact ⟨rfl,hzu i i' b lo lo' h1 h2⟩
  ·subst hs
   rw [zput_same] at h1
   rw [zput_other _ _ _ _ hs'] at h2
   have:=(hz i b lo h1).1; have:=(h.lt s' i' b lo' h2).1; omega
  ·subst hs'
   rw [zput_same] at h2
   rw [zput_other _ _ _ _ hs] at h1
   have:=(hz i' b lo' h2).1; have:=(h.lt s i b lo h1).1; omega
  ·rw [zput_other _ _ _ _ hs] at h1
   rw [zput_other _ _ _ _ hs'] at h2
   exact h.uniq s i s' i' b lo lo' h1 h2
 ·intro s i b lo h1
  by_cases hs:s=d
  ·subst hs
   rw [zput_same] at h1
   have:=hz i b lo h1
   exact ⟨this.2,.inl (Nat.le_trans h.below.size this.1)⟩
  ·rw [zput_other _ _ _ _ hs] at h1
   have:=h.lt s i b lo h1
   exact ⟨Nat.lt_of_lt_of_le this.1 hb.size,this.2⟩
 ·intro s hs
  rw [size_put] at hs
  rw [Env.get_cons,if_neg (by omega)]
  exact h.dom s hs
 ·intro s hs
  rw [size_put] at hs
  rw [Env.get_cons]
  by_cases hsd:d=s
  ·subst hsd
   rw [if_pos rfl,slot_put_same _ _ _ hd]
   exact hrep
  ·rw [if_neg hsd,slot_put_other _ _ _ _ hsd]
   refine EvRep.kept hag (fun i=>by rw [zput_other _ _ _ _ (fun e=>hsd e.symm)]) (fun i b lo hG=>hb.block b (h.lt s i b lo hG).1) (fun q off hq ⟨cs,hcs⟩=>?_) (fun q i hq ⟨p,hp⟩=>?_) (h.slots s hs)
   ·rw [Env.get_cons] at hcs
    by_cases hdq:d=q
    ·subst hdq
     rw [if_pos rfl] at hcs
     exact absurd hq (Env.noRef_spec d env (hno (.inl ⟨cs,hcs⟩)) s off)
    ·rw [if_neg hdq] at hcs
     exact ⟨⟨cs,hcs⟩,slot_put_other _ _ _ _ hdq⟩
   ·by_cases hdq:d=q
    ·subst hdq
     have hx:=Env.noRef_x d env (hno (Env.xat_same hp)) s
     rcases hq with hq | ⟨c,hq⟩
     ·exact absurd hq (hx.1 i)
     ·exact absurd hq (hx.2 i c)
    ·rw [Env.xat_cons hdq] at hp
     exact ⟨⟨p,hp⟩,h.xv ⟨p,hp⟩ (slot_put_other _ _ _ _ hdq) (fun b hb'=>hb.block b (h.lt _ _ _ _ hb').1)⟩
 ·intro s
  rw [Env.get_cons]
  split
  ·exact hwf
  ·exact h.wf s
theorem InvG.tv {w':World} (h:InvG F0 w0 env a w G) (hb:Below w.heap.size w w') (d:Nat) (hd:d<a.tmps.size) (t:TV) (v:Value)
  (hrep:Rep w' (Forb w0.heap.size F0 (zput G d fun _=>none)) t v) (hwf:t.WF) :
  Inv F0 w0 ((d,.tv t)::env) (a.put (some d) v) w':=
 ⟨_,h.quiet hb d hd (.tv t) v (fun _=>none) (by simp) (by simp) (by simp) hrep hwf⟩
theorem InvG.tv_same (h:InvG F0 w0 env a w G) (d:Nat) (hd:d<a.tmps.size) (t:TV) (v:Value)
  (hrep:Rep w (Forb w0.heap.size F0 G) t v) (hwf:t.WF) :
  Inv F0 w0 ((d,.tv t)::env) (a.put (some d) v) w:=
 h.tv (Below.refl _ _) d hd t v (rep_mono (agree_quiet (Below.refl _ _) d _ (by simp)) t v hrep) hwf
theorem InvG.ow {w':World} (h:InvG F0 w0 env a w G) (hb:Below w.heap.size w w') (d:Nat) (hd:d<a.tmps.size) (t:TV) (v:Value) (z:Option (Nat × Nat))
  (hz:∀ b lo,z=some (b,lo)->w.heap.size<=b∧b<w'.heap.size)
  (hrep:OwnRep w' (Forb w0.heap.size F0 (zput G d fun i=>if i=none then z else none)) z t v) (hwf:t.WF) :
  Inv F0 w0 ((d,.ow t)::env) (a.put (some d) v) w':=by
 refine ⟨_,h.quiet hb d hd (.ow t) v (fun i=>if i=none then z else none) (fun i b lo hi=>?_) (fun i i' b lo lo' h1 h2=>?_) (by simp) ?_ hwf⟩
 ·split at hi
  ·exact hz b lo hi
  ·cases hi
 ·split at h1
  ·split at h2
   ·simp_all
   ·cases h2
  ·cases h1
 ·simp only [EvRep,zput_same,if_true]
  exact hrep
end
section reads
variable {w:World} {F:Nat->Nat->Prop}
theorem repAll_flat (n:Nat):∀ (es:List TV) (b o:Nat),(∀ e∈es,e.cells.length=n)->RepRow w F (es.flatMap TV.cells) b o->RepEs w F n es b o
 | [],_,_,_,_=>trivial
 | e::es,b,o,hn,h=>by
  rw [repEs_cons]
  have he:e.cells.length=n:=hn e (by simp)
  rw [List.flatMap_cons] at h
  refine ⟨by have:=repRow_take h e.cells.length; simpa using this,he,repAll_flat n es b (o+n) (fun x hx=>hn x (by simp [hx])) ?_⟩
  have:=repRow_drop h e.cells.length
  rw [he] at this
  simpa [he] using this
theorem length_flat (n:Nat):∀ (es:List TV),(∀ e∈es,e.cells.length=n)->(es.flatMap TV.cells).length=es.length*n
 | [],_=>by simp
 | e::es,hn=>by
  rw [List.flatMap_cons,List.length_append,length_flat n es (fun x hx=>hn x (by simp [hx])),hn e (by simp),List.length_cons,Nat.add_mul,Nat.one_mul,Nat.add_comm]
theorem repRow_of_cells {ts:List TV} {xs:List Value} {b o:Nat} (h:RepAll w F ts xs) (h1:∀ x∈xs,x.oneCell'=true) (hc:∀ (i:Nat) (x:Value),xs[i]?=some x->w.cell? ⟨b,o+i,none⟩=some x∧¬ F b (o+i)):RepRow w F ts b o:=by
 rw [repRow_iff]
 rw [repAll_iff] at h
 intro i t hi
 have hlt:i<ts.length:=by
  rcases Nat.lt_or_ge i ts.length with h | h
  ·exact h
  ·rw [List.getElem?_eq_none h] at hi; cases hi
 have hx:xs[i]?=some xs[i]:=List.getElem?_eq_getElem (by omega)
 exact ⟨xs[i],(hc i _ hx).1,(hc i _ hx).2,h1 _ (List.getElem_mem _),h.2 i t _ hi hx⟩
theorem OwnRow.cell {size:Nat} {v:Value} {n:Nat} {xs:List Value} {z:Option (Nat × Nat)} {g cap:Nat} (h:OwnRow w size v n xs z) (hv:v=.slice (some ⟨g,0,none⟩) n cap):∀ (j:Nat) (u:Value),xs[j]?=some u->w.cell? ⟨g,j,none⟩=some u:=by
 intro j u hu
 rcases h.2 with ⟨rfl,_⟩ | ⟨g',cap',cur,e,rfl,hg,_,_,_,htake,_⟩
 ·cases hv
 ·simp only [Value.slice.injEq,Option.some.injEq,Addr.mk.injEq] at hv
  obtain ⟨⟨rfl,_⟩,_⟩:=hv
  rw [cell_of_row w g' j cur e (0,0) hg]
  rw [←htake,List.getElem?_take] at hu
  split at hu
  ·simpa using hu
  ·cases hu
theorem OwnRep.rep {z:Option (Nat × Nat)} {t:TV} {v:Value} (h:OwnRep w F z t v) (hF:∀ b lo o,z=some (b,lo)->o<lo->¬ F b o):Rep w F t v:=by
 cases t <;> simp only [OwnRep] at h
 rename_i n es
 obtain ⟨xs,h1,h2,h3,h4⟩:=h
 simp only [Rep]
 rcases h1.2 with ⟨rfl,hn,hz⟩ | ⟨g,cap,cur,e,rfl,hg,hnc,hcm,hcs,htake,hz⟩
 ·have:es=[]:=List.eq_nil_of_length_eq_zero hn
  subst this
  exact ⟨none,0,rfl,Nat.le_refl _,fun _=>rfl,by simp⟩
 ·refine ⟨some ⟨g,0,none⟩,cap,rfl,hnc,by simp,fun ad had=>?_⟩
  simp only [Option.some.injEq] at had
  subst had
  refine ⟨.inr rfl,repAll_flat n es g 0 h3 (repRow_of_cells h2 h4 fun i x hx=>?_)⟩
  rw [Nat.zero_add]
  refine ⟨h1.cell rfl i x hx,hF g _ i hz ?_⟩
  rcases Nat.lt_or_ge i xs.length with hlt | hge
  ·rwa [h1.1] at hlt
  ·rw [List.getElem?_eq_none hge] at hx; cases hx
theorem OwnC.rep {z:Option (Nat × Nat)} {t:TV} {v:Value} (h:OwnC w F z t v) (hF:∀ b lo o,z=some (b,lo)->o<lo->¬ F b o):Rep w F t v:=by
 cases t <;> first | exact OwnRep.rep h hF | skip
 obtain ⟨xs,⟨z0,h1,_⟩,_⟩:=h
 simp only [Rep]
 rcases h1.2 with ⟨rfl,_⟩ | ⟨g,cap,cur,e,rfl,_⟩ <;> rfl
end reads
end Go.Sf
