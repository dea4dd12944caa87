/- Steps that leave what was there. -/
import Derived.Test.YtbedpmpjdnooiaaGreatSfInv
namespace Go.Sf
open Go.RowKit (Below)
theorem Env.noRef_x (d:Nat):∀ (env:Env),env.noRef d=true->∀ s,env.get s≠.la d∧∀ c,env.get s≠.lp d c
 | [],_,s=>by simp [Env.get]
 | (k,e)::r,hn,s=>by
  rw [Env.get_cons]
  split
  ·constructor
   ·rintro rfl; simp [Env.noRef] at hn
   ·rintro c rfl; simp [Env.noRef] at hn
  ·refine Env.noRef_x d r ?_ s
   cases e <;> simp_all [Env.noRef]
theorem Env.noRef_spec (d:Nat):∀ (env:Env),env.noRef d=true->∀ s off,env.get s≠.bp d off
 | [],_,s,off,h=>by simp [Env.get] at h
 | (k,e)::r,hn,s,off,h=>by
  rw [Env.get_cons] at h
  split at h
  ·subst h
   simp [Env.noRef] at hn
  ·refine Env.noRef_spec d r ?_ s off h
   cases e <;> simp_all [Env.noRef]
def zput (G:Zones) (d:Nat) (zd:Option Nat->Option (Nat × Nat)):Zones:=fun s=>if s=d then zd else G s
theorem zput_same (G:Zones) (d:Nat) (zd:Option Nat->Option (Nat × Nat)):zput G d zd d=zd:=by simp [zput]
theorem zput_other (G:Zones) (d s:Nat) (zd:Option Nat->Option (Nat × Nat)) (h:s≠d):zput G d zd s=G s:=by simp [zput,h]
section
variable {F0:Nat->Nat->Prop} {w0:World} {env:Env} {a:Act} {w:World} {G:Zones}
theorem agree_quiet {w':World} (hb:Below w.heap.size w w') (d:Nat) (zd:Option Nat->Option (Nat × Nat)) (hz:∀ i b lo,zd i=some (b,lo)->w.heap.size<=b) :
  Agree w w' (Forb w0.heap.size F0 G) (Forb w0.heap.size F0 (zput G d zd)):=by
 intro b o v hc hf
 have hlt:b<w.heap.size:=World.block_lt_of_cell? w ⟨b,o,none⟩ hc
 refine ⟨by rw [hb.cell (p:=⟨b,o,none⟩) hlt]; exact hc,fun hf'=>hf ?_⟩
 rcases hf' with h | ⟨s,i,lo,h1,h2⟩
 ·exact .inl h
 ·by_cases hs:s=d
  ·subst hs
   rw [zput_same] at h1
   have:=hz i b lo h1
   omega
  ·rw [zput_other _ _ _ _ hs] at h1
   exact .inr ⟨s,i,lo,h1,h2⟩
theorem InvG.quiet {w':World} (h:InvG F0 w0 env a w G) (hb:Below w.heap.size w w') (d:Nat) (hd:d<a.tmps.size) (e:EV) (v:Value)
  (zd:Option Nat->Option (Nat × Nat)) (hz:∀ i b lo,zd i=some (b,lo)->w.heap.size<=b∧b<w'.heap.size) (hzu:∀ i i' b lo lo',zd i=some (b,lo)->zd i'=some (b,lo')->i=i')
  (hno:(∃ cs,e=.bx cs)∨(∃ n es,e=.xo n es)->env.noRef d=true)
  (hrep:EvRep (a.put (some d) v) w' (Forb w0.heap.size F0 (zput G d zd)) (zput G d zd) ((d,e)::env) d e v) (hwf:e.WF) :
  InvG F0 w0 ((d,e)::env) (a.put (some d) v) w' (zput G d zd):=by
 have hag:=agree_quiet (F0:=F0) (w0:=w0) (G:=G) hb d zd (fun i b lo h=>(hz i b lo h).1)
 refine ⟨?_,?_,h.below.trans (hb.mono h.below.size),by rw [defers_put]; exact h.defers,?_,?_,?_⟩
 ·intro s i s' i' b lo lo' h1 h2
  by_cases hs:s=d <;> by_cases hs':s'=d
  ·subst hs; subst hs'
   rw [zput_same] at h1 h2
   exact ⟨rfl,hzu i i' b lo lo' h1 h2⟩
  ·subst hs
   rw [zput_same] at h1
   rw [zput_other _ _ _ _ hs'] at h2
   have:=(hz i b lo h1).1; have:=(h.lt s' i' b lo' h2).1; omega
  ·subst hs'
   rw [zput_same] at h2
   rw [zput_other _ _ _ _ hs] at h1
   have:=(hz i' b lo' h2).1; have:=(h.lt s i b lo h1).1; omega
  ·rw [zput_other _ _ _ _ hs] at h1
   rw [zput_other _ _ _ _ hs'] at h2
   exact h.uniq s i s' i' b lo lo' h1 h2
 ·intro s i b lo h1
  by_cases hs:s=d
  ·subst hs
   rw [zput_same] at h1
   have:=hz i b lo h1
   exact ⟨this.2,Nat.le_trans h.below.size this.1⟩
  ·rw [zput_other _ _ _ _ hs] at h1
   have:=h.lt s i b lo h1
   exact ⟨Nat.lt_of_lt_of_le this.1 hb.size,this.2⟩
 ·intro s hs
  rw [size_put] at hs
  rw [Env.get_cons,if_neg (by omega)]
  exact h.dom s hs
 ·intro s hs
  rw [size_put] at hs
  rw [Env.get_cons]
  by_cases hsd:d=s
  ·subst hsd
   rw [if_pos rfl,slot_put_same _ _ _ hd]
   exact hrep
  ·rw [if_neg hsd,slot_put_other _ _ _ _ hsd]
   refine EvRep.kept hag (fun i=>by rw [zput_other _ _ _ _ (fun e=>hsd e.symm)]) (fun i b lo hG=>hb.block b (h.lt s i b lo hG).1) (fun q off hq ⟨cs,hcs⟩=>?_) (fun q n es hq hcs=>?_) (h.slots s hs)
   ·rw [Env.get_cons] at hcs
    by_cases hdq:d=q
    ·subst hdq
     rw [if_pos rfl] at hcs
     exact absurd hq (Env.noRef_spec d env (hno (.inl ⟨cs,hcs⟩)) s off)
    ·rw [if_neg hdq] at hcs
     exact ⟨⟨cs,hcs⟩,slot_put_other _ _ _ _ hdq⟩
   ·rw [Env.get_cons] at hcs
    by_cases hdq:d=q
    ·subst hdq
     rw [if_pos rfl] at hcs
     have hx:=Env.noRef_x d env (hno (.inr ⟨n,es,hcs⟩)) s
     rcases hq with hq | ⟨c,hq⟩
     ·exact absurd hq hx.1
     ·exact absurd hq (hx.2 c)
    ·rw [if_neg hdq] at hcs
     exact ⟨⟨n,es,hcs⟩,slot_put_other _ _ _ _ hdq⟩
 ·intro s
  rw [Env.get_cons]
  split
  ·exact hwf
  ·exact h.wf s
theorem InvG.tv {w':World} (h:InvG F0 w0 env a w G) (hb:Below w.heap.size w w') (d:Nat) (hd:d<a.tmps.size) (t:TV) (v:Value)
  (hrep:Rep w' (Forb w0.heap.size F0 (zput G d fun _=>none)) t v) (hwf:t.WF) :
  Inv F0 w0 ((d,.tv t)::env) (a.put (some d) v) w':=
 ⟨_,h.quiet hb d hd (.tv t) v (fun _=>none) (by simp) (by simp) (by simp) hrep hwf⟩
theorem InvG.tv_same (h:InvG F0 w0 env a w G) (d:Nat) (hd:d<a.tmps.size) (t:TV) (v:Value)
  (hrep:Rep w (Forb w0.heap.size F0 G) t v) (hwf:t.WF) :
  Inv F0 w0 ((d,.tv t)::env) (a.put (some d) v) w:=
 h.tv (Below.refl _ _) d hd t v (rep_mono (agree_quiet (Below.refl _ _) d _ (by simp)) t v hrep) hwf
theorem InvG.ow {w':World} (h:InvG F0 w0 env a w G) (hb:Below w.heap.size w w') (d:Nat) (hd:d<a.tmps.size) (t:TV) (v:Value) (z:Option (Nat × Nat))
  (hz:∀ b lo,z=some (b,lo)->w.heap.size<=b∧b<w'.heap.size)
  (hrep:OwnRep w' (Forb w0.heap.size F0 (zput G d fun i=>if i=none then z else none)) z t v) (hwf:t.WF) :
  Inv F0 w0 ((d,.ow t)::env) (a.put (some d) v) w':=by
 refine ⟨_,h.quiet hb d hd (.ow t) v (fun i=>if i=none then z else none) (fun i b lo hi=>?_) (fun i i' b lo lo' h1 h2=>?_) (by simp) ?_ hwf⟩
 ·split at hi
  ·exact hz b lo hi
  ·cases hi
 ·split at h1
  ·split at h2
   ·simp_all
   ·cases h2
  ·cases h1
 ·simp only [EvRep,zput_same,if_true]
  exact hrep
end
section reads
variable {w:World} {F:Nat->Nat->Prop}
theorem repAll_flat (n:Nat):∀ (es:List TV) (b o:Nat),(∀ e∈es,e.cells.length=n)->RepRow w F (es.flatMap TV.cells) b o->RepEs w F n es b o
 | [],_,_,_,_=>trivial
 | e::es,b,o,hn,h=>by
  rw [repEs_cons]
  have he:e.cells.length=n:=hn e (by simp)
  rw [List.flatMap_cons] at h
  refine ⟨by have:=repRow_take h e.cells.length; simpa using this,he,repAll_flat n es b (o+n) (fun x hx=>hn x (by simp [hx])) ?_⟩
  have:=repRow_drop h e.cells.length
  rw [he] at this
  simpa [he] using this
theorem length_flat (n:Nat):∀ (es:List TV),(∀ e∈es,e.cells.length=n)->(es.flatMap TV.cells).length=es.length*n
 | [],_=>by simp
 | e::es,hn=>by
  rw [List.flatMap_cons,List.length_append,length_flat n es (fun x hx=>hn x (by simp [hx])),hn e (by simp),List.length_cons,Nat.add_mul,Nat.one_mul,Nat.add_comm]
theorem repRow_of_cells {ts:List TV} {xs:List Value} {b o:Nat} (h:RepAll w F ts xs) (h1:∀ x∈xs,x.oneCell'=true) (hc:∀ (i:Nat) (x:Value),xs[i]?=some x->w.cell? ⟨b,o+i,none⟩=some x∧¬ F b (o+i)):RepRow w F ts b o:=by
 rw [repRow_iff]
 rw [repAll_iff] at h
 intro i t hi
 have hlt:i<ts.length:=by
  rcases Nat.lt_or_ge i ts.length with h | h
  ·exact h
  ·rw [List.getElem?_eq_none h] at hi; cases hi
 have hx:xs[i]?=some xs[i]:=List.getElem?_eq_getElem (by omega)
 exact ⟨xs[i],(hc i _ hx).1,(hc i _ hx).2,h1 _ (List.getElem_mem _),h.2 i t _ hi hx⟩
theorem OwnRow.cell {size:Nat} {v:Value} {n:Nat} {xs:List Value} {z:Option (Nat × Nat)} {g cap:Nat} (h:OwnRow w size v n xs z) (hv:v=.slice (some ⟨g,0,none⟩) n cap):∀ (j:Nat) (u:Value),xs[j]?=some u->w.cell? ⟨g,j,none⟩=some u:=by
 intro j u hu
 rcases h.2 with ⟨rfl,_⟩ | ⟨g',cap',cur,e,rfl,hg,_,_,_,htake,_⟩
 ·cases hv
 ·simp only [Value.slice.injEq,Option.some.injEq,Addr.mk.injEq] at hv
  obtain ⟨⟨rfl,_⟩,_⟩:=hv
  rw [cell_of_row w g' j cur e (0,0) hg]
  rw [←htake,List.getElem?_take] at hu
  split at hu
  ·simpa using hu
  ·cases hu
theorem OwnRep.rep {z:Option (Nat × Nat)} {t:TV} {v:Value} (h:OwnRep w F z t v) (hF:∀ b lo o,z=some (b,lo)->o<lo->¬ F b o):Rep w F t v:=by
 cases t <;> simp only [OwnRep] at h
 rename_i n es
 obtain ⟨xs,h1,h2,h3,h4⟩:=h
 simp only [Rep]
 rcases h1.2 with ⟨rfl,hn,hz⟩ | ⟨g,cap,cur,e,rfl,hg,hnc,hcm,hcs,htake,hz⟩
 ·have:es=[]:=List.eq_nil_of_length_eq_zero hn
  subst this
  exact ⟨none,0,rfl,Nat.le_refl _,fun _=>rfl,by simp⟩
 ·refine ⟨some ⟨g,0,none⟩,cap,rfl,hnc,by simp,fun ad had=>?_⟩
  simp only [Option.some.injEq] at had
  subst had
  refine ⟨.inr rfl,repAll_flat n es g 0 h3 (repRow_of_cells h2 h4 fun i x hx=>?_)⟩
  rw [Nat.zero_add]
  refine ⟨h1.cell rfl i x hx,hF g _ i hz ?_⟩
  rcases Nat.lt_or_ge i xs.length with hlt | hge
  ·rwa [h1.1] at hlt
  ·rw [List.getElem?_eq_none hge] at hx; cases hx
end reads
end Go.Sf
