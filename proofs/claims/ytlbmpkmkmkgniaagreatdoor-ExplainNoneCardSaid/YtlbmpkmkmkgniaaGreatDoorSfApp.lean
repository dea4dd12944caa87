/- Appending to a list that a slot owns. -/
import Derived.Test.YtlbmpkmkmkgniaaGreatDoorSfOps1
namespace Go.Sf
open Go.RowKit (Below)
structure Ig (w w':World) (z z':Option (Nat × Nat)):Prop where
 os:w'.os=w.os
 tape:w'.tape=w.tape
 output:w'.output=w.output
 size:w.heap.size<=w'.heap.size
 other:∀ k,k<w.heap.size->(∀ lo,z≠some (k,lo))->w'.heap[k]?=w.heap[k]?
 cell:∀ b o v,w.cell? ⟨b,o,none⟩=some v->(∀ lo,z=some (b,lo)->o<lo)->w'.cell? ⟨b,o,none⟩=some v
 zone:∀ b lo,z'=some (b,lo)->b<w'.heap.size∧(w.heap.size<=b∨∃ lo',z=some (b,lo')∧lo'<=lo)
theorem Ig.refl (w:World) (z:Option (Nat × Nat)) (hz:∀ b lo,z=some (b,lo)->b<w.heap.size):Ig w w z z:=
 ⟨rfl,rfl,rfl,Nat.le_refl _,fun _ _ _=>rfl,fun _ _ _ h _=>h,fun b lo h=>⟨hz b lo h,.inr ⟨lo,h,Nat.le_refl _⟩⟩⟩
section
variable {P:Program} {w:World}
theorem Ql (t ty e e':TypeId) (i:TypeInfo) (ht:P.underlying t=some (.slice e)) (hi:P.info? e=some i)
  (g sLen sCap:Nat) (cur:Array Value) (hg:w.heap[g]?=some (.cells cur e' (0,0)))
  (a:Addr) (m c:Nat) (news:List Value) (hl:news.length=m*i.size) (hnews:∀ (j:Nat) (u:Value),news[j]?=some u->w.cell? (a.add j)=some u) (h1:∀ u∈news,u.oneCell'=true)
  (hroom:sLen+m<=sCap) (hfit:sLen*i.size+news.length<=cur.size) :
  (Builtin.append_ #[t,t] ty #[.slice (some ⟨g,0,none⟩) sLen sCap,.slice (some a) m c]).run P w =
   .ok (.slice (some ⟨g,0,none⟩) (sLen+m) sCap) (w.setRow g (cur.toList.take (sLen*i.size)++news++cur.toList.drop (sLen*i.size+news.length)).toArray):=by
 have hf:=run_firstCells_some (P:=P) w i.size m a m c news hl hnews
 have hst:=run_storeCells_at P g (sLen*i.size) e' news 0 cur w hg (by simpa using hfit) h1
 simp only [Nat.add_zero] at hst
 simp [Builtin.append_,run_underlying ht,sizeOf,typeInfo,hi,Builtin.lenOf,hroom,hf,Addr.add_lit,hst]
theorem O5 (t ty e:TypeId) (i:TypeInfo) (z:Value) (n:Nat) (ht:P.underlying t=some (.slice e)) (hi:P.info? e=some i) (hz:i.zero=some z)
  (hsize:i.size=n) (hby:i.bytes<=4096) (hzs:z.cells.size=n) (hn:0<n)
  (v:Value) (len:Nat) (xs:List Value) (zo:Option (Nat × Nat)) (hown:HF w n v len xs zo)
  (ad:Option Addr) (m c:Nat) (news:List Value) (hl:news.length=m*n) (had:ad=none->m=0) (hmc:m<=c) (hnews:∀ a,ad=some a->∀ (j:Nat) (u:Value),news[j]?=some u->w.cell? (a.add j)=some u) (h1:∀ u∈news,u.oneCell'=true)
  (hmax:len+m<=B9) :
  ∃ v' w' z',(Builtin.append_ #[t,t] ty #[v,.slice ad m c]).run P w=.ok v' w'∧HF w' n v' (len+m) (xs++news) z'∧Ig w w' zo z':=by
 have hlen:(xs++news).length=(len+m)*n:=by rw [List.length_append,hown.1,hl,Nat.add_mul]
 have hbytes:(len+m)*i.bytes<=140737488355328:=by
  calc (len+m)*i.bytes<=B9*4096:=Nat.mul_le_mul hmax hby
   _<=140737488355328:=by decide
 have hml:len+m<=maxLen:=by simp only [maxLen,B9] at *; omega
 have hzlt:∀ b lo,zo=some (b,lo)->b<w.heap.size:=by
  intro b lo hb
  rcases hown.2 with ⟨_,_,h⟩ | ⟨g,cap,cur,e',_,hg,_,_,_,_,h⟩
  ·rw [h] at hb; cases hb
  ·rw [h] at hb
   simp only [zzY,Prod.mk.injEq] at hb
   rw [←hb.1]; exact (Array.getElem?_eq_some_iff.1 hg).1
 by_cases hm:m=0
 ·subst hm
  have hnn:news=[]:=List.eq_nil_of_length_eq_zero (by simpa using hl)
  subst hnn
  refine ⟨v,w,zo,?_,by simpa using hown,Ig.refl w zo hzlt⟩
  have hfc:(Builtin.firstCells n 0 (.slice ad 0 c)).run P w=.ok #[] w:=by
   cases ad <;> simp [Builtin.firstCells,loadCells,loadCellsFrom]
  rcases hown.2 with ⟨rfl,rfl,_⟩ | ⟨g,cap,cur,e',rfl,hg,hc,_,_,_,_⟩
  ·simp [Builtin.append_,run_underlying ht,sizeOf,typeInfo,hi,hsize,Builtin.lenOf,hfc]
  ·simp [Builtin.append_,run_underlying ht,sizeOf,typeInfo,hi,hsize,Builtin.lenOf,hc,hfc,storeCells]
 ·cases ad with
  | none=>exact absurd (had rfl) hm
  | some a=>
   have hnews':=hnews a rfl
   have grown:∀ (old:Nat),old<len+m ->
     HF (w.drew.alloc (.cells (xs.toArray++news.toArray++Builtin.zeroCells z.cells (grownCap w (len+m) old e - (len+m))) e)) n
      (.slice (some ⟨w.heap.size,0,none⟩) (len+m) (grownCap w (len+m) old e)) (len+m) (xs++news) (some (w.heap.size,(len+m)*n)) ∧
     Ig w (w.drew.alloc (.cells (xs.toArray++news.toArray++Builtin.zeroCells z.cells (grownCap w (len+m) old e - (len+m))) e)) zo (some (w.heap.size,(len+m)*n)):=by
    intro old ho
    have hge:=grownCap_ge w (len+m) old e
    have hcm:grownCap w (len+m) old e<=maxLen:=grownCap_le_maxLen w (len+m) old e hml
    refine ⟨⟨hlen,.inr ⟨w.heap.size,_,_,e,rfl,heap_alloc_new w.drew _,hge,hcm,?_,?_,rfl⟩⟩,⟨rfl,rfl,rfl,by simp,fun k hk _=>Below.heap_alloc w.drew _ k hk,fun b o v hc _=>?_,fun b lo hb=>?_⟩⟩
    ·simp only [Array.size_append,List.size_toArray,size_zeroCells,hzs,hown.1,hl,←Nat.add_mul]
     congr 1
     omega
    ·simp only [Array.toList_append,List.append_assoc]
     rw [←List.append_assoc,←hlen]
     exact List.take_left
    ·have hb:b<w.heap.size:=World.block_lt_of_cell? w ⟨b,o,none⟩ hc
     rw [World.cell?_alloc_lt _ _ (a:=⟨b,o,none⟩) (by simpa using hb)]
     simpa using hc
    ·simp only [zzY,Prod.mk.injEq] at hb
     rw [←hb.1]
     exact ⟨by simp,.inl (Nat.le_refl _)⟩
   rcases hown.2 with ⟨rfl,rfl,rfl⟩ | ⟨g,cap,cur,e',rfl,hg,hnc,hcm,hcs,htake,rfl⟩
   ·have hx:xs=[]:=List.eq_nil_of_length_eq_zero (by simpa using hown.1)
    subst hx
    have hr:=run_append_nil (P:=P) w t ty e i z ht hi hz a m c news (by rw [hsize]; exact hl) hnews' (by omega) (by simp only [B9] at hmax; omega) (by have hb:=hbytes; simp only [Nat.zero_add] at hb; omega)
    have hgr:=grown 0 (by omega)
    simp only [Nat.zero_add,List.nil_append,Array.empty_append] at hgr hr ⊢
    exact ⟨_,_,_,hr,hgr.1,hgr.2⟩
   ·by_cases hroom:len+m<=cap
    ·have hfit:len*i.size+news.length<=cur.size:=by rw [hl,hcs,hsize,←Nat.add_mul]; exact Nat.mul_le_mul_right _ hroom
     have hr:=Ql (P:=P) t ty e e' i ht hi g len cap cur hg a m c news (by rw [hsize]; exact hl) hnews' h1 hroom hfit
     rw [hsize] at hr hfit
     refine ⟨_,_,some (g,(len+m)*n),hr,⟨hlen,.inr ⟨g,cap,_,e',rfl,setRow_heap w g cur _ e' _ hg,hroom,hcm,?_,?_,rfl⟩⟩,⟨rfl,rfl,rfl,by simp,fun k _ hk=>setRow_other w g k _ (fun e=>hk (len*n) (by rw [e])),fun b o u hc hlo=>?_,fun b lo hb=>?_⟩⟩
     ·simp only [List.size_toArray,List.length_append,List.length_take,List.length_drop,Array.length_toList]
      omega
     ·rw [htake,←hlen]
      exact List.take_left
     ·by_cases hbg:b=g
      ·subst hbg
       have ho:=hlo (len*n) rfl
       rw [cell_of_row _ b o _ e' (0,0) (setRow_heap w b cur _ e' _ hg)]
       rw [cell_of_row w b o cur e' (0,0) hg] at hc
       have hoc:o<cur.size:=by omega
       rw [List.getElem?_toArray,List.append_assoc,List.getElem?_append_left (by simp; omega),List.getElem?_take_of_lt ho]
       simpa using hc
      ·rw [World.cell?_of_block (w:=w) (a:=⟨b,o,none⟩) (setRow_other w g b _ (fun e=>hbg e))]
       exact hc
     ·simp only [zzY,Prod.mk.injEq] at hb
      obtain ⟨rfl,rfl⟩:=hb
      refine ⟨by simpa using hzlt g (len*n) rfl,.inr ⟨len*n,rfl,Nat.mul_le_mul_right _ (by omega)⟩⟩
    ·have holds:∀ (j:Nat) (u:Value),xs[j]?=some u->w.cell? ((⟨g,0,none⟩:Addr).add j)=some u:=fun j u hu=>by
      rw [Addr.add_lit,Nat.zero_add]; exact hown.cell rfl j u hu
     have hr:=run_append_grow (P:=P) w t ty e i z ht hi hz ⟨g,0,none⟩ len cap xs (by rw [hsize]; exact hown.1) holds a m c news (by rw [hsize]; exact hl) hnews' (by omega) (by simp only [B9] at hmax; omega) (growslice_fits (by omega) hbytes)
     have hgr:=grown cap (by omega)
     exact ⟨_,_,_,hr,hgr.1,hgr.2⟩
end
end Go.Sf
namespace Go.Sf
open Go.RowKit (Below)
section
variable {P:Program} {S:FuncId->List TV->CH->Prop} {F0:Nat->Nat->Prop} {w0:W0} {env:AC} {a:Act} {w:World} {G:DE} {d:Nat} {o:Oper} {K:EV->AC->Prop}
theorem AT.app (h:AT F0 w0 env a w G) {s:Nat} {w':World} {z':Option (Nat × Nat)} (hf:Ig w w' (G s none) z') (hd:d<a.tmps.size) {t:TV} {v:Value} (ht:t.WF)
  (hrep:∀ F',DK w w' (AY w0.heap.size F0 G) F'->(∀ b o,F' b o->(b<w0.heap.size∧F0 b o)∨(∃ q i lo,G q i=some (b,lo)∧lo<=o)∨∃ lo,z'=some (b,lo)∧lo<=o)->CQ w' F' z' t v) :
  ∃ G',AT F0 w0 ((d,.ow t)::Go.Sf.strip env s) (a.put (some d) v) w' G'∧DK w w' (AY w0.heap.size F0 G) (AY w0.heap.size F0 G'):=by
 let G':DE:=F3 (F3 G s (fun _=>none)) d (fun i=>if i=none then z' else none)
 have hG':∀ q i b lo,G' q i=some (b,lo)->(q=d∧i=none∧z'=some (b,lo))∨(q≠d∧q≠s∧G q i=some (b,lo)):=by
  intro q i b lo hq
  by_cases hqd:q=d
  ·subst hqd
   simp only [G',B0] at hq
   split at hq
   ·rename_i hi; exact .inl ⟨rfl,hi,hq⟩
   ·cases hq
  ·simp only [G',BR _ _ _ _ hqd] at hq
   by_cases hqs:q=s
   ·subst hqs; rw [B0] at hq; cases hq
   ·rw [BR _ _ _ _ hqs] at hq
    exact .inr ⟨hqd,hqs,hq⟩
 have hne:∀ q i b lo,q≠s->G q i=some (b,lo)->∀ lo',G s none≠some (b,lo'):=fun q i b lo hqs h1 lo' h2=>hqs (h.uniq _ _ _ _ _ _ _ h1 h2).1
 have hag:DK w w' (AY w0.heap.size F0 G) (AY w0.heap.size F0 G'):=by
  intro b o u hc hF
  have hlo:∀ lo,G s none=some (b,lo)->o<lo:=fun lo hlo=>by
   rcases Nat.lt_or_ge o lo with h | h
   ·exact h
   ·exact absurd (.inr ⟨s,none,lo,hlo,h⟩) hF
  refine ⟨hf.cell b o u hc hlo,?_⟩
  rintro (h1 | ⟨q,i,lo,h1,h2⟩)
  ·exact hF (.inl h1)
  ·rcases hG' _ _ _ _ h1 with ⟨_,_,e1⟩ | ⟨_,_,e1⟩
   ·have hb:=World.block_lt_of_cell? w ⟨b,o,none⟩ hc
    rcases (hf.zone b lo e1).2 with h3 | ⟨lo',h3,h4⟩
    ·simp only at hb; omega
    ·have:=hlo lo' h3; omega
   ·exact hF (.inr ⟨q,i,lo,e1,h2⟩)
 have hbelow:Iw F0 w0 w':=h.below.trans hf.os hf.tape hf.output hf.size (fun k hk he=>hf.other k (Nat.lt_of_lt_of_le hk h.below.size) (fun lo hlo=>(h.lt _ _ _ _ hlo).2.elim (fun e=>by omega) (fun e=>he lo (e lo (Nat.le_refl _))))) (fun b o u hb he hu=>hf.cell b o u hu (fun lo hlo=>(h.lt _ _ _ _ hlo).2.elim (fun e=>by omega) (fun e=>Nat.lt_of_not_le fun hle=>he (e o hle))))
 refine ⟨G',⟨?_,?_,hbelow,by rw [KA]; exact h.defers,?_,?_,?_⟩,hag⟩
 ·intro q i q' i' b lo lo' h1 h2
  have mix:∀ q i lo lo',z'=some (b,lo)->q≠s->G q i=some (b,lo')->False:=by
   intro q i lo lo' e1 hqs e2
   rcases (hf.zone b lo e1).2 with h3 | ⟨lo2,h3,_⟩
   ·have:=(h.lt _ _ _ _ e2).1; omega
   ·exact hne q i b lo' hqs e2 lo2 h3
  rcases hG' _ _ _ _ h1 with ⟨rfl,rfl,e1⟩ | ⟨n1,n2,e1⟩ <;> rcases hG' _ _ _ _ h2 with ⟨rfl,rfl,e2⟩ | ⟨m1,m2,e2⟩
  ·exact ⟨rfl,rfl⟩
  ·exact (mix _ _ _ _ e1 m2 e2).elim
  ·exact (mix _ _ _ _ e2 n2 e1).elim
  ·exact h.uniq _ _ _ _ _ _ _ e1 e2
 ·intro q i b lo h1
  rcases hG' _ _ _ _ h1 with ⟨_,_,e1⟩ | ⟨_,_,e1⟩
  ·have:=hf.zone b lo e1
   refine ⟨this.1,?_⟩
   rcases this.2 with h3 | ⟨lo',h3,h4⟩
   ·exact .inl (Nat.le_trans h.below.size h3)
   ·exact (h.lt _ _ _ _ h3).2.imp id (fun e o ho=>e o (Nat.le_trans h4 ho))
  ·have:=h.lt _ _ _ _ e1
   exact ⟨Nat.lt_of_lt_of_le this.1 hf.size,this.2⟩
 ·intro q hq
  rw [E9] at hq
  rw [AC.get_cons,if_neg (by omega)]
  exact (h.strip s).dom q hq
 ·intro q hq
  rw [E9] at hq
  rw [AC.get_cons]
  by_cases hqd:d=q
  ·subst hqd
   rw [if_pos rfl,Hf _ _ _ hd]
   simp only [AS,G',B0,if_true]
   refine hrep _ hag fun b o hF=>?_
   rcases hF with h1 | ⟨q,i,lo,h1,h2⟩
   ·exact .inl h1
   ·rcases hG' _ _ _ _ h1 with ⟨_,_,e1⟩ | ⟨_,_,e1⟩
    ·exact .inr (.inr ⟨lo,e1,h2⟩)
    ·exact .inr (.inl ⟨q,i,lo,e1,h2⟩)
  ·rw [if_neg hqd,BD _ _ _ _ hqd]
   simp only [Go.Sf.strip,AC.get_cons]
   split
   ·trivial
   ·rename_i hsq
    refine AS.kept hag (fun i=>?_) (fun i b lo hb=>hf.other b (h.lt _ _ _ _ hb).1 (hne q i b lo (fun e=>hsq e.symm) hb)) (fun r off hr ⟨cs,hcs⟩=>?_) (fun r i hr ⟨p,hp⟩=>?_) (h.slots q hq)
    ·simp only [G']
     rw [BR _ _ _ _ (fun e=>hqd e.symm),BR _ _ _ _ (fun e=>hsq e.symm)]
    ·rw [AC.get_cons] at hcs
     by_cases hdr:d=r
     ·rw [if_pos hdr] at hcs; cases hcs
     ·rw [if_neg hdr] at hcs
      simp only [AC.get_cons] at hcs
      split at hcs
      ·cases hcs
      ·exact ⟨⟨cs,hcs⟩,BD _ _ _ _ hdr⟩
    ·have h1:=AC.xat_drop (by simp) (by simp) hp
     have h2:=AC.xat_drop (by simp) (by simp) h1.2
     exact ⟨⟨p,h2.2⟩,h.xv ⟨p,h2.2⟩ (BD _ _ _ _ h1.1) (fun b hb=>hf.other b (h.lt _ _ _ _ hb).1 (fun lo hlo=>h2.1 (h.uniq _ _ _ _ _ _ _ hlo hb).1))⟩
 ·intro q
  rw [AC.get_cons]
  split
  ·exact ht
  ·exact (h.strip s).wf q
theorem AT.app' (h:AT F0 w0 env a w G) {s:Nat} {t0:TV} (hs:env.get s=.ow t0) {w':World} {z':Option (Nat × Nat)} (hf:Ig w w' (G s none) z') (hd:d<a.tmps.size) {t:TV} {v:Value} (ht:t.WF)
  (hrep:∀ F',DK w w' (AY w0.heap.size F0 G) F'->(∀ b o,F' b o->(b<w0.heap.size∧F0 b o)∨(∃ q i lo,G q i=some (b,lo)∧lo<=o)∨∃ lo,z'=some (b,lo)∧lo<=o)->CQ w' F' z' t v) :
  C2 F0 w0 ((d,.ow t)::(s,.tv t0)::env) (a.put (some d) v) w':=by
 obtain ⟨G',h',hag⟩:=h.app hf hd ht hrep
 have hv:=BL h (x:=.tmp s) (y:=.s s) (by simp [AP]) (t:=t0) (by simp [AJ.val,AJ.ev,hs,EV.val])
 have hsz:=GA h hs (by simp)
 by_cases hds:d=s
 ·subst hds
  refine ⟨G',h'.rem d (t:=t) (by rw [E9]; exact hsz) ?_ ht fun n=>?_⟩
  ·exact (BL h' (x:=.tmp d) (y:=.s d) (by simp [AP]) (t:=t) (by simp [AJ.val,AJ.ev,AC.get_cons,EV.val])).1
  ·simp only [Go.Sf.strip,AC.get_cons]
   split
   ·exact .inl rfl
   ·exact .inl rfl
 ·refine ⟨G',h'.rem s (t:=t0) (by rw [E9]; exact hsz) ?_ hv.2 fun n=>?_⟩
  ·rw [BD _ _ _ _ hds]
   exact C1 hag _ _ hv.1
  ·simp only [Go.Sf.strip,AC.get_cons]
   split
   ·exact .inl rfl
   ·split
    ·rename_i e; exact .inr ⟨e.symm,rfl⟩
    ·exact .inl rfl
theorem KJ {l m:List TV}:TV.WFs (l++m)↔TV.WFs l∧TV.WFs m:=by
 simp only [CJ,List.mem_append]
 exact ⟨fun h=>⟨fun t ht=>h t (.inl ht),fun t ht=>h t (.inr ht)⟩,fun h t ht=>ht.elim (h.1 t) (h.2 t)⟩
theorem Zz (hI:AT F0 w0 env a w G) (hd:d<a.tmps.size) {s:Nat} {x:Operand} {y:AJ} {t e:TypeId} {i:TypeInfo} {z:Value} {n:Nat} (hop:o.op=.call { callee:=.builtin .append,args:=#[.tmp s,x],argTypes:=#[t,t] })
  (ht:P.underlying t=some (.slice e)) (hi:P.info? e=some i) (hz:i.zero=some z) (hsize:i.size=n) (hby:i.bytes<=4096) (hzs:z.cells.size=n) (hn:0<n)
  (hok:AP x y=true) (h:(AH.app n (.s s) y).wp S env (some d) K):BS P F0 w0 a w o d K:=by
 simp only [AH.wp,AJ.ev] at h
 split at h
 ·rename_i m es m' fs hs hy
  obtain ⟨hm1,hm2,hmax,hK⟩:=h
  subst hm2
  subst hm1
  have hown:=A4 hI hs (by simp)
  have hwf:=hI.wf s
  rw [hs] at hwf
  simp only [AS,CQ] at hown
  obtain ⟨xs,h1,h2,h3,h4⟩:=hown
  have hv:=BL hI hok hy
  simp only [A1] at hv
  obtain ⟨⟨ad,cap,h5,h6,h7,h8⟩,h9⟩:=hv
  have hnews:∃ news:List Value,AQ w (AY w0.heap.size F0 G) (fs.flatMap TV.cells) news∧(∀ x∈news,x.oneCell'=true)∧(∀ f∈fs,f.cells.length=m)∧∀ b,ad=some b->∀ (j:Nat) (u:Value),news[j]?=some u->w.cell? (b.add j)=some u:=by
   cases ad with
   | none=>
    have:=h7 rfl
    subst this
    exact ⟨[],rfl,by simp,by simp,by simp⟩
   | some b=>
    obtain ⟨h10,h11⟩:=h8 b rfl
    obtain ⟨bb,off,sp⟩:=b
    simp only at h10 h11
    by_cases hfs:fs=[]
    ·subst hfs
     exact ⟨[],rfl,by simp,by simp,by simp⟩
    have h10:sp=none:=h10.resolve_left hfs
    subst h10
    have hrow:∀ (l:List TV) (off:Nat),HU w (AY w0.heap.size F0 G) m l bb off->D7 w (AY w0.heap.size F0 G) (l.flatMap TV.cells) bb off∧∀ f∈l,f.cells.length=m:=by
     intro l
     induction l with
     | nil=>intro off _; exact ⟨trivial,by simp⟩
     | cons f l ih=>
      intro off hr
      rw [Ms] at hr
      obtain ⟨i1,i2⟩:=ih _ hr.2.2
      refine ⟨?_,by simp only [List.mem_cons,forall_eq_or_imp]; exact ⟨hr.2.1,i2⟩⟩
      rw [List.flatMap_cons,FW]
      intro j u hj
      rw [List.getElem?_append] at hj
      split at hj
      ·exact (FW _ _ _).1 hr.1 j u hj
      ·rename_i hge
       have:=(FW _ _ _).1 i1 _ u hj
       have hfl:=hr.2.1
       rwa [show off+m+(j - f.cells.length)=off+j from by omega] at this
    obtain ⟨r1,r2⟩:=hrow fs off h11
    obtain ⟨vs,q1,q2,q3⟩:=Ot r1
    exact ⟨vs,q1,q2,r2,fun b hb=>by simp only [zzY] at hb; subst hb; exact q3⟩
  obtain ⟨news,n1,n2,n3,n4⟩:=hnews
  have hnl:news.length=fs.length*m:=by rw [CC n1,MB m fs n3]
  obtain ⟨v',w',z',hrun,r1,r2⟩:=O5 (P:=P) t o.type e i z m ht hi hz hsize hby hzs hn (slot a s) es.length xs (G s none) h1 ad fs.length cap news hnl (fun e=>by rw [h7 e]; rfl) h6 n4 n2 hmax
  refine ⟨v',w',?_,_,_,hK,hI.app' hs r2 hd ?_ fun F' hag hF'=>?_⟩
  ·simp [execOp,hop,resolve,invoke,builtin,show a.eval (.tmp s)=slot a s from rfl,h5,hrun]
  ·simp only [EV.WF,TV.WF] at hwf h9 ⊢
   exact ⟨by rw [List.length_append]; exact Rl (by omega),KJ.2 ⟨hwf.2,h9.2⟩⟩
  ·simp only [CQ]
   refine ⟨xs++news,by rw [List.length_append]; exact r1,?_,?_,?_⟩
   ·rw [List.flatMap_append]
    exact JZ (BI hag _ _ h2) (BI hag _ _ n1)
   ·intro e he
    rcases List.mem_append.1 he with he | he
    ·exact h3 e he
    ·exact n3 e he
   ·intro x hx
    rcases List.mem_append.1 hx with hx | hx
    ·exact h4 x hx
    ·exact n2 x hx
 ·exact h.elim
end
end Go.Sf
