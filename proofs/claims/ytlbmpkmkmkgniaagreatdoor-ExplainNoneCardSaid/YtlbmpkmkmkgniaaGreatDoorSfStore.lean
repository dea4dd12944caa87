/- Stores into boxes, and taking out of them. -/
import Derived.Test.YtlbmpkmkmkgniaaGreatDoorSfBox
namespace Go.Sf
open Go.RowKit (Below)
def Lr (P:Program) (F0:Nat->Nat->Prop) (w0:W0) (a:Act) (w:World) (o:Oper) (K:EV->AC->Prop):Prop:=
 ∃ w',(execOp a.eval o).run P w=.ok .skip w'∧∃ env',K .undef env'∧C2 F0 w0 env' a w'
section
variable {P:Program} {S:FuncId->List TV->CH->Prop} {F0:Nat->Nat->Prop} {w0:W0} {env:AC} {a:Act} {w:World} {G:DE} {d:Nat} {o:Oper} {K:EV->AC->Prop}
theorem AT.rebox_n (h:AT F0 w0 env a w G) {s:Nat} {cs cs':List AU} (hs:env.get s=.bx cs) {b:Nat} (hsl:slot a s=.pointer (some ⟨b,0,none⟩)) {c c':Array Value} {T:TypeId} (hblk:w.heap[b]?=some (.cells c T (0,0)))
  {zs:Option Nat->Option (Nat × Nat)} (hzb:zs none=some (b,0))
  (hz:∀ i b' lo,i≠none->zs i=some (b',lo)->G s i=some (b',lo))
  (hzu:∀ i i' b' lo lo',zs i=some (b',lo)->zs i'=some (b',lo')->i=i')
  (hl:c'.size=cs'.length) (hcs:∀ F' w',DK w w' (AY w0.heap.size F0 G) F'->(∀ k,k≠b->w'.heap[k]?=w.heap[k]?)->∀ (i:Nat) (x:AU),cs'[i]?=some x->∃ v,c'[i]?=some v∧CS w' F' (zs (some i)) x v)
  (hw:∀ x∈cs',x.t.WF) (hx:∀ (k n:Nat) (es:List TV),cs'[k]?=some ⟨true,.xl n es⟩->(env.noX s (some k)=true∨((∃ p,env.xat s (some k)=some p)∧c'[k]?=c[k]?))) :
  C2 F0 w0 ((s,.bx cs')::env) a (w.setRow b c'):=by
 obtain ⟨G',h',_⟩:=h.rebox hs hsl hblk (q:=none) (by simp) hzb (fun i b' lo h1 h2=>.inl (hz i b' lo h1 h2)) hzu hl hcs hw hx
 exact ⟨G',h'⟩
theorem AT.rebox_q (h:AT F0 w0 env a w G) {s:Nat} {cs cs':List AU} (hs:env.get s=.bx cs) {b:Nat} (hsl:slot a s=.pointer (some ⟨b,0,none⟩)) {c c':Array Value} {T:TypeId} (hblk:w.heap[b]?=some (.cells c T (0,0)))
  {q:Nat} {u:TV} (hve:env.get q=.ow u) (hqs:q≠s) {zs:Option Nat->Option (Nat × Nat)} (hzb:zs none=some (b,0))
  (hz:∀ i b' lo,i≠none->zs i=some (b',lo)->G s i=some (b',lo)∨∃ q',some q=some q'∧∃ j,G q' j=some (b',lo))
  (hzu:∀ i i' b' lo lo',zs i=some (b',lo)->zs i'=some (b',lo')->i=i')
  (hl:c'.size=cs'.length) (hcs:∀ F' w',DK w w' (AY w0.heap.size F0 G) F'->(∀ k,k≠b->w'.heap[k]?=w.heap[k]?)->∀ (i:Nat) (x:AU),cs'[i]?=some x->∃ v,c'[i]?=some v∧CS w' F' (zs (some i)) x v)
  (hw:∀ x∈cs',x.t.WF) (hx:∀ (k n:Nat) (es:List TV),cs'[k]?=some ⟨true,.xl n es⟩->(env.noX s (some k)=true∨((∃ p,env.xat s (some k)=some p)∧c'[k]?=c[k]?))) :
  C2 F0 w0 ((s,.bx cs')::(q,.tv u)::env) a (w.setRow b c'):=by
 obtain ⟨G',h',hag⟩:=h.rebox hs hsl hblk (q:=some q) (by simpa using hqs) hzb hz hzu hl hcs hw hx
 have hv:=BL h (x:=.tmp q) (y:=.s q) (by simp [AP]) (t:=u) (by simp [AJ.val,AJ.ev,hve,EV.val])
 refine ⟨G',h'.rem q (t:=u) (GA h hve (by simp)) (C1 hag _ _ hv.1) hv.2 fun n=>?_⟩
 simp only [Pm,Go.Sf.strip,AC.get_cons]
 split
 ·exact .inl rfl
 ·split
  ·rename_i e; exact .inr ⟨e.symm,rfl⟩
  ·exact .inl rfl
theorem WB (hI:AT F0 w0 env a w G) {x v:Operand} {x' v':AJ} {t:TypeId} {n:Nat} (hop:o.op=.store t x v) (hx:AP x x'=true) (hv:AP v v'=true) (hn:EU P t=some n) (h:(AH.st n x' v').wp S env none K):Lr P F0 w0 a w o K:=by
 simp only [AH.wp] at h
 split at h
 ·rename_i s off hp
  split at h
  ·rename_i cs hs
   obtain ⟨b,hsl,hadr⟩:=JO hI hx hp hs
   have hr:=A4 hI hs (by simp)
   simp only [AS] at hr
   obtain ⟨b',c,T,h1,h2,h3,h4,h5⟩:=hr
   rw [hsl] at h1
   simp only [Value.pointer.injEq,zzY,Addr.mk.injEq,and_true,and_self] at h1
   subst h1
   have hw:=hI.wf s
   rw [hs] at hw
   have hst:∀ (vs:List Value),vs.length=n->(a.eval v).cells.toList=vs->off+n<=c.size->(∀ y∈vs,y.oneCell'=true)->(execOp a.eval o).run P w=.ok .skip (w.setRow b (c.toList.take off++vs++c.toList.drop (off+n)).toArray):=by
    intro vs hl hc hle ho
    have hrun:=run_storeCells_at P b off T vs 0 c w h2 (by omega) ho
    simp only [Nat.add_zero] at hrun
    have hsz:(a.eval v).cells.size=n:=by rw [←Array.length_toList,hc,hl]
    rw [hl] at hrun
    simp [execOp,hop,hadr,Instr.storeAt,Instr.sureAddr,storeVar,DT hn,hsz,hc,hrun]
   split at h
   ·
    rename_i u hve
    cases v' with
    | c t=>exact h.elim
    | s q=>
     simp only at h
     obtain ⟨hqs,hn1,hoff,hK⟩:=h
     subst hn1
     cases v <;> simp [AP] at hv
     subst hv
     rename_i q
     simp only [AJ.ev] at hve
     have hown:=A4 hI hve (by simp)
     simp only [AS] at hown
     have hqw:=hI.wf q
     rw [hve] at hqw
     have hone:=P1 hown
     have hcell:(a.eval (.tmp q)).cells.toList=[slot a q]:=by
      have:a.eval (.tmp q)=slot a q:=rfl
      rw [this]
      cases hsq:slot a q <;> rw [hsq] at hone <;> first | rfl | simp [Value.oneCell'] at hone
     refine ⟨_,hst [slot a q] rfl hcell (by omega) (by simpa using hone),_,hK,?_⟩
     let zs:Option Nat->Option (Nat × Nat):=fun i=>match i with | none=>some (b,0) | some j=>if j=off then G q none else G s (some j)
     refine hI.rebox_q hs hsl h2 hve (fun e=>hqs e) (zs:=zs) rfl ?_ ?_ ?_ ?_ ?_ ?_
     ·intro i b' lo hi hz
      cases i with
      | none=>exact absurd rfl hi
      | some j=>
       simp only [zs] at hz
       split at hz
       ·exact .inr ⟨q,rfl,none,hz⟩
       ·exact .inl hz
     ·intro i i' b' lo lo' e1 e2
      have zn:∀ j b' lo lo',zs (some j)=some (b',lo)->zs none=some (b',lo')->False:=by
       intro j b' lo lo' e1 e2
       simp only [zs,zzY,Prod.mk.injEq] at e2
       obtain ⟨rfl,_⟩:=e2
       simp only [zs] at e1
       split at e1
       ·exact hqs (hI.uniq _ _ _ _ _ _ _ e1 h4).1
       ·have:=(hI.uniq _ _ _ _ _ _ _ e1 h4).2; cases this
      cases i with
      | none=>cases i' with
       | none=>rfl
       | some j=>exact (zn j _ _ _ e2 e1).elim
      | some j=>cases i' with
       | none=>exact (zn j _ _ _ e1 e2).elim
       | some j'=>
        simp only [zs] at e1 e2
        split at e1 <;> split at e2
        ·rename_i e3 e4; rw [e3,e4]
        ·exact absurd (hI.uniq _ _ _ _ _ _ _ e1 e2).1 hqs
        ·exact absurd (hI.uniq _ _ _ _ _ _ _ e2 e1).1 hqs
        ·exact (hI.uniq _ _ _ _ _ _ _ e1 e2).2
     ·simp only [List.size_toArray,List.length_append,List.length_take,List.length_drop,Array.length_toList,List.length_singleton,List.length_set]; omega
     ·intro F' w' hag hoth i y hy
      rw [List.getElem?_set] at hy
      by_cases hi:off=i
      ·subst hi
       rw [if_pos rfl,if_pos hoff] at hy
       simp only [zzY] at hy
       subst hy
       refine ⟨slot a q,?_,?_⟩
       ·rw [List.getElem?_toArray,List.append_assoc,List.getElem?_append_right (by simp; omega)]
        simp only [List.length_take,Array.length_toList]
        rw [Nat.min_eq_left (by omega),Nat.sub_self]
        rfl
       ·simp only [CS,zs,if_true]
        exact hown.c.kept hag (fun k lo hk=>hoth k (fun e=>hqs (hI.uniq _ _ _ _ _ _ _ (e ▸ hk) h4).1))
      ·rw [if_neg hi] at hy
       obtain ⟨vv,e1,e2⟩:=h5 i y hy
       refine ⟨vv,?_,?_⟩
       ·rw [List.getElem?_toArray]
        rcases Nat.lt_or_ge i off with hlt | hge
        ·rw [List.append_assoc,List.getElem?_append_left (by simp; omega),List.getElem?_take_of_lt hlt]
         simpa using e1
        ·rw [List.getElem?_append_right (by simp; omega)]
         simp only [List.length_append,List.length_take,Array.length_toList,List.length_singleton]
         rw [Nat.min_eq_left (by omega),List.getElem?_drop,show off+1+(i - (off+1))=i from by omega]
         simpa using e1
       ·have hi':¬ i=off:=fun e=>hi e.symm
        simp only [zs]; rw [if_neg hi']
        exact e2.kept hag (fun k lo hk=>hoth k (fun e=>by have:=(hI.uniq _ _ _ _ _ _ _ (e ▸ hk) h4).2; cases this))
     ·intro y hy
      rcases List.mem_or_eq_of_mem_set hy with hy | rfl
      ·exact hw y hy
      ·exact hqw
     ·intro k m es hk
      rw [List.getElem?_set] at hk
      by_cases hi:off=k
      ·rw [if_pos hi] at hk
       rw [if_pos (by omega)] at hk
       simp only [zzY,AU.mk.injEq,true_and] at hk
       subst hk
       simp only [CQ] at hown
      ·rw [if_neg hi] at hk
       refine .inr ⟨⟨(m,es),by simp only [AC.xat,hs,hk]⟩,?_⟩
       have hkc:k<c.size:=by
        have:=(List.getElem?_eq_some_iff.1 hk).1; omega
       rw [List.getElem?_toArray]
       rcases Nat.lt_or_ge k off with hlt | hge
       ·rw [List.append_assoc,List.getElem?_append_left (by simp; omega),List.getElem?_take_of_lt hlt,Array.getElem?_toList]
       ·rw [List.getElem?_append_right (by simp; omega)]
        simp only [List.length_append,List.length_take,Array.length_toList,List.length_singleton]
        rw [Nat.min_eq_left (by omega),List.getElem?_drop,show off+1+(k - (off+1))=k from by omega,Array.getElem?_toList]
   ·
    rename_i u hve
    obtain ⟨hun,hoff,hK⟩:=h
    have hvv:=Rt hI hv hve
    have hc:=IY hvv.1
    have hcl:=CC hc.1
    refine ⟨_,hst _ (by omega) rfl (by omega) hc.2,_,hK,?_⟩
    let zs:Option Nat->Option (Nat × Nat):=fun i=>match i with | none=>some (b,0) | some j=>if off<=j∧j<off+n then none else G s (some j)
    refine hI.rebox_n hs hsl h2 (zs:=zs) rfl ?_ ?_ ?_ ?_ ?_ ?_
    ·intro i b' lo hi hz
     cases i with
     | none=>exact absurd rfl hi
     | some j=>
      simp only [zs] at hz
      split at hz
      ·cases hz
      ·exact hz
    ·intro i i' b' lo lo' e1 e2
     have zn:∀ j b' lo lo',zs (some j)=some (b',lo)->zs none=some (b',lo')->False:=by
      intro j b' lo lo' e1 e2
      simp only [zs,zzY,Prod.mk.injEq] at e2
      obtain ⟨rfl,_⟩:=e2
      simp only [zs] at e1
      split at e1
      ·cases e1
      ·have:=(hI.uniq _ _ _ _ _ _ _ e1 h4).2; cases this
     cases i with
     | none=>cases i' with
      | none=>rfl
      | some j=>exact (zn j _ _ _ e2 e1).elim
     | some j=>cases i' with
      | none=>exact (zn j _ _ _ e1 e2).elim
      | some j'=>
       simp only [zs] at e1 e2
       split at e1 <;> split at e2
       ·cases e1
       ·cases e1
       ·cases e2
       ·exact (hI.uniq _ _ _ _ _ _ _ e1 e2).2
    ·simp only [List.size_toArray,List.length_append,List.length_take,List.length_drop,Array.length_toList,List.length_map] at hcl ⊢; omega
    ·intro F' w' hag hoth i y hy
     rw [List.getElem?_toArray]
     rcases Nat.lt_or_ge i off with hlt | hge
     ·rw [List.append_assoc,List.getElem?_append_left (by simp; omega),List.getElem?_take_of_lt hlt] at hy
      obtain ⟨vv,e1,e2⟩:=h5 i y hy
      refine ⟨vv,?_,?_⟩
      ·rw [List.append_assoc,List.getElem?_append_left (by simp; omega),List.getElem?_take_of_lt hlt]
       simpa using e1
      ·simp only [zs]; rw [if_neg (by omega)]
       exact e2.kept hag (fun k lo hk=>hoth k (fun e=>by have:=(hI.uniq _ _ _ _ _ _ _ (e ▸ hk) h4).2; cases this))
     ·rcases Nat.lt_or_ge i (off+n) with hlt | hge2
      ·rw [List.append_assoc,List.getElem?_append_right (by simp; omega),List.getElem?_append_left (by simp; omega)] at hy
       simp only [List.length_take,List.getElem?_map,Option.map_eq_some_iff] at hy
       rw [Nat.min_eq_left (by omega)] at hy
       obtain ⟨tt,htt,rfl⟩:=hy
       have hx':(a.eval v).cells.toList[i - off]?=some ((a.eval v).cells.toList[i - off]'(by omega)):=List.getElem?_eq_getElem (by omega)
       refine ⟨(a.eval v).cells.toList[i - off]'(by omega),?_,?_⟩
       ·rw [List.append_assoc,List.getElem?_append_right (by simp; omega),List.getElem?_append_left (by simp only [List.length_take,Array.length_toList] at hcl ⊢; omega)]
        simp only [List.length_take,Array.length_toList]
        rw [Nat.min_eq_left (by omega)]
        exact hx'
       ·exact ⟨C1 hag _ _ (((CD _ _).1 hc.1).2 _ tt _ htt hx'),hc.2 _ (List.getElem_mem _)⟩
      ·rw [List.getElem?_append_right (by simp; omega)] at hy
       simp only [List.length_append,List.length_take,List.length_map,List.getElem?_drop] at hy
       rw [Nat.min_eq_left (by omega),show off+n+(i - (off+u.cells.length))=i from by omega] at hy
       obtain ⟨vv,e1,e2⟩:=h5 i y hy
       refine ⟨vv,?_,?_⟩
       ·rw [List.getElem?_append_right (by simp only [List.length_append,List.length_take,Array.length_toList] at hcl ⊢; omega)]
        simp only [List.length_append,List.length_take,Array.length_toList,List.getElem?_drop] at hcl ⊢
        rw [Nat.min_eq_left (by omega),show off+n+(i - (off+(a.eval v).cells.size))=i from by omega]
        simpa using e1
       ·simp only [zs]; rw [if_neg (by omega)]
        exact e2.kept hag (fun k lo hk=>hoth k (fun e=>by have:=(hI.uniq _ _ _ _ _ _ _ (e ▸ hk) h4).2; cases this))
    ·intro y hy
     rcases List.mem_append.1 hy with hy | hy
     ·rcases List.mem_append.1 hy with hy | hy
      ·exact hw y (List.mem_of_mem_take hy)
      ·simp only [List.mem_map] at hy
       obtain ⟨tt,htt,rfl⟩:=hy
       exact CJ.1 (JS hvv.2) tt htt
     ·exact hw y (List.mem_of_mem_drop hy)
    ·intro k m es hk
     have hlen:(cs.take off++u.cells.map (fun t=>(⟨false,t⟩:AU))++cs.drop (off+n)).length=cs.length:=by
      simp only [List.length_append,List.length_take,List.length_map,List.length_drop]; omega
     have hkl:k<cs.length:=by rw [←hlen]; exact (List.getElem?_eq_some_iff.1 hk).1
     rw [List.getElem?_toArray]
     rcases Nat.lt_or_ge k off with hlt | hge
     ·rw [List.append_assoc,List.getElem?_append_left (by simp; omega),List.getElem?_take_of_lt hlt] at hk
      refine .inr ⟨⟨(m,es),by simp only [AC.xat,hs,hk]⟩,?_⟩
      rw [List.append_assoc,List.getElem?_append_left (by simp; omega),List.getElem?_take_of_lt hlt,Array.getElem?_toList]
     ·rcases Nat.lt_or_ge k (off+n) with hlt | hge2
      ·rw [List.append_assoc,List.getElem?_append_right (by simp; omega),List.getElem?_append_left (by simp; omega),List.getElem?_map] at hk
       simp only [Option.map_eq_some_iff,AU.mk.injEq,Bool.false_eq_true,false_and,and_false,exists_false] at hk
      ·rw [List.getElem?_append_right (by simp; omega)] at hk
       simp only [List.length_append,List.length_take,List.length_map,List.getElem?_drop] at hk
       rw [Nat.min_eq_left (by omega),show off+n+(k - (off+u.cells.length))=k from by omega] at hk
       refine .inr ⟨⟨(m,es),by simp only [AC.xat,hs,hk]⟩,?_⟩
       rw [List.getElem?_append_right (by simp only [List.length_append,List.length_take,Array.length_toList] at hcl ⊢; omega)]
       simp only [List.length_append,List.length_take,Array.length_toList,List.getElem?_drop] at hcl ⊢
       rw [Nat.min_eq_left (by omega),show off+n+(k - (off+(a.eval v).cells.size))=k from by omega,Array.getElem?_toList]
   ·exact h.elim
  ·exact h.elim
 ·exact h.elim
theorem AT.frz (h:AT F0 w0 env a w G) {s:Nat} {cs:List AU} (hs:env.get s=.bx cs):C2 F0 w0 ((s,.tv (.pt (cs.map (·.t))))::env) a w:=by
 have hsz:s<a.tmps.size:=GA h hs (by simp)
 have hr:=A4 h hs (by simp)
 have hw:=h.wf s
 rw [hs] at hw
 simp only [AS] at hr
 obtain ⟨b,c,T,h1,h2,h3,h4,h5⟩:=hr
 let G':DE:=F3 G s (fun _=>none)
 have hG':∀ p i b' lo,G' p i=some (b',lo)->p≠s∧G p i=some (b',lo):=by
  intro p i b' lo hp
  by_cases hps:p=s
  ·subst hps; simp only [G',B0] at hp; cases hp
  ·simp only [G',BR _ _ _ _ hps] at hp; exact ⟨hps,hp⟩
 have hag:DK w w (AY w0.heap.size F0 G) (AY w0.heap.size F0 G'):=fun b' o v hc hF=>⟨hc,fun hF'=>hF (AY.mono (fun p i b'' lo hp=>⟨p,i,lo,(hG' _ _ _ _ hp).2,Nat.le_refl _⟩) hF')⟩
 refine ⟨G',fun p i p' i' b' lo lo' e1 e2=>h.uniq _ _ _ _ _ _ _ (hG' _ _ _ _ e1).2 (hG' _ _ _ _ e2).2,fun p i b' lo e1=>h.lt _ _ _ _ (hG' _ _ _ _ e1).2,h.below,h.defers,fun p hp=>?_,fun p hp=>?_,fun p=>?_⟩
 ·rw [AC.get_cons,if_neg (by omega)]; exact h.dom p hp
 ·rw [AC.get_cons]
  by_cases hps:s=p
  ·subst hps
   rw [if_pos rfl,h1]
   simp only [AS,A1]
   refine ⟨b,0,rfl,?_⟩
   rw [FW]
   intro i t ht
   rw [List.getElem?_map] at ht
   simp only [Option.map_eq_some_iff] at ht
   obtain ⟨cell,hcell,rfl⟩:=ht
   obtain ⟨x,hx,hxr⟩:=h5 i cell hcell
   refine ⟨x,?_,?_,Kv hxr,C1 hag _ _ (QR h hxr)⟩
   ·rw [Nat.zero_add,cell_of_row w b i c T (0,0) h2]; exact hx
   ·rintro (⟨e1,hF0⟩ | ⟨p,j,lo,e1,_⟩)
    ·exact (h.lt _ _ _ _ h4).2.elim (fun e=>by omega) (fun e=>h.below.free _ 0 _ (e 0 (Nat.zero_le 0)) hF0)
    ·obtain ⟨e2,e3⟩:=hG' _ _ _ _ e1
     exact e2 (h.uniq _ _ _ _ _ _ _ e3 h4).1
  ·rw [if_neg hps]
   refine AS.kept hag (fun i=>by simp only [G']; rw [BR _ _ _ _ (fun e=>hps e.symm)]) (fun _ _ _ _=>rfl) (fun r off hr ⟨cs',hcs'⟩=>?_) (fun r i hr ⟨pp,hpp⟩=>⟨⟨pp,(AC.xat_drop (by simp) (by simp) hpp).2⟩,fun _ hv=>hv⟩) (h.slots p hp)
   ·rw [AC.get_cons] at hcs'
    split at hcs'
    ·cases hcs'
    ·exact ⟨⟨cs',hcs'⟩,rfl⟩
 ·rw [AC.get_cons]
  split
  ·simp only [EV.WF,TV.WF]
   rw [CJ]
   intro t ht
   simp only [List.mem_map] at ht
   obtain ⟨cell,hcell,rfl⟩:=ht
   exact hw cell hcell
  ·exact h.wf p
theorem AT.rls (h:AT F0 w0 env a w G) {s:Nat} {cs:List AU} (hs:env.get s=.bx cs):C2 F0 w0 ((s,.bx (cs.map AU.rel))::env) a w:=by
 have hsz:s<a.tmps.size:=GA h hs (by simp)
 have hr:=A4 h hs (by simp)
 have hw:=h.wf s
 rw [hs] at hw
 simp only [AS] at hr
 obtain ⟨b,c,T,h1,h2,h3,h4,h5⟩:=hr
 let zs:Option Nat->Option (Nat × Nat):=fun i=>match i with
  | none=>G s none
  | some k=>match cs[k]? with
   | some ⟨true,.xl n es⟩=>(G s (some k)).map fun p=>(p.1,es.length*n)
   | _=>G s (some k)
 let G':DE:=F3 G s zs
 have hG':∀ p i b' lo,G' p i=some (b',lo)->∃ lo0,G p i=some (b',lo0)∧lo0<=lo:=by
  intro p i b' lo hp
  by_cases hps:p=s
  ·subst hps
   simp only [G',B0] at hp
   cases i with
   | none=>exact ⟨lo,hp,Nat.le_refl _⟩
   | some k=>
    simp only [zs] at hp
    split at hp
    ·rename_i n es hk
     obtain ⟨x,_,xs,⟨z0,_,hz⟩,_⟩:=h5 k _ hk
     simp only [hz,Option.map_map,Option.map_eq_some_iff,Function.comp,Prod.mk.injEq] at hp
     obtain ⟨p,hp,e1,e2⟩:=hp
     exact ⟨0,by rw [hz,hp,←e1]; rfl,Nat.zero_le _⟩
    ·exact ⟨lo,hp,Nat.le_refl _⟩
  ·simp only [G',BR _ _ _ _ hps] at hp; exact ⟨lo,hp,Nat.le_refl _⟩
 have hag:DK w w (AY w0.heap.size F0 G) (AY w0.heap.size F0 G'):=fun b' o v hc hF=>⟨hc,fun hF'=>hF (AY.mono (fun p i b'' lo hp=>by
  obtain ⟨lo0,e1,e2⟩:=hG' _ _ _ _ hp
  exact ⟨p,i,lo0,e1,e2⟩) hF')⟩
 have hrel:∀ {d:AU} {z:Option (Nat × Nat)} {x:Value} {z':Option (Nat × Nat)},CS w (AY w0.heap.size F0 G) z d x->(z'=match d with
   | ⟨true,.xl n es⟩=>z.map fun p=>(p.1,es.length*n)
   | _=>z)->CS w (AY w0.heap.size F0 G') z' d.rel x:=by
  intro d z x z' hd hz'
  unfold AU.rel
  split
  ·rename_i n es
   subst hz'
   obtain ⟨xs,⟨z0,k1,k2⟩,k3,k4,k5⟩:=hd
   refine ⟨xs,?_,BI hag _ _ k3,k4,k5⟩
   have:z.map (fun p=>(p.1,es.length*n))=z0:=by
    rw [k2]
    rcases k1.2 with ⟨_,_,e⟩ | ⟨g,cap,cur,e,_,_,_,_,_,_,e⟩
    ·rw [e]; rfl
    ·rw [e]; rfl
   show HF w n x es.length xs (z.map fun p=>(p.1,es.length*n))
   rw [this]
   exact k1
  ·rename_i hne
   have:z'=z:=by
    rw [hz']
    split
    ·rename_i n es; exact absurd rfl (hne n es)
    ·rfl
   rw [this]
   exact hd.kept hag (fun _ _ _=>rfl)
 refine ⟨G',fun p i p' i' b' lo lo' e1 e2=>?_,fun p i b' lo e1=>?_,h.below,h.defers,fun p hp=>?_,fun p hp=>?_,fun p=>?_⟩
 ·obtain ⟨_,f1,_⟩:=hG' _ _ _ _ e1
  obtain ⟨_,f2,_⟩:=hG' _ _ _ _ e2
  exact h.uniq _ _ _ _ _ _ _ f1 f2
 ·obtain ⟨lo0,f1,f2⟩:=hG' _ _ _ _ e1
  exact ⟨(h.lt _ _ _ _ f1).1,(h.lt _ _ _ _ f1).2.imp id fun k o ho=>k o (Nat.le_trans f2 ho)⟩
 ·rw [AC.get_cons,if_neg (by omega)]; exact h.dom p hp
 ·rw [AC.get_cons]
  by_cases hps:s=p
  ·subst hps
   rw [if_pos rfl,h1]
   simp only [AS]
   refine ⟨b,c,T,rfl,h2,by simpa using h3,by simp only [G',B0,zs]; exact h4,fun i d hd=>?_⟩
   rw [List.getElem?_map] at hd
   simp only [Option.map_eq_some_iff] at hd
   obtain ⟨d0,hd0,rfl⟩:=hd
   obtain ⟨x,hx,hc⟩:=h5 i d0 hd0
   refine ⟨x,hx,hrel hc ?_⟩
   simp only [G',B0,zs,hd0]
   obtain ⟨o,t⟩:=d0
   cases o <;> cases t <;> rfl
  ·rw [if_neg hps]
   refine AS.kept hag (fun i=>by simp only [G']; rw [BR _ _ _ _ (fun e=>hps e.symm)]) (fun _ _ _ _=>rfl) (fun r off hr ⟨cs',hcs'⟩=>?_) (fun r i hr ⟨pp,hpp⟩=>?_) (h.slots p hp)
   ·rw [AC.get_cons] at hcs'
    split at hcs'
    ·rename_i e; subst e; exact ⟨⟨cs,hs⟩,rfl⟩
    ·exact ⟨⟨cs',hcs'⟩,rfl⟩
   ·by_cases hsr:s=r
    ·subst hsr
     exfalso
     cases i with
     | none=>simp [AC.xat,AC.get_cons] at hpp
     | some k=>
      obtain ⟨cs',e1,e2⟩:=AC.xat_some (n:=pp.1) (es:=pp.2) hpp
      rw [AC.get_cons,if_pos rfl] at e1
      cases e1
      rw [List.getElem?_map] at e2
      simp only [Option.map_eq_some_iff] at e2
      obtain ⟨d0,_,e3⟩:=e2
      obtain ⟨o,t⟩:=d0
      cases o <;> cases t <;> simp [AU.rel] at e3
    ·have:env.xat r i=some pp:=by
      rw [←hpp]; exact (AC.xat_of (by rw [AC.get_cons,if_neg hsr])).symm
     exact ⟨⟨pp,this⟩,fun v hv=>hv⟩
 ·rw [AC.get_cons]
  split
  ·intro d hd
   obtain ⟨d0,hd0,rfl⟩:=List.mem_map.1 hd
   have:=hw d0 hd0
   obtain ⟨o,t⟩:=d0
   cases o <;> cases t <;> exact this
  ·exact h.wf p
end
end Go.Sf
