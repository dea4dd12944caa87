/- Lists of one's own in the cells of boxes; what is lent to a reader; boxes that a callee changes. -/
import Derived.Test.YtlbmpkmkmkgniaaGreatDoorSfX
namespace Go.Sf
open Go.RowKit (Below)
section
variable {P:Program} {S:FuncId->List TV->CH->Prop} {F0:Nat->Nat->Prop} {w0:W0} {env:AC} {a:Act} {w:World} {G:DE} {d:Nat} {o:Oper} {K:EV->AC->Prop}
theorem aA (hI:AT F0 w0 env a w G) (hd:d<a.tmps.size) {x:Operand} {y:AJ} {t:TypeId} (hop:o.op=.load t x) (hok:AP x y=true) (ht:DH P t=some false) (h:(AH.lac y).wp S env (some d) K):BS P F0 w0 a w o d K:=by
 simp only [AH.wp] at h
 split at h
 ·rename_i s off hev
  have hp:y.place env=some (s,off):=by
   cases y with
   | c t=>simp [AJ.ev] at hev
   | s n=>simp only [AJ.ev] at hev; simp only [AJ.place,hev]
  split at h
  ·rename_i p hx
   obtain ⟨n,es⟩:=p
   obtain ⟨cs,hs,hk⟩:=AC.xat_some hx
   obtain ⟨b,hsl,hadr⟩:=JO hI hok hp hs
   have hr:=A4 hI hs (by simp)
   simp only [AS] at hr
   obtain ⟨b',c,T,h1,h2,h3,h4,h5⟩:=hr
   rw [hsl] at h1
   simp only [Value.pointer.injEq,zzY,Addr.mk.injEq,and_true,and_self] at h1
   subst h1
   obtain ⟨v,hv,hc⟩:=h5 off _ hk
   have hcell:w.cell? ⟨b,off,none⟩=some v:=by rw [cell_of_row w b off c T (0,0) h2]; exact hv
   refine ⟨v,w,by simp [execOp,hop,hadr,Instr.loadAt,Instr.sureAddr,loadVar,E4 ht,hcell],_,_,h,_,hI.quiet (Below.refl _ _) d hd (.la s (some off)) _ (fun _=>none) (by simp) (by simp) (by simp) ?_ trivial⟩
   simp only [AS]
   rintro ⟨pp,hxx⟩
   have hd1:=AC.xat_drop (by simp) (by simp) hxx
   exact hI.xv ⟨_,hd1.2⟩ (BD _ _ _ _ hd1.1) (fun _ _=>rfl) _ ⟨b,c,T,hsl,h2,hv⟩
  ·exact h.elim
 ·exact h.elim
theorem Z4 (hI:AT F0 w0 env a w G) (hd:d<a.tmps.size) {x:Operand} {y:AJ} {t:TypeId} (hop:o.op=.load t x) (hok:AP x y=true) (ht:DH P t=some false) (h:(AH.ctk y).wp S env (some d) K):BS P F0 w0 a w o d K:=by
 simp only [AH.wp] at h
 split at h
 ·rename_i d' s off hdd hp
  simp only [zzY] at hdd
  subst hdd
  split at h
  ·rename_i cs hs
   split at h
   ·rename_i n es hk
    obtain ⟨hno,hK⟩:=h
    obtain ⟨b,hsl,hadr⟩:=JO hI hok hp hs
    have hr:=A4 hI hs (by simp)
    simp only [AS] at hr
    obtain ⟨b',c,T,h1,h2,h3,h4,h5⟩:=hr
    rw [hsl] at h1
    simp only [Value.pointer.injEq,zzY,Addr.mk.injEq,and_true,and_self] at h1
    subst h1
    obtain ⟨y,hy,_⟩:=h5 off _ hk
    have hcell:w.cell? ⟨b,off,none⟩=some y:=by rw [cell_of_row w b off c T (0,0) h2]; exact hy
    exact ⟨y,w,by simp [execOp,hop,hadr,Instr.loadAt,Instr.sureAddr,loadVar,E4 ht,hcell],_,_,hK,hI.takeCell hs hk hd hsl hcell (.inr ⟨n,es,rfl,rfl,rfl,hno⟩)⟩
   ·exact h.elim
  ·exact h.elim
 ·exact h.elim
theorem Z3 (hI:AT F0 w0 env a w G) {x v:Operand} {x':AJ} {q:Nat} {t:TypeId} (hop:o.op=.store t x v) (hx:AP x x'=true) (hv:AP v (.s q)=true) (hn:EU P t=some 1) (h:(AH.cpt x' q).wp S env none K):Lr P F0 w0 a w o K:=by
 simp only [AH.wp] at h
 split at h
 ·rename_i s off n es hp hq
  split at h
  ·rename_i cs hs
   obtain ⟨hno,hoff,hK⟩:=h
   obtain ⟨b,hsl,hadr⟩:=JO hI hx hp hs
   have hr:=A4 hI hs (by simp)
   simp only [AS] at hr
   obtain ⟨b',c,T,h1,h2,h3,h4,h5⟩:=hr
   rw [hsl] at h1
   simp only [Value.pointer.injEq,zzY,Addr.mk.injEq,and_true,and_self] at h1
   subst h1
   have hw:=hI.wf s
   rw [hs] at hw
   have hqw:=hI.wf q
   rw [hq] at hqw
   have hqs:q≠s:=fun e=>by rw [e,hs] at hq; cases hq
   have hvq:v=.tmp q:=by
    cases v <;> simp [AP] at hv
    rw [hv]
   subst hvq
   have hown:=A4 hI hq (by simp)
   simp only [AS] at hown
   have hone:(slot a q).oneCell'=true:=by
    obtain ⟨xs,⟨z0,k1,_⟩,_⟩:=hown
    rcases k1.2 with ⟨e,_⟩ | ⟨g,cap,cur,e,e1,_⟩
    ·rw [e]; rfl
    ·rw [e1]; rfl
   have hcell:(a.eval (.tmp q)).cells.toList=[slot a q]:=by
    have:a.eval (.tmp q)=slot a q:=rfl
    rw [this,Nn hone]
   have hst:(execOp a.eval o).run P w=.ok .skip (w.setRow b (c.toList.take off++[slot a q]++c.toList.drop (off+1)).toArray):=by
    have hrun:=run_storeCells_at P b off T [slot a q] 0 c w h2 (by simp only [List.length_singleton]; omega) (by simpa using hone)
    simp only [Nat.add_zero] at hrun
    have hsz:(a.eval (.tmp q)).cells.size=1:=by rw [←Array.length_toList,hcell]; rfl
    simp only [List.length_singleton] at hrun
    simp [execOp,hop,hadr,Instr.storeAt,Instr.sureAddr,storeVar,DT hn,hsz,hcell,hrun]
   let zs:Option Nat->Option (Nat × Nat):=fun i=>match i with | none=>some (b,0) | some j=>if j=off then G q none else G s (some j)
   refine Exists.elim (hI.rebox hs hsl h2 (cs':=cs.set off ⟨true,.xl n es⟩) (c':=(c.toList.take off++[slot a q]++c.toList.drop (off+1)).toArray) (q:=some q) (by simpa using hqs) (zs:=zs) rfl ?_ ?_ ?_ ?_ ?_ ?_) (fun G' h'=>⟨_,hst,_,hK,G',h'.1⟩)
   ·intro i b' lo hi hz
    cases i with
    | none=>exact absurd rfl hi
    | some j=>
     simp only [zs] at hz
     split at hz
     ·exact .inr ⟨q,rfl,none,hz⟩
     ·exact .inl hz
   ·intro i i' b' lo lo' e1 e2
    have zn:∀ j b' lo lo',zs (some j)=some (b',lo)->zs none=some (b',lo')->False:=by
     intro j b' lo lo' e1 e2
     simp only [zs,zzY,Prod.mk.injEq] at e2
     obtain ⟨rfl,_⟩:=e2
     simp only [zs] at e1
     split at e1
     ·exact hqs (hI.uniq _ _ _ _ _ _ _ e1 h4).1
     ·have:=(hI.uniq _ _ _ _ _ _ _ e1 h4).2; cases this
    cases i with
    | none=>cases i' with
     | none=>rfl
     | some j=>exact (zn j _ _ _ e2 e1).elim
    | some j=>cases i' with
     | none=>exact (zn j _ _ _ e1 e2).elim
     | some j'=>
      simp only [zs] at e1 e2
      split at e1 <;> split at e2
      ·rename_i e3 e4; rw [e3,e4]
      ·exact absurd (hI.uniq _ _ _ _ _ _ _ e1 e2).1 hqs
      ·exact absurd (hI.uniq _ _ _ _ _ _ _ e2 e1).1 hqs
      ·exact (hI.uniq _ _ _ _ _ _ _ e1 e2).2
   ·simp only [List.size_toArray,List.length_append,List.length_take,List.length_drop,Array.length_toList,List.length_singleton,List.length_set]; omega
   ·intro F' w' hag hoth i y hy
    rw [List.getElem?_set] at hy
    by_cases hi:off=i
    ·subst hi
     rw [if_pos rfl,if_pos hoff] at hy
     simp only [zzY] at hy
     subst hy
     refine ⟨slot a q,?_,?_⟩
     ·rw [List.getElem?_toArray,List.append_assoc,List.getElem?_append_right (by simp; omega)]
      simp only [List.length_take,Array.length_toList]
      rw [Nat.min_eq_left (by omega),Nat.sub_self]
      rfl
     ·simp only [CS,zs,if_true]
      obtain ⟨xs,k1,k2,k3,k4⟩:=hown
      exact ⟨xs,k1.kept (fun k lo hk=>hoth k (fun e=>hqs (hI.uniq _ _ _ _ _ _ _ (e ▸ hk) h4).1)),BI hag _ _ k2,k3,k4⟩
    ·rw [if_neg hi] at hy
     obtain ⟨vv,e1,e2⟩:=h5 i y hy
     refine ⟨vv,?_,?_⟩
     ·rw [List.getElem?_toArray]
      rcases Nat.lt_or_ge i off with hlt | hge
      ·rw [List.append_assoc,List.getElem?_append_left (by simp; omega),List.getElem?_take_of_lt hlt]
       simpa using e1
      ·rw [List.getElem?_append_right (by simp; omega)]
       simp only [List.length_append,List.length_take,Array.length_toList,List.length_singleton]
       rw [Nat.min_eq_left (by omega),List.getElem?_drop,show off+1+(i - (off+1))=i from by omega]
       simpa using e1
     ·have hi':¬ i=off:=fun e=>hi e.symm
      simp only [zs]; rw [if_neg hi']
      exact e2.kept hag (fun k lo hk=>hoth k (fun e=>by have:=(hI.uniq _ _ _ _ _ _ _ (e ▸ hk) h4).2; cases this))
   ·intro y hy
    rcases List.mem_or_eq_of_mem_set hy with hy | rfl
    ·exact hw y hy
    ·exact hqw
   ·intro k m es' hk
    rw [List.getElem?_set] at hk
    by_cases hi:off=k
    ·subst hi; exact .inl hno
    ·rw [if_neg hi] at hk
     refine .inr ⟨⟨(m,es'),by simp only [AC.xat,hs,hk]⟩,?_⟩
     have hkc:k<c.size:=by
      have:=(List.getElem?_eq_some_iff.1 hk).1; omega
     rw [List.getElem?_toArray]
     rcases Nat.lt_or_ge k off with hlt | hge
     ·rw [List.append_assoc,List.getElem?_append_left (by simp; omega),List.getElem?_take_of_lt hlt,Array.getElem?_toList]
     ·rw [List.getElem?_append_right (by simp; omega)]
      simp only [List.length_append,List.length_take,Array.length_toList,List.length_singleton]
      rw [Nat.min_eq_left (by omega),List.getElem?_drop,show off+1+(k - (off+1))=k from by omega,Array.getElem?_toList]
  ·exact h.elim
 ·exact h.elim
theorem Z5 (hI:AT F0 w0 env a w G) (hd:d<a.tmps.size) {s:Nat} {hi:Operand} {hi':AJ} {t:TypeId} {n:Nat} (hop:o.op=.slice t (.tmp s) none (some hi) none) (hh:AP hi hi'=true) (ht:KB P t=some n) (h:(AH.cut n s hi').wp S env (some d) K):BS P F0 w0 a w o d K:=by
 simp only [AH.wp] at h
 split at h
 ·rename_i d' m es k hb hdd hs hv
  simp only [zzY] at hdd
  subst hdd
  obtain ⟨⟨hm,hno,hds⟩,h0,h2,hK⟩:=h
  subst hm
  have hr:=A4 hI hs (by simp)
  have hw:=hI.wf s
  rw [hs] at hw
  simp only [AS] at hr
  obtain ⟨xs,⟨z0,k1,k2⟩,k3,k4,k5⟩:=hr
  have b2:=(BL hI hh hv).1
  simp only [A1] at b2
  unfold KB at ht
  split at ht
  ·rename_i e hu
   obtain ⟨j,rfl⟩:∃ j:Nat,hb=j:=⟨hb.toNat,by omega⟩
   simp only [Int.toNat_natCast] at hK
   have hjl:j<=es.length:=by omega
   have hlx:=k1.1
   have key:∀ (ad:Option Addr) (cap:Nat),slot a s=.slice ad es.length cap->es.length<=cap->(execOp a.eval o).run P w=.ok (.value (.slice (if cap=0 then ad else ad.map (·.add (0*m))) (j - 0) (cap - 0))) w:=by
    intro ad cap e1 e2
    have hrun:=Ou (P:=P) (w:=w) (isS:=true) (lo:=none) (hi:=some (a.eval hi)) (l:=0) (h:=(j:Int)) (len:=es.length) (cap:=cap) (by omega) (by omega) h2 e2 (.inl ⟨rfl,rfl⟩) (.inr ⟨k,by rw [b2]⟩)
    simp [execOp,hop,Instr.sliceAt,Instr.slice,run_underlying hu,show a.eval (.tmp s)=slot a s from rfl,e1,hrun,DT ht]
   have hrep:∀ F' G' env' (a':Act) (v:Value),DK w w (AY w0.heap.size F0 G) F'->G' d none=G s none->Jr w m v (es.take j).length (xs.take (j*m)) (G s none)->AS a' w F' G' env' d (.xo m (es.take j)) v:=by
    intro F' G' env' a' v hag hG hx
    simp only [AS]
    rw [hG]
    refine ⟨xs.take (j*m),hx,?_,fun e he=>k4 e (List.mem_of_mem_take he),fun x hx=>k5 x (List.mem_of_mem_take hx)⟩
    have hfl:∀ (l:List TV) (j:Nat),(∀ e∈l,e.cells.length=m)->(l.take j).flatMap TV.cells=(l.flatMap TV.cells).take (j*m):=by
     intro l
     induction l with
     | nil=>intro j _; simp
     | cons e l ih=>
      intro j hl
      cases j with
      | zero=>simp
      | succ j=>
       rw [List.take_succ_cons,List.flatMap_cons,List.flatMap_cons,ih j (fun x hx=>hl x (by simp [hx])),List.take_append,hl e (by simp)]
       have h1:(j+1)*m=m+j*m:=by rw [Nat.add_mul]; omega
       have h2:e.cells.take (m+j*m)=e.cells:=List.take_of_length_le (by rw [hl e (by simp)]; omega)
       rw [h1,h2,show m+j*m - m=j*m from by omega]
    rw [hfl es j k4]
    have:=(CD _ _).1 (BI hag _ _ k3)
    rw [CD]
    refine ⟨by rw [List.length_take,List.length_take,this.1],fun i t v ht hv=>?_⟩
    rw [List.getElem?_take] at ht hv
    split at ht
    ·rename_i hlt; rw [if_pos hlt] at hv; exact this.2 i t v ht hv
    ·cases ht
   have hwf:(EV.xo m (es.take j)).WF:=by
    simp only [EV.WF,TV.WF] at hw ⊢
    refine ⟨by simp only [List.length_take]; omega,?_⟩
    rw [CJ] at hw ⊢
    exact fun t ht=>hw.2 t (List.mem_of_mem_take ht)
   have hjm:j*m<=es.length*m:=Nat.mul_le_mul_right _ hjl
   rcases k1.2 with ⟨e1,e2,e3⟩ | ⟨g,cap,cur,ty,e1,e2,e3,e4,e5,e6,e7⟩
   ·have hes:es=[]:=List.eq_nil_of_length_eq_zero e2
    subst hes
    have hj:j=0:=by simpa using hjl
    subst hj
    refine ⟨_,w,key none 0 (by simpa using e1) (by simp),_,_,hK,hI.xgo hs hd hds (z':=G s none) rfl rfl rfl (Nat.le_refl _) (fun _ _ _=>rfl) (fun b lo hz=>⟨(hI.lt _ _ _ _ hz).1,.inr ⟨lo,hz⟩⟩) (by simp) (fun _=>hno) (fun F' G' env' a' hag hG=>hrep F' G' env' a' _ hag hG ?_) hwf⟩
    refine ⟨none,⟨by simp,.inl ⟨by simp,by simp,rfl⟩⟩,?_⟩
    rw [k2,e3]
   ·refine ⟨_,w,key _ _ e1 e3,_,_,hK,hI.xgo hs hd hds (z':=G s none) rfl rfl rfl (Nat.le_refl _) (fun _ _ _=>rfl) (fun b lo hz=>⟨(hI.lt _ _ _ _ hz).1,.inr ⟨lo,hz⟩⟩) (by simp) (fun _=>hno) (fun F' G' env' a' hag hG=>hrep F' G' env' a' _ hag hG ?_) hwf⟩
    have hl:(es.take j).length=j:=by rw [List.length_take]; omega
    rw [hl]
    refine ⟨some (g,j*m),⟨by rw [List.length_take,hlx]; omega,.inr ⟨g,cap,cur,ty,?_,e2,by omega,e4,e5,?_,rfl⟩⟩,?_⟩
    ·simp only [Nat.zero_mul,Nat.sub_zero,Option.map_some,Addr.add_zero']
     split <;> rfl
    ·rw [←e6,List.take_take,Nat.min_eq_left hjm]
    ·rw [k2,e7]; rfl
  ·cases ht
 ·exact h.elim
theorem TU {F:Nat->Nat->Prop} {n:Nat} {v:Value} {es:List TV} {xs:List Value} {z:Option (Nat × Nat)} (h:Jr w n v es.length xs z) (h2:AQ w F (es.flatMap TV.cells) xs) (h3:∀ e∈es,e.cells.length=n) (h4:∀ x∈xs,x.oneCell'=true):A1 w (fun _ _=>False) (.list n es) v:=by
 obtain ⟨z0,h1,_⟩:=h
 refine CQ.rep (z:=z0) ?_ (fun _ _ _ _ _ h=>h)
 simp only [CQ]
 exact ⟨xs,h1,BI (fun b o u hc _=>⟨hc,fun h=>h⟩) _ _ h2,h3,h4⟩
theorem SP {F:Nat->Nat->Prop}:DK w w F (fun _ _=>False):=fun _ _ _ hc _=>⟨hc,fun h=>h⟩
theorem cG {c:AU} (h:c.t.WF):c.lent.WF:=by
 obtain ⟨_ | _,t⟩:=c
 ·exact h
 ·cases t <;> exact h
theorem ZR (hI:AT F0 w0 env a w G) {s:Nat} {i:Option Nat} {c:AU} {x:Value} (h:CS w (AY w0.heap.size F0 G) (G s i) c x):A1 w (fun _ _=>False) c.lent x:=by
 by_cases hx:∃ n es,c=⟨true,.xl n es⟩
 ·obtain ⟨n,es,rfl⟩:=hx
  simp only [CS,IE] at h
  obtain ⟨xs,h1,h2,h3,h4⟩:=h
  exact TU h1 h2 h3 h4
 ·have:c.lent=c.t:=by
   obtain ⟨_ | _,t⟩:=c
   ·rfl
   ·cases t <;> first | rfl | exact absurd ⟨_,_,rfl⟩ hx
  rw [this]
  exact C1 SP _ _ (QR hI h)
theorem UO (hI:AT F0 w0 env a w G) {s:Nat} {cs:List AU} (hs:env.get s=.bx cs) {b:Nat} (hsl:slot a s=.pointer (some ⟨b,0,none⟩)) (off:Nat):D7 w (fun _ _=>False) ((cs.drop off).map AU.lent) b off:=by
 have hr:=A4 hI hs (by simp)
 simp only [AS] at hr
 obtain ⟨b',c,T,h1,h2,h3,h4,h5⟩:=hr
 rw [hsl] at h1
 simp only [Value.pointer.injEq,zzY,Addr.mk.injEq,and_true,and_self] at h1
 subst h1
 rw [FW]
 intro i t ht
 simp only [List.getElem?_map,List.getElem?_drop,Option.map_eq_some_iff] at ht
 obtain ⟨cell,hcell,rfl⟩:=ht
 obtain ⟨x,hx,hr⟩:=h5 _ cell hcell
 exact ⟨x,by rw [cell_of_row w b (off+i) c T (0,0) h2]; exact hx,fun h=>h,Kv hr,ZR hI hr⟩
theorem UP {cs:List AU} (h:∀ c∈cs,c.t.WF):TV.WFs (cs.map AU.lent):=by
 rw [CJ]
 intro t ht
 obtain ⟨c,hc,rfl⟩:=List.mem_map.1 ht
 exact cG (h c hc)
theorem ZU (hI:AT F0 w0 env a w G) {x:Operand} {y:AJ} (hok:AP x y=true) {t:TV} (h:y.lval env=some t):A1 w (fun _ _=>False) t (a.eval x)∧t.WF:=by
 unfold AJ.lval at h
 split at h
 ·rename_i p hp
  simp only [zzY] at h
  subst h
  obtain ⟨h1,h2⟩:=Ll hI hok hp
  obtain ⟨hw,xs,k1,k2,k3,k4⟩:=L8 hI h1 h2
  exact ⟨TU k1 k2 k3 k4,hw⟩
 ·have hx:∀ e,y.ev env=e->(∀ t,e≠.tv t)->∃ n,y=.s n∧x=.tmp n∧env.get n=e:=by
   intro e he hne
   cases y with
   | c t=>exact absurd he.symm (hne t)
   | s n=>
    cases x <;> simp [AP] at hok
    subst hok
    exact ⟨_,rfl,rfl,he⟩
  split at h
  ·rename_i cs he
   simp only [zzY] at h
   subst h
   obtain ⟨n,rfl,rfl,hs⟩:=hx _ he (by simp)
   have hr:=A4 hI hs (by simp)
   have hw:=hI.wf n
   rw [hs] at hw
   simp only [AS] at hr
   obtain ⟨b,c,T,h1,_⟩:=hr
   refine ⟨?_,UP hw⟩
   simp only [A1]
   exact ⟨b,0,h1,by simpa using UO hI hs h1 0⟩
  ·rename_i q off he
   split at h
   ·rename_i cs hs
    simp only [zzY] at h
    subst h
    obtain ⟨n,rfl,rfl,hn⟩:=hx _ he (by simp)
    have hr:=A4 hI hn (by simp)
    simp only [AS] at hr
    obtain ⟨b,h1,h2⟩:=hr ⟨cs,hs⟩
    have hw:=hI.wf q
    rw [hs] at hw
    refine ⟨?_,UP (fun c hc=>hw c (List.mem_of_mem_drop hc))⟩
    simp only [A1]
    exact ⟨b,off,h2,UO hI hs h1 off⟩
   ·cases h
  ·have:=BL hI hok (t:=t) h
   exact ⟨C1 SP _ _ this.1,this.2⟩
theorem TA (hI:AT F0 w0 env a w G):∀ {xs:List Operand} {ys:List AJ},C5 xs ys=true->∀ {ts:List TV},lvals env ys=some ts->AQ w (fun _ _=>False) ts (xs.map a.eval)∧TV.WFs ts
 | [],[],_,ts,hv=>by simp [lvals] at hv; subst hv; exact ⟨rfl,trivial⟩
 | [],_::_,hok,_,_=>by simp [C5] at hok
 | _::_,[],hok,_,_=>by simp [C5] at hok
 | x::xs,y::ys,hok,ts,hv=>by
  simp only [C5,zzZ] at hok
  simp only [lvals] at hv
  split at hv
  ·rename_i t ts' ht hts
   simp only [zzY] at hv
   subst hv
   have h1:=ZU hI hok.1 ht
   have h2:=TA hI hok.2 hts
   exact ⟨⟨_,_,rfl,h1.1,h2.1⟩,h1.2,h2.2⟩
  ·cases hv
theorem YP {w':World} {F F':Nat->Nat->Prop} {base:Nat} {r:CH} {v:Value} (hl:r.lends=true) (h:Ix w' F base r v):Ix w' F' base r v:=by
 cases r with
 | sh t=>exact Uo t hl v h
 | tp ts=>obtain ⟨vs,h1,h2⟩:=h; exact ⟨vs,h1,I5 ts hl _ h2⟩
 | own t=>
  obtain ⟨z,h1,h2⟩:=h
  refine ⟨z,?_,h2⟩
  cases t <;> simp only [CH.lends,Bool.false_eq_true] at hl
  simp only [CQ] at h1 ⊢
  obtain ⟨xs,k1,k2,k3,k4⟩:=h1
  exact ⟨xs,k1,I5 _ (MY _ hl) _ k2,k3,k4⟩
 | _=>simp [CH.lends] at hl
theorem VQ {r:CH} (h:r.lends=true):r.plain=true:=by
 cases r <;> first | rfl | (simp [CH.lends] at h)
theorem XM (hI:AT F0 w0 env a w G) (hd:d<a.tmps.size) (hdst:o.dst=some d) {f:FuncId} {xs:Array Operand} {ys:List AJ} {ats:Array TypeId} (hop:o.op=.call { callee:=.value (.func f),args:=xs,argTypes:=ats }) (hok:C5 xs.toList ys=true) (h:(AH.calll f ys).wp (AR P) env (some d) K)
  {next:Act->World->Prop} {Q:Exit->Act->World->Prop} (hn:∀ e env' a' w',K e env'->O1 a d a'->C2 F0 w0 ((d,e)::env') a' w'->next a' w'):o.wp P a w next Q:=by
 simp only [AH.wp] at h
 cases hts:lvals env ys with
 | none=>rw [hts] at h; exact h.elim
 | some ts=>
  rw [hts] at h
  simp only [A6] at h
  obtain ⟨r,⟨hS,hl⟩,hK⟩:=h
  have hv:=TA hI hok hts
  have hrun:(execOp a.eval o).run P w=(callFunc f (xs.map a.eval)).run P w:=by simp [execOp,hop,resolve,Act.eval,Deferred.ofValue,invoke]
  obtain ⟨h2,h3⟩:=(hS.to0 (VQ hl)) hv.2
  obtain ⟨h1,h3⟩:=h3 (fun _ _=>False) w (xs.map a.eval) (by simpa using hv.1)
  unfold Oper.wp
  rw [hrun,H7 h2 _,Oper.upon_enter]
  refine h3.mono ?_
  rintro e w' ⟨v,rfl,hb,hr⟩
  simp only [hdst]
  exact hn _ _ _ _ (hK h1) ⟨_,rfl⟩ (hI.called hd hb (YP hl hr) h1)
theorem MW:∀ {ps:List (Option AU)} {ts:List TV} {cs:List AU},GI ps ts=some cs->cs.length=ts.length∧∀ (i:Nat) (c:AU),cs[i]?=some c->∃ t,ts[i]?=some t∧(c=⟨false,t⟩∨(t=.nil∧∃ n,c=⟨true,.list n []⟩∨c=⟨true,.xl n []⟩))
 | [],[],cs,h=>by simp [GI] at h; subst h; simp
 | [],_::_,cs,h=>by simp [GI] at h
 | none::ps,[],cs,h=>by simp [GI] at h
 | some _::ps,[],cs,h=>by simp [GI] at h
 | none::ps,t::ts,cs,h=>by
  simp only [GI] at h
  split at h
  ·rename_i cs' hc
   simp only [zzY] at h
   subst h
   obtain ⟨h1,h2⟩:=MW hc
   refine ⟨by simp [h1],fun i c hi=>?_⟩
   cases i with
   | zero=>simp at hi; exact ⟨t,rfl,.inl hi.symm⟩
   | succ i=>exact h2 i c (by simpa using hi)
  ·cases h
 | some c0::ps,t::ts,cs,h=>by
  cases t <;> simp only [GI] at h <;> try cases h
  have key:∃ cs' c1,GI ps ts=some cs'∧cs=c1::cs'∧∃ n,c1=⟨true,.list n []⟩∨c1=⟨true,.xl n []⟩:=by
   split at h
   ·rename_i n cs' hc
    simp only [zzY] at h
    exact ⟨_,_,hc,h.symm,n,.inl rfl⟩
   ·rename_i n cs' hc
    simp only [zzY] at h
    exact ⟨_,_,hc,h.symm,n,.inr rfl⟩
   ·cases h
  obtain ⟨cs',c1,hc,rfl,hn⟩:=key
  obtain ⟨h1,h2⟩:=MW hc
  refine ⟨by simp [h1],fun i c hi=>?_⟩
  cases i with
  | zero=>simp at hi; subst hi; exact ⟨.nil,rfl,.inr ⟨rfl,hn⟩⟩
  | succ i=>exact h2 i c (by simpa using hi)
theorem Ye (hI:AT F0 w0 env a w G) (hd:d<a.tmps.size) {x:Operand} {y:AJ} {t:TypeId} {ps:List (Option AU)} (hop:o.op=.box t x) (hok:AP x y=true) (h:(AH.boxp ps y).wp S env (some d) K):BS P F0 w0 a w o d K:=by
 simp only [AH.wp] at h
 split at h
 ·rename_i u d' hv hdd
  simp only [zzY] at hdd
  subst hdd
  cases hb:GI ps u.cells with
  | none=>rw [hb] at h; exact h.elim
  | some cs=>
   rw [hb] at h
   simp only [A6] at h
   obtain ⟨hno,hK⟩:=h
   obtain ⟨hl,hcs⟩:=MW hb
   have h1:=BL hI hok hv
   have h2:=IY h1.1
   have h3:=CC h2.1
   refine ⟨_,_,by simp [execOp,hop,Instr.box,newVar,newRow],_,_,hK,hI.box hd hno (c:=(a.eval x).cells) (T:=t) (by rw [hl]; simpa using h3) (fun F' hag i c hc=>?_) (fun c hc=>?_)⟩
   ·obtain ⟨tt,ht,hor⟩:=hcs i c hc
    have hlt:i<u.cells.length:=(List.getElem?_eq_some_iff.1 ht).1
    have hx:(a.eval x).cells.toList[i]?=some ((a.eval x).cells.toList[i]'(by omega)):=List.getElem?_eq_getElem (by omega)
    have hrep:=((CD _ _).1 h2.1).2 i tt _ ht hx
    refine ⟨(a.eval x).cells.toList[i]'(by omega),by rw [←Array.getElem?_toList]; exact hx,?_⟩
    rcases hor with rfl | ⟨rfl,n,rfl | rfl⟩
    ·exact ⟨C1 hag _ _ hrep,h2.2 _ (List.getElem_mem _)⟩
    ·simp only [A1] at hrep
     simp only [CS,IE,CQ]
     exact ⟨[],⟨by simp,.inl ⟨hrep,rfl,rfl⟩⟩,rfl,by simp,by simp⟩
    ·simp only [A1] at hrep
     simp only [CS,IE]
     exact ⟨[],⟨none,⟨by simp,.inl ⟨hrep,rfl,rfl⟩⟩,rfl⟩,rfl,by simp,by simp⟩
   ·obtain ⟨i,hi⟩:=List.getElem?_of_mem hc
    obtain ⟨tt,ht,hor⟩:=hcs i c hi
    rcases hor with rfl | ⟨rfl,n,rfl | rfl⟩
    ·exact CJ.1 (JS h1.2) tt (List.mem_of_getElem? ht)
    ·simp [TV.WF,TV.WFs]
    ·simp [TV.WF,TV.WFs]
 ·exact h.elim
theorem Si (hI:AT F0 w0 env a w G):∀ {i:Nat} {xs:List Operand} {ys:List AJ},C5 xs ys=true->∀ {ts:List TV},Mj env i ys=some ts->(∀ x,xs[i]?=some x->(a.eval x).oneCell'=true)->AQ w (AY w0.heap.size F0 G) ts (xs.map a.eval)∧TV.WFs ts
 | i,[],[],_,ts,hv,_=>by cases i <;> simp [Mj] at hv <;> subst hv <;> exact ⟨rfl,trivial⟩
 | _,[],_::_,hok,_,_,_=>by simp [C5] at hok
 | _,_::_,[],hok,_,_,_=>by simp [C5] at hok
 | 0,x::xs,y::ys,hok,ts,hv,ho=>by
  simp only [C5,zzZ] at hok
  simp only [Mj] at hv
  split at hv
  ·rename_i ts' hts
   simp only [zzY] at hv
   subst hv
   have h2:=I9 hI hok.2 hts
   exact ⟨⟨_,_,rfl,by simp only [A1]; exact ho x rfl,h2.1⟩,trivial,h2.2⟩
  ·cases hv
 | i+1,x::xs,y::ys,hok,ts,hv,ho=>by
  simp only [C5,zzZ] at hok
  simp only [Mj] at hv
  split at hv
  ·rename_i t ts' ht hts
   simp only [zzY] at hv
   subst hv
   have h1:=BL hI hok.1 ht
   have h2:=Si hI hok.2 hts (fun x hx=>ho x (by simpa using hx))
   exact ⟨⟨_,_,rfl,h1.1,h2.1⟩,h1.2,h2.2⟩
  ·cases hv
theorem AT.reboxed (h:AT F0 w0 env a w G) {s:Nat} {cs cs':List AU} (hs:env.get s=.bx cs) (hno:env.noX s none=true) {w':World} {zs:Option Nat->Option (Nat × Nat)} (hb:Pq (G s) w w')
  (hbox:M2 w' (fun b o=>(b<w.heap.size∧AY w0.heap.size F0 G b o∧¬ ZF (G s) b o)∨ZF zs b o) zs cs' (slot a s))
  (hzu:∀ i i' b lo lo',zs i=some (b,lo)->zs i'=some (b,lo')->i=i') (hz:∀ i b lo,zs i=some (b,lo)->b<w'.heap.size∧(w.heap.size<=b∨∃ j lo',G s j=some (b,lo')∧lo'<=lo)) (hw:∀ c∈cs',c.t.WF) :
  AT F0 w0 ((s,.bx cs')::env) a w' (F3 G s zs)∧∀ b o,AY w0.heap.size F0 (F3 G s zs) b o->b<w.heap.size->(b<w.heap.size∧AY w0.heap.size F0 G b o∧¬ ZF (G s) b o)∨ZF zs b o:=by
 have hsz:s<a.tmps.size:=GA h hs (by simp)
 have hG':∀ p i b lo,F3 G s zs p i=some (b,lo)->(p=s∧zs i=some (b,lo))∨(p≠s∧G p i=some (b,lo)):=by
  intro p i b lo hp
  by_cases hps:p=s
  ·subst hps; rw [B0] at hp; exact .inl ⟨rfl,hp⟩
  ·rw [BR _ _ _ _ hps] at hp; exact .inr ⟨hps,hp⟩
 have hne:∀ p i b lo,p≠s->G p i=some (b,lo)->∀ j lo',G s j≠some (b,lo'):=fun p i b lo hp h1 j lo' h2=>hp (h.uniq _ _ _ _ _ _ _ h1 h2).1
 have hE:∀ b o,b<w0.heap.size->ZF (G s) b o->w0.E b o:=fun b o hlt ⟨i,lo,h1,h2⟩=>(h.lt _ _ _ _ h1).2.elim (fun e=>by omega) (fun e=>e o h2)
 have hforb:∀ b o,AY w0.heap.size F0 (F3 G s zs) b o->(b<w0.heap.size∧F0 b o)∨(∃ p i lo,p≠s∧G p i=some (b,lo)∧lo<=o)∨ZF zs b o:=by
  rintro b o (h1 | ⟨p,i,lo,h1,h2⟩)
  ·exact .inl h1
  ·rcases hG' _ _ _ _ h1 with ⟨_,e⟩ | ⟨e1,e2⟩
   ·exact .inr (.inr ⟨i,lo,e,h2⟩)
   ·exact .inr (.inl ⟨p,i,lo,e1,e2,h2⟩)
 have hin:∀ b o,AY w0.heap.size F0 (F3 G s zs) b o->b<w.heap.size->(b<w.heap.size∧AY w0.heap.size F0 G b o∧¬ ZF (G s) b o)∨ZF zs b o:=by
  intro b o hf hlt
  rcases hforb b o hf with h1 | ⟨p,i,lo,e1,e2,e3⟩ | h1
  ·exact .inl ⟨hlt,.inl h1,fun hz=>h.below.free _ _ _ (hE b o h1.1 hz) h1.2⟩
  ·exact .inl ⟨hlt,.inr ⟨p,i,lo,e2,e3⟩,fun ⟨j,lo',f1,_⟩=>hne p i b lo e1 e2 j lo' f1⟩
  ·exact .inr h1
 have hall:∀ b o,AY w0.heap.size F0 (F3 G s zs) b o->(b<w.heap.size∧AY w0.heap.size F0 G b o∧¬ ZF (G s) b o)∨ZF zs b o:=by
  intro b o hf
  rcases Nat.lt_or_ge b w.heap.size with hlt | hge
  ·exact hin b o hf hlt
  ·rcases hforb b o hf with h1 | ⟨p,i,lo,_,e2,_⟩ | h1
   ·have:=h.below.size; omega
   ·have:=(h.lt _ _ _ _ e2).1; omega
   ·exact .inr h1
 have hag:DK w w' (AY w0.heap.size F0 G) (AY w0.heap.size F0 (F3 G s zs)):=by
  intro b o u hc hF
  have hlt:b<w.heap.size:=World.block_lt_of_cell? w ⟨b,o,none⟩ hc
  have hnz:¬ ZF (G s) b o:=fun ⟨i,lo,h1,h2⟩=>hF (.inr ⟨s,i,lo,h1,h2⟩)
  refine ⟨hb.cell b o u hnz hc,fun hF'=>?_⟩
  rcases hin b o hF' hlt with ⟨_,h1,_⟩ | ⟨i,lo,h1,h2⟩
  ·exact hF h1
  ·rcases (hz i b lo h1).2 with h3 | ⟨j,lo',h3,h4⟩
   ·omega
   ·exact hnz ⟨j,lo',h3,Nat.le_trans h4 h2⟩
 refine ⟨⟨?_,?_,?_,h.defers,?_,?_,?_⟩,hin⟩
 ·intro p i p' i' b lo lo' e1 e2
  have mix:∀ p i i' lo lo',p≠s->G p i=some (b,lo)->zs i'=some (b,lo')->False:=by
   intro p i i' lo lo' hp f1 f2
   rcases (hz i' b lo' f2).2 with h3 | ⟨j,lo2,h3,_⟩
   ·have:=(h.lt _ _ _ _ f1).1; omega
   ·exact hne p i b lo hp f1 j lo2 h3
  rcases hG' _ _ _ _ e1 with ⟨rfl,f1⟩ | ⟨n1,f1⟩ <;> rcases hG' _ _ _ _ e2 with ⟨rfl,f2⟩ | ⟨n2,f2⟩
  ·exact ⟨rfl,hzu _ _ _ _ _ f1 f2⟩
  ·exact (mix _ _ _ _ _ n2 f2 f1).elim
  ·exact (mix _ _ _ _ _ n1 f1 f2).elim
  ·exact h.uniq _ _ _ _ _ _ _ f1 f2
 ·intro p i b lo e1
  rcases hG' _ _ _ _ e1 with ⟨rfl,f1⟩ | ⟨n1,f1⟩
  ·obtain ⟨h1,h2⟩:=hz i b lo f1
   refine ⟨h1,?_⟩
   rcases h2 with h2 | ⟨j,lo',h2,h3⟩
   ·exact .inl (Nat.le_trans h.below.size h2)
   ·exact (h.lt _ _ _ _ h2).2.imp id (fun e o ho=>e o (Nat.le_trans h3 ho))
  ·exact ⟨Nat.lt_of_lt_of_le (h.lt _ _ _ _ f1).1 hb.size,(h.lt _ _ _ _ f1).2⟩
 ·refine h.below.trans hb.os hb.tape hb.output hb.size (fun k hk he=>hb.block k (Nat.lt_of_lt_of_le hk h.below.size) (fun i lo hz'=>he lo (hE k lo hk ⟨i,lo,hz',Nat.le_refl _⟩))) (fun b o u hlt he hu=>hb.cell b o u (fun hz'=>he (hE b o hlt hz')) hu)
 ·intro p hp
  rw [AC.get_cons,if_neg (by omega)]; exact h.dom p hp
 ·intro p hp
  rw [AC.get_cons]
  by_cases hps:s=p
  ·subst hps
   rw [if_pos rfl]
   obtain ⟨b,c,T,h1,h2,h3,h4,h5⟩:=hbox
   simp only [AS]
   refine ⟨b,c,T,h1,h2,h3,by rw [B0]; exact h4,fun i d hd=>?_⟩
   obtain ⟨x,e1,e2⟩:=h5 i d hd
   refine ⟨x,e1,?_⟩
   rw [B0]
   exact e2.kept (fun b o u hc hf=>⟨hc,fun hf'=>hf (hall b o hf')⟩) (fun _ _ _=>rfl)
  ·rw [if_neg hps]
   refine AS.kept hag (fun i=>by rw [BR _ _ _ _ (fun e=>hps e.symm)]) (fun i b lo hz'=>hb.block b (h.lt _ _ _ _ hz').1 (hne p i b lo (fun e=>hps e.symm) hz')) (fun r off _ ⟨cs2,hcs⟩=>?_) (fun r i hr ⟨pp,hpp⟩=>?_) (h.slots p hp)
   ·rw [AC.get_cons] at hcs
    split at hcs
    ·rename_i e; subst e; exact ⟨⟨cs,hs⟩,rfl⟩
    ·exact ⟨⟨_,hcs⟩,rfl⟩
   ·by_cases hsr:s=r
    ·subst hsr
     cases i with
     | none=>
      obtain ⟨n,es⟩:=pp
      have:=AC.xat_none hpp
      rw [AC.get_cons,if_pos rfl] at this
      cases this
     | some k=>
      have h5:=AC.noX_spec hno p k (.inl rfl)
      rcases hr with hr | ⟨c,hr⟩
      ·exact absurd hr h5.1
      ·exact absurd hr (h5.2 c)
    ·rw [AC.xat_cons hsr] at hpp
     exact ⟨⟨pp,hpp⟩,h.xv ⟨pp,hpp⟩ rfl (fun b hb'=>hb.block b (h.lt _ _ _ _ hb').1 (hne r none b 0 (fun e=>hsr e.symm) hb'))⟩
 ·intro p
  rw [AC.get_cons]
  split
  ·exact hw
  ·exact h.wf p
theorem XI (hI:AT F0 w0 env a w G) (hd:d<a.tmps.size) (hdst:o.dst=some d) {f:FuncId} {xs:Array Operand} {ys:List AJ} {ats:Array TypeId} {i:Nat} (hop:o.op=.call { callee:=.value (.func f),args:=xs,argTypes:=ats }) (hok:C5 xs.toList ys=true) (h:(AH.callb f ys i).wp (AR P) env (some d) K)
  {next:Act->World->Prop} {Q:Exit->Act->World->Prop} (hn:∀ e env' a' w',K e env'->O1 a d a'->C2 F0 w0 ((d,e)::env') a' w'->next a' w'):o.wp P a w next Q:=by
 simp only [AH.wp] at h
 split at h
 ·rename_i d' s hdd hp
  simp only [zzY] at hdd
  subst hdd
  split at h
  ·rename_i cs hs
   obtain ⟨⟨hno,hds⟩,h⟩:=h
   cases hts:Mj env i ys with
   | none=>rw [hts] at h; exact h.elim
   | some ts=>
    rw [hts] at h
    simp only [A6] at h
    obtain ⟨cs',us,hS,hK⟩:=h
    rw [Option.bind_eq_some_iff] at hp
    obtain ⟨y,hy,hp⟩:=hp
    have hxi:∀ (xs:List Operand) (ys:List AJ) (i:Nat) (y:AJ),C5 xs ys=true->ys[i]?=some y->∃ x,xs[i]?=some x∧AP x y=true:=by
     intro xs
     induction xs with
     | nil=>intro ys i y h1 h2; cases ys <;> simp [C5] at h1 h2
     | cons x xs ih=>
      intro ys i y h1 h2
      cases ys with
      | nil=>simp [C5] at h1
      | cons z ys=>
       simp only [C5,zzZ] at h1
       cases i with
       | zero=>simp at h2; subst h2; exact ⟨x,rfl,h1.1⟩
       | succ i=>exact ih ys i y h1.2 (by simpa using h2)
    obtain ⟨x,hx,hxy⟩:=hxi _ _ _ _ hok hy
    obtain ⟨b,hsl,hadr⟩:=JO hI hxy hp hs
    have hv:=Si hI hok hts (fun x' hx'=>by rw [hx] at hx'; cases hx'; rw [hadr]; rfl)
    have hwc:=hI.wf s
    rw [hs] at hwc
    have hbx:=A4 hI hs (by simp)
    have hsplit:∀ b o,AY w0.heap.size F0 G b o↔((AY w0.heap.size F0 G b o∧¬ ZF (G s) b o)∨ZF (G s) b o):=by
     intro b o
     constructor
     ·intro hf
      by_cases hz:ZF (G s) b o
      ·exact .inr hz
      ·exact .inl ⟨hf,hz⟩
     ·rintro (hf | ⟨i,lo,h1,h2⟩)
      ·exact hf.1
      ·exact .inr ⟨s,i,lo,h1,h2⟩
    have hF:(fun b o=>(AY w0.heap.size F0 G b o∧¬ ZF (G s) b o)∨ZF (G s) b o)=AY w0.heap.size F0 G:=by
     funext b o; exact propext (hsplit b o).symm
    obtain ⟨h2,h3⟩:=hS hv.2 hwc
    have hbr:M2 w (fun b o=>(AY w0.heap.size F0 G b o∧¬ ZF (G s) b o)∨ZF (G s) b o) (G s) cs (slot a s):=by
     rw [hF]; exact hbx
    obtain ⟨⟨k1,k2⟩,k3⟩:=h3 (fun b o=>AY w0.heap.size F0 G b o∧¬ ZF (G s) b o) w (xs.map a.eval) (slot a s) (G s) (by rw [hF]; simpa using hv.1)
     (by rw [Array.getElem?_map]; rw [←Array.getElem?_toList,hx]; simp only [Option.map_some]; rw [hadr,hsl]) hbr (fun i i' b lo lo' e1 e2=>(hI.uniq _ _ _ _ _ _ _ e1 e2).2) (fun i b lo e=>(hI.lt _ _ _ _ e).1)
     (by
      rintro b o o' ⟨i,lo,e1,e2⟩ ⟨hf,hnz⟩
      by_cases hlo:lo<=o'
      ·exact hnz ⟨i,lo,e1,hlo⟩
      ·exact NJ hI b lo o' e1 (by omega) hf)
    have hrun:(execOp a.eval o).run P w=(callFunc f (xs.map a.eval)).run P w:=by simp [execOp,hop,resolve,Act.eval,Deferred.ofValue,invoke]
    unfold Oper.wp
    rw [hrun,H7 h2 _,Oper.upon_enter]
    refine k3.mono ?_
    rintro e w' ⟨r,zs',rfl,r1,r2,r3,r4,r5⟩
    simp only [hdst]
    obtain ⟨hI',hf'⟩:=hI.reboxed hs hno r1 r2 r3 r4 k1
    refine hn _ _ _ _ (hK ⟨k1,k2⟩) ⟨_,rfl⟩ ?_
    have hall:∀ b o,AY w0.heap.size F0 (F3 (F3 G s zs') d fun _=>none) b o->(b<w.heap.size∧AY w0.heap.size F0 G b o∧¬ ZF (G s) b o)∨ZF zs' b o:=by
     intro b o hf
     have hf2:AY w0.heap.size F0 (F3 G s zs') b o:=AY.mono (fun p i b lo hp=>by
      by_cases hpd:p=d
      ·subst hpd; rw [B0] at hp; cases hp
      ·rw [BR _ _ _ _ hpd] at hp; exact ⟨p,i,lo,hp,Nat.le_refl _⟩) hf
     rcases Nat.lt_or_ge b w.heap.size with hlt | hge
     ·exact hf' b o hf2 hlt
     ·rcases hf2 with ⟨h1,_⟩ | ⟨p,i,lo,h1,h2⟩
      ·have:=hI.below.size; omega
      ·by_cases hps:p=s
       ·subst hps; rw [B0] at h1; exact .inr ⟨i,lo,h1,h2⟩
       ·rw [BR _ _ _ _ hps] at h1
        have:=(hI.lt _ _ _ _ h1).1; omega
    have hmono:DK w' w' (fun b o=>(b<w.heap.size∧AY w0.heap.size F0 G b o∧¬ ZF (G s) b o)∨ZF zs' b o) (AY w0.heap.size F0 (F3 (F3 G s zs') d fun _=>none)):=fun b o u hc hf=>⟨hc,fun hf'=>hf (hall b o hf')⟩
    by_cases hus:∃ t,us=[t]
    ·obtain ⟨t,rfl⟩:=hus
     exact hI'.tv (Below.refl _ _) d hd t r (C1 hmono t r r5) k2.1
    ·have hof:EV.ofs us=.tp us:=by
      rcases us with _ | ⟨t,_ | ⟨t',us⟩⟩
      ·rfl
      ·exact absurd ⟨t,rfl⟩ hus
      ·rfl
     have hur:∃ vs,r=.tuple vs∧AQ w' (fun b o=>(b<w.heap.size∧AY w0.heap.size F0 G b o∧¬ ZF (G s) b o)∨ZF zs' b o) us vs.toList:=by
      rcases us with _ | ⟨t,_ | ⟨t',us⟩⟩
      ·exact r5
      ·exact absurd ⟨t,rfl⟩ hus
      ·exact r5
     obtain ⟨vs,rfl,hvs⟩:=hur
     rw [hof]
     refine ⟨_,hI'.quiet (Below.refl _ _) d hd (.tp us) _ (fun _=>none) (by simp) (by simp) (by simp) ?_ k2⟩
     simp only [AS]
     exact ⟨vs,rfl,BI hmono us _ hvs⟩
  ·exact h.elim
 ·exact h.elim
end
end Go.Sf
