/- Steps of operations that lead through memory. -/
import Derived.Test.YtmaobfbhdkafkaaGreatSfOps3
namespace Go.Sf
open Go.RowKit (Below)
section
variable {P:Program} {S:FuncId->List TV->B5->Prop} {F0:Nat->Nat->Prop} {w0:W0} {env:AC} {a:Act} {w:World} {G:C0} {d:Nat} {o:Oper} {K:EV->AC->Prop}
theorem RP (hI:AQ F0 w0 env a w G) {s:Nat} {i:Option Nat} {c:AT} {x:Value} (h:CF w (AV w0.heap.size F0 G) (G s i) c x):A1 w (AV w0.heap.size F0 G) c.t x:=by
 obtain ⟨_ | _,t⟩:=c
 ·exact h.1
 ·exact IG.rep h (fun b lo o hz ho=>Nn hI b lo o hz ho)
theorem Q2 {F:Nat->Nat->Prop} {z:Option (Nat × Nat)} {t:TV} {x:Value} (h:CC w F z t x):x.oneCell'=true:=by
 cases t <;> simp only [CC] at h
 obtain ⟨xs,h1,_⟩:=h
 rcases h1.2 with ⟨rfl,_⟩ | ⟨g,cap,cur,e,rfl,_⟩ <;> rfl
theorem Ra {F:Nat->Nat->Prop} {z:Option (Nat × Nat)} {t:TV} {x:Value} (h:IG w F z t x):x.oneCell'=true:=by
 by_cases hx:∃ n es,t=.xl n es
 ·obtain ⟨n,es,rfl⟩:=hx
  simp only [IG,KE] at h
  obtain ⟨xs,⟨z0,h1,_⟩,_⟩:=h
  rcases h1.2 with ⟨rfl,_⟩ | ⟨g,cap,cur,e,rfl,_⟩ <;> rfl
 ·refine Q2 (w:=w) (F:=F) (z:=z) (t:=t) ?_
  cases t <;> first | exact h | exact absurd ⟨_,_,rfl⟩ hx
theorem LG {F:Nat->Nat->Prop} {z:Option (Nat × Nat)} {c:AT} {x:Value} (h:CF w F z c x):x.oneCell'=true:=by
 obtain ⟨_ | _,t⟩:=c
 ·exact h.2
 ·exact Ra h
theorem Nx (hI:AQ F0 w0 env a w G) {x:Operand} {y:AE} (hok:AK x y=true) {cs:List TV} (hc:BJ env (y.ev env)=some cs) :
  ∃ b o vs,a.eval x=.pointer (some ⟨b,o,none⟩)∧AM w (AV w0.heap.size F0 G) cs vs∧TV.WFs cs∧(∀ x∈vs,x.oneCell'=true)∧∀ (j:Nat) (v:Value),vs[j]?=some v->w.cell? ((⟨b,o,none⟩:Addr).add j)=some v:=by
 have box:∀ (s off:Nat) (ds:List AT),env.get s=.bx ds->∃ b vs,slot a s=.pointer (some ⟨b,0,none⟩)∧AM w (AV w0.heap.size F0 G) ((ds.drop off).map (·.t)) vs∧TV.WFs ((ds.drop off).map (·.t))∧(∀ x∈vs,x.oneCell'=true)∧∀ (j:Nat) (v:Value),vs[j]?=some v->w.cell? ((⟨b,off,none⟩:Addr).add j)=some v:=by
  intro s off ds hs
  have hr:=At hI hs (by simp)
  have hw:=hI.wf s
  rw [hs] at hw
  simp only [AP] at hr
  obtain ⟨b,c,T,h1,h2,h3,h4,h5⟩:=hr
  refine ⟨b,c.toList.drop off,h1,?_,?_,?_,?_⟩
  ·rw [B1]
   refine ⟨by simp [h3],fun i t v ht hv=>?_⟩
   simp only [List.getElem?_map,List.getElem?_drop,Option.map_eq_some_iff] at ht hv
   obtain ⟨cell,hcell,rfl⟩:=ht
   obtain ⟨x,hx,hr⟩:=h5 (off+i) cell hcell
   have:x=v:=by
    have:c.toList[off+i]?=some x:=by simpa using hx
    rw [this] at hv; simpa using hv
   subst this
   exact RP hI hr
  ·rw [B4]
   intro t ht
   simp only [List.mem_map] at ht
   obtain ⟨cell,hcell,rfl⟩:=ht
   exact hw cell (List.mem_of_mem_drop hcell)
  ·intro x hx
   obtain ⟨i,hi,rfl⟩:=List.getElem_of_mem hx
   rw [List.getElem_drop]
   have hlt:off+i<c.size:=by simp at hi; omega
   have hds:ds[off+i]?=some (ds[off+i]'(by omega)):=List.getElem?_eq_getElem (by omega)
   obtain ⟨x,hx,hr⟩:=h5 (off+i) _ hds
   have:c.toList[off+i]'(by simpa using hlt)=x:=by
    have:c[off+i]?=some c[off+i]:=Array.getElem?_eq_getElem hlt
    rw [this] at hx
    simpa using hx
   rw [this]
   exact LG hr
  ·intro j v hv
   rw [List.getElem?_drop] at hv
   rw [Addr.add_lit,cell_of_row w b (off+j) c T (0,0) h2]
   simpa using hv
 cases y with
 | c t=>
  simp only [AE.ev] at hc
  cases t <;> simp [BJ] at hc
  subst hc
  have:=A9 hI hok (t:=.pt _) rfl
  simp only [A1,TV.WF] at this
  obtain ⟨⟨b,o,h1,h2⟩,h3⟩:=this
  obtain ⟨vs,h4,h6,h5⟩:=Px h2
  exact ⟨b,o,vs,h1,h4,h3,h6,h5⟩
 | s n=>
  cases x <;> simp [AK] at hok
  subst hok
  rename_i n
  simp only [AE.ev] at hc
  cases he:env.get n with
  | tv t=>
   rw [he] at hc
   cases t <;> simp [BJ] at hc
   subst hc
   have hr:=At hI he (by simp)
   have hw:=hI.wf n
   rw [he] at hw
   simp only [AP,A1] at hr
   obtain ⟨b,o,h1,h2⟩:=hr
   obtain ⟨vs,h4,h6,h5⟩:=Px h2
   exact ⟨b,o,vs,h1,h4,by simpa [EV.WF,TV.WF] using hw,h6,h5⟩
  | bx ds=>
   rw [he] at hc
   simp only [BJ,zzY] at hc
   subst hc
   obtain ⟨b,vs,h1,h2,h3,h7,h4⟩:=box n 0 ds he
   exact ⟨b,0,vs,h1,by simpa using h2,by simpa using h3,h7,h4⟩
  | bp q off=>
   rw [he] at hc
   simp only [BJ] at hc
   split at hc
   ·rename_i ds hq
    simp only [zzY] at hc
    subst hc
    obtain ⟨b,vs,h1,h2,h3,h7,h4⟩:=box q off ds hq
    have hr:=At hI he (by simp)
    simp only [AP] at hr
    obtain ⟨b',h5,h6⟩:=hr ⟨ds,hq⟩
    rw [h1] at h5
    simp only [Value.pointer.injEq,zzY,Addr.mk.injEq,and_true,and_self] at h5
    subst h5
    exact ⟨b,off,vs,h6,h2,h3,h7,h4⟩
   ·cases hc
  | undef=>rw [he] at hc; simp [BJ] at hc
  | sk=>rw [he] at hc; simp [BJ] at hc
  | xo n es=>rw [he] at hc; simp [BJ] at hc
  | la q i=>rw [he] at hc; simp [BJ] at hc
  | oag cs=>rw [he] at hc; simp [BJ] at hc
  | lp q i c=>rw [he] at hc; simp [BJ] at hc
  | ow t=>rw [he] at hc; simp [BJ] at hc
  | tp ts=>rw [he] at hc; simp [BJ] at hc
theorem dg (hI:AQ F0 w0 env a w G) (hd:d<a.tmps.size) {x:Operand} {y:AE} {t:TypeId} (hop:o.op=.load t x) (hok:AK x y=true) (ht:C9 P t=some false) (h:(AD.ld y).wp S env (some d) K):BG P F0 w0 a w o d K:=by
 simp only [AD.wp] at h
 cases hc:BJ env (y.ev env) with
 | none=>rw [hc] at h; exact h.elim
 | some cs=>
  rw [hc] at h
  simp only [A0] at h
  obtain ⟨b,off,vs,h1,h2,h3,_,h4⟩:=Nx hI hok hc
  cases cs with
  | nil=>simp [G6] at h
  | cons u r=>
   simp only [G6] at h
   replace h:=h.2
   simp only [AM] at h2
   obtain ⟨v,r',rfl,h5,h6⟩:=h2
   have h7:=h4 0 v rfl
   rw [Addr.add_zero'] at h7
   refine C6 hI hd (v:=v) ?_ h5 h3.1 h
   simp [execOp,hop,h1,Instr.loadAt,Instr.sureAddr,loadVar,EL ht,h7]
theorem ag (hI:AQ F0 w0 env a w G) (hd:d<a.tmps.size) {x:Operand} {y:AE} {t:TypeId} {n:Nat} (hop:o.op=.load t x) (hok:AK x y=true) (ht:C9 P t=some true) (hn:EO P t=some n) (h:(AD.lda y n).wp S env (some d) K):BG P F0 w0 a w o d K:=by
 simp only [AD.wp] at h
 cases hc:BJ env (y.ev env) with
 | none=>rw [hc] at h; exact h.elim
 | some cs=>
  rw [hc] at h
  simp only [A0] at h
  obtain ⟨b,off,vs,h1,h2,h3,h1c,h4⟩:=Nx hI hok hc
  have hl:=BX h2
  have hrun:=run_loadCells_list (P:=P) w ⟨b,off,none⟩ (vs.take n) (fun j v hv=>h4 j v (by rw [List.getElem?_take] at hv; split at hv <;> simp_all))
  rw [List.length_take,Nat.min_eq_left (by omega)] at hrun
  refine C6 hI hd (v:=.agg (vs.take n).toArray) (t:=.agg (cs.take n)) ?_ ?_ ?_ h.2
  ·simp [execOp,hop,h1,Instr.loadAt,Instr.sureAddr,loadVar,EL ht,DD hn,hrun]
  ·simp only [A1]
   refine ⟨_,rfl,?_,by rw [List.all_eq_true]; exact fun x hx=>h1c x (List.mem_of_mem_take hx)⟩
   rw [B1] at h2 ⊢
   refine ⟨by simp [hl],fun i t v hi hv=>?_⟩
   simp only [List.getElem?_take] at hi hv
   split at hi
   ·rename_i hlt
    rw [if_pos hlt] at hv
    exact h2.2 i t v hi hv
   ·cases hi
  ·simp only [TV.WF]
   rw [B4] at h3 ⊢
   exact fun t ht=>h3 t (List.mem_of_mem_take ht)
theorem ac (hI:AQ F0 w0 env a w G) (hd:d<a.tmps.size) {x i:Operand} {y j:AE} {t:TypeId} {n:Nat} (hop:o.op=.indexAddr t x i) (hok:AK x y=true) (hok':AK i j=true) (ht:KV P t=some n) (h:(AD.iad y j n).wp S env (some d) K):BG P F0 w0 a w o d K:=by
 simp only [AD.wp] at h
 split at h
 ·rename_i m es k jj hx hj
  obtain ⟨rfl,h0,e,he,hK⟩:=h
  have h1:=A9 hI hok hx
  have h2:=A9 hI hok' hj
  simp only [A1] at h2
  obtain ⟨p,hr,hp⟩:=XO (P:=P) (k:=k) ht h1.1 h0 he
  refine C6 hI hd (v:=p) (by simp [execOp,hop,h2.1,hr]) hp ?_ hK
  simp only [TV.WF] at h1 ⊢
  have:=B4.1 h1.2.2 e (List.mem_of_getElem? he)
  exact JZ this
 ·exact h.elim
theorem ZB (hI:AQ F0 w0 env a w G) (hd:d<a.tmps.size) {x i:Operand} {y j:AE} {t:TypeId} (hop:o.op=.index t x i) (hok:AK x y=true) (hok':AK i j=true) (ht:P.underlying t=some .string) (h:(AD.sidx y j).wp S env (some d) K):BG P F0 w0 a w o d K:=by
 simp only [AD.wp] at h
 split at h
 ·rename_i s k jj hx hj
  obtain ⟨h0,b,hb,hK⟩:=h
  have h1:=A9 hI hok hx
  have h2:=A9 hI hok' hj
  simp only [A1] at h1 h2
  refine C6 hI hd (v:=.int .u8 b.toNat) (t:=.int .u8 b.toNat) ?_ rfl ⟨by simp [IntKind.min,IntKind.signed],?_⟩ hK
  ·simp [execOp,hop,h1.1,h2.1,Instr.index,asIntOf,run_underlying ht,h0,hb]
  ·have:=b.toNat_lt
   simp [IntKind.max,IntKind.signed,IntKind.bits]; omega
 ·exact h.elim
theorem V3 {x:Operand} {t:TypeId} {f k:Nat} (hop:o.op=.fieldAddr t x f) (ht:Ni P t f=some k):∀ b off,a.eval x=.pointer (some ⟨b,off,none⟩)->(execOp a.eval o).run P w=.ok (.value (.pointer (some ⟨b,off+k,none⟩))) w:=by
 intro b off h
 simp [execOp,hop,h,Qp ht]
theorem NZ {x:Operand} (hop:o.op=.move x∨o.op=.assign x∨o.op=.nilCheck x):∀ b off,a.eval x=.pointer (some ⟨b,off,none⟩)->(execOp a.eval o).run P w=.ok (.value (.pointer (some ⟨b,off+0,none⟩))) w:=by
 intro b off h
 rcases hop with hop | hop | hop <;> simp [execOp,hop,h]
theorem P1 (hI:AQ F0 w0 env a w G) (hd:d<a.tmps.size) {x:Operand} {y:AE} {k:Nat} (hrun:∀ b off,a.eval x=.pointer (some ⟨b,off,none⟩)->(execOp a.eval o).run P w=.ok (.value (.pointer (some ⟨b,off+k,none⟩))) w) (hok:AK x y=true) (h:(AD.fad y k).wp S env (some d) K):BG P F0 w0 a w o d K:=by
 simp only [AD.wp] at h
 split at h
 ·rename_i row he
  have h1:=SH hI hok he
  simp only [A1,TV.WF] at h1
  obtain ⟨⟨b,off,h2,h3⟩,h4⟩:=h1
  refine C6 hI hd (v:=.pointer (some ⟨b,off+k,none⟩)) (t:=.pt (row.drop k)) (hrun _ _ h2) ?_ ?_ h
  ·simp only [A1]
   exact ⟨b,_,rfl,Mn h3 k⟩
  ·simp only [TV.WF]
   rw [B4] at h4 ⊢
   exact fun t ht=>h4 t (List.mem_of_mem_drop ht)
 ·rename_i q off he
  cases y with
  | c t=>simp [AE.ev] at he
  | s n=>
   cases x <;> simp [AK] at hok
   subst hok
   rename_i n
   simp only [AE.ev] at he
   have hr:=At hI he (by simp)
   simp only [AP] at hr
   split at h
   ·rename_i cs0 hq
    obtain ⟨b,h5,h6⟩:=hr ⟨cs0,hq⟩
    refine ⟨.pointer (some ⟨b,off+k,none⟩),w,hrun _ _ h6,_,_,h,_,hI.quiet (Below.refl _ _) d hd (.bp q (off+k)) _ (fun _=>none) (by simp) (by simp) (by simp) ?_ trivial⟩
    simp only [AP]
    rintro ⟨cs,hcs⟩
    rw [AC.get_cons] at hcs
    by_cases hdq:d=q
    ·rw [if_pos hdq] at hcs; cases hcs
    ·exact ⟨b,by rw [A5 _ _ _ _ hdq]; exact h5,rfl⟩
   ·exact h.elim
 ·exact h.elim
theorem Ns (hI:AQ F0 w0 env a w G) (hd:d<a.tmps.size) {s:Nat} {k:Nat} (hrun:∀ b off,a.eval (.tmp s)=.pointer (some ⟨b,off,none⟩)->(execOp a.eval o).run P w=.ok (.value (.pointer (some ⟨b,off+k,none⟩))) w) (h:(AD.bad s k).wp S env (some d) K):BG P F0 w0 a w o d K:=by
 simp only [AD.wp] at h
 split at h
 ·rename_i cs he
  have hr:=At hI he (by simp)
  simp only [AP] at hr
  obtain ⟨b,c,T,h1,_⟩:=hr
  refine ⟨.pointer (some ⟨b,0+k,none⟩),w,hrun _ _ h1,_,_,h,_,hI.quiet (Below.refl _ _) d hd (.bp s k) _ (fun _=>none) (by simp) (by simp) (by simp) ?_ trivial⟩
  simp only [AP]
  rintro ⟨cs',hcs⟩
  rw [AC.get_cons] at hcs
  by_cases hdq:d=s
  ·rw [if_pos hdq] at hcs; cases hcs
  ·exact ⟨b,by rw [A5 _ _ _ _ hdq]; exact h1,by simp⟩
 ·rename_i row he
  have h1:=SH hI (x:=.tmp s) (y:=.s s) (by simp [AK]) he
  simp only [A1,TV.WF] at h1
  obtain ⟨⟨b,off,h2,h3⟩,h4⟩:=h1
  refine C6 hI hd (v:=.pointer (some ⟨b,off+k,none⟩)) (t:=.pt (row.drop k)) (hrun _ _ h2) ?_ ?_ h
  ·simp only [A1]
   exact ⟨b,_,rfl,Mn h3 k⟩
  ·simp only [TV.WF]
   rw [B4] at h4 ⊢
   exact fun t ht=>h4 t (List.mem_of_mem_drop ht)
 ·exact h.elim
theorem aQ (hI:AQ F0 w0 env a w G) (hd:d<a.tmps.size) {x i:Operand} {y j:AE} {t e:TypeId} {n k:Nat} (hop:o.op=.indexAddr t x i) (hok:AK x y=true) (hok':AK i j=true) (ht:P.underlying t=some (.array k e)) (hn:EO P e=some n)
  (h:(AD.aad y j n k).wp S env (some d) K):BG P F0 w0 a w o d K:=by
 simp only [AD.wp] at h
 split at h
 ·rename_i row kk jj hx hj
  obtain ⟨h0,h1,h2,hK⟩:=h
  have h3:=(A9 hI hok' hj).1
  simp only [A1] at h3
  have hp:∃ b off,a.eval x=.pointer (some ⟨b,off,none⟩)∧DR w (AV w0.heap.size F0 G) row b off∧TV.WFs row:=by
   have:=SH hI hok hx
   simp only [A1,TV.WF] at this
   obtain ⟨⟨b,o,h1,h2⟩,h3⟩:=this
   exact ⟨b,o,h1,h2,h3⟩
  obtain ⟨b,off,h4,h5,h6⟩:=hp
  have hj:0<=jj∧jj<(k:Int):=⟨h0,h1⟩
  refine C6 hI hd (v:=.pointer (some ⟨b,off+jj.toNat*n,none⟩)) (t:=.pt (row.drop (jj.toNat*n))) ?_ ?_ ?_ hK
  ·simp [execOp,hop,h3,h4,Instr.indexAt,asIntOf,run_underlying ht,hj,Instr.sureAddr,DD hn,Addr.add_lit]
  ·simp only [A1]
   exact ⟨b,_,rfl,Mn h5 _⟩
  ·simp only [TV.WF]
   rw [B4] at h6 ⊢
   exact fun t ht=>h6 t (List.mem_of_mem_drop ht)
 ·exact h.elim
def W9 (P:Program) (t:TypeId) (j:Operand) (k:Nat):Bool:=
 match j,P.underlying t with
 | .const (.int _ i),some (.array m e)=>decide (0<=i)&&decide (i<(m:Int))&&(match EO P e with
  | some n=>i.toNat*n==k
  | none=>false)
 | _,_=>false
theorem cD {P:Program} {o:Oper} {a:Act} {w:World} {t:TypeId} {s:Nat} {j:Operand} {k:Nat} (hop:o.op=.indexAddr t (.tmp s) j) (hok:W9 P t j k=true) (b off:Nat) (h:a.eval (.tmp s)=.pointer (some ⟨b,off,none⟩)):(execOp a.eval o).run P w=.ok (.value (.pointer (some ⟨b,off+k,none⟩))) w:=by
 unfold W9 at hok
 split at hok
 ·rename_i kk i m e ht
  simp only [zzZ,zzX] at hok
  obtain ⟨⟨h0,h1⟩,h2⟩:=hok
  split at h2
  ·rename_i n hn
   simp only [beq_iff_eq] at h2
   subst h2
   have hj:0<=i∧i<(m:Int):=⟨h0,h1⟩
   have hc:a.eval (.const (.int kk i))=.int kk i:=rfl
   simp [execOp,hop,h,hc,Instr.indexAt,asIntOf,run_underlying ht,hj,Instr.sureAddr,DD hn,Addr.add_lit]
  ·cases h2
 ·cases hok
def QY (g:TypeId->Option (List Nat)) (P:Program):List Field->Nat->Option (List Nat)
 | [],_=>some []
 | f::fs,off=>match g f.type with
  | some ks => if (f.name ≠ "_" ∧ f.offset = off) ∧ EO P f.type = some ks.length then (match QY g P fs (off + ks.length) with | some r => some (ks ++ r) | none => none) else none
  | none=>none
def NN (P:Program):Nat->TypeId->Option (List Nat)
 | 0,_=>none
 | k+1,t=>match P.underlying t with
  | some (.int _)=>some [0]
  | some .string=>some [1]
  | some .bool=>some [2]
  | some (.struct fs)=>if P.stoodInHeld t then none else QY (NN P k) P fs.toList 0
  | _=>none
def Ph (P:Program):BK->TypeId->Bool
 | .i,_=>true
 | .s,_=>true
 | .w,_=>true
 | .b,t=>match P.underlying t with | some .bool=>true | _=>false
 | .a n,t=>C9 P t==some true&&!P.eqGuardType P.depth t&&NN P 8 t==some n
def TV.leafV:TV->Value
 | .int k n=>.int k n
 | .str s=>.string s
 | .bool b=>.bool b
 | _=>Go.undef
def TV.leafB:TV->Bool
 | .int _ _=>true
 | .str _=>true
 | .bool _=>true
 | _=>false
theorem OU:∀ {cs ds:List TV} {r:Bool},B7 cs ds=some r->cs.length=ds.length∧(∀ t∈cs,t.leafB=true)∧(∀ t∈ds,t.leafB=true)
 | [],[],_,_=>by simp
 | [],_::_,_,h=>by simp [B7] at h
 | c::cs,[],_,h=>by cases c <;> simp [B7] at h
 | c::cs,d::ds,r,h=>by
  have key:∀ r',B7 cs ds=some r'->c.leafB=true->d.leafB=true->(c::cs).length=(d::ds).length∧(∀ t∈c::cs,t.leafB=true)∧(∀ t∈d::ds,t.leafB=true):=by
   intro r' hq h1 h2
   obtain ⟨e1,e2,e3⟩:=OU hq
   refine ⟨by simp [e1],?_,?_⟩
   ·intro t ht
    rcases List.mem_cons.1 ht with rfl | ht
    ·exact h1
    ·exact e2 t ht
   ·intro t ht
    rcases List.mem_cons.1 ht with rfl | ht
    ·exact h2
    ·exact e3 t ht
  cases c <;> cases d <;> simp only [B7,reduceCtorEq] at h
  ·split at h
   ·split at h
    ·rename_i q hq; exact key q hq rfl rfl
    ·cases h
   ·cases h
  ·split at h
   ·rename_i q hq; exact key q hq rfl rfl
   ·cases h
  ·split at h
   ·rename_i q hq; exact key q hq rfl rfl
   ·cases h
theorem aC {F:Nat->Nat->Prop} {t:TV} {v:Value} (hl:t.leafB=true) (h:A1 w F t v):v=t.leafV:=by
 cases t <;> simp only [TV.leafB,reduceCtorEq] at hl <;> exact h
theorem OW {F:Nat->Nat->Prop}:∀ {cs:List TV} {xs:List Value},(∀ t∈cs,t.leafB=true)->AM w F cs xs->xs=cs.map TV.leafV
 | [],_,_,h=>h
 | c::cs,xs,hl,h=>by
  simp only [AM] at h
  obtain ⟨v,r,rfl,h1,h2⟩:=h
  rw [aC (hl c (by simp)) h1,OW (fun t ht=>hl t (by simp [ht])) h2]
  rfl
theorem Ll:∀ (m:Nat) {cs ds:List TV} {r:Bool},B7 cs ds=some r->∃ r1 r2,B7 (cs.take m) (ds.take m)=some r1∧B7 (cs.drop m) (ds.drop m)=some r2∧r=(r1&&r2)
 | 0,cs,ds,r,h=>⟨true,r,by simp [B7],by simpa using h,by simp⟩
 | m+1,[],[],r,h=>by
  simp only [B7,zzY] at h
  subst h
  exact ⟨true,true,by simp [B7],by simp [B7],rfl⟩
 | m+1,[],_::_,_,h=>by simp [B7] at h
 | m+1,c::cs,[],_,h=>by cases c <;> simp [B7] at h
 | m+1,c::cs,d::ds,r,h=>by
  cases c <;> cases d <;> simp only [B7,reduceCtorEq] at h
  ·split at h
   ·rename_i hk
    split at h
    ·rename_i q hq
     obtain ⟨r1,r2,e1,e2,e3⟩:=Ll m hq
     simp only [zzY] at h
     refine ⟨_,r2,by simp only [List.take_succ_cons,B7,if_pos hk,e1]; rfl,by simpa using e2,by rw [←h,e3,Bool.and_assoc]⟩
    ·cases h
   ·cases h
  ·split at h
   ·rename_i q hq
    obtain ⟨r1,r2,e1,e2,e3⟩:=Ll m hq
    simp only [zzY] at h
    refine ⟨_,r2,by simp only [List.take_succ_cons,B7,e1]; rfl,by simpa using e2,by rw [←h,e3,Bool.and_assoc]⟩
   ·cases h
  ·split at h
   ·rename_i q hq
    obtain ⟨r1,r2,e1,e2,e3⟩:=Ll m hq
    simp only [zzY] at h
    refine ⟨_,r2,by simp only [List.take_succ_cons,B7,e1]; rfl,by simpa using e2,by rw [←h,e3,Bool.and_assoc]⟩
   ·cases h
def Kj (P:Program) (t:TypeId) (vs:List Value):Value:=if C9 P t=some true then .agg vs.toArray else vs.headD Go.undef
theorem N2:∀ {cs ds:List TV} {r:Bool},B7 cs ds=some r->ds.map TV.kd=cs.map TV.kd
 | [],[],_,_=>rfl
 | [],_::_,_,h=>by simp [B7] at h
 | c::cs,[],_,h=>by cases c <;> simp [B7] at h
 | c::cs,d::ds,r,h=>by
  cases c <;> cases d <;> simp only [B7,reduceCtorEq] at h
  ·split at h
   ·split at h
    ·rename_i q hq; simp only [List.map_cons,N2 hq,TV.kd]
    ·cases h
   ·cases h
  ·split at h
   ·rename_i q hq; simp only [List.map_cons,N2 hq,TV.kd]
   ·cases h
  ·split at h
   ·rename_i q hq; simp only [List.map_cons,N2 hq,TV.kd]
   ·cases h
theorem S7 (k:Nat) (ih:∀ (t:TypeId) (n:List Nat),NN P k t=some n->∀ d,k<=d->∀ (cs ds:List TV) (r:Bool),cs.map TV.kd=n->B7 cs ds=some r->(Op.equalIn d t (Kj P t (cs.map TV.leafV)) (Kj P t (ds.map TV.leafV))).run P w=.ok r w) :
  ∀ (fs:List Field) (off:Nat) (n:List Nat),QY (NN P k) P fs off=some n->∀ d,k<=d->∀ (pre pre':List Value) (cs ds:List TV) (r:Bool),pre.length=off->pre'.length=off->cs.map TV.kd=n->B7 cs ds=some r ->
   (Op.eqFields d (pre++cs.map TV.leafV).toArray (pre'++ds.map TV.leafV).toArray fs).run P w=.ok r w
 | [],off,n,hf,d,hd,pre,pre',cs,ds,r,h1,h2,h3,h=>by
  simp only [QY,zzY] at hf
  subst hf
  have:cs=[]:=List.map_eq_nil_iff.1 h3
  subst this
  cases ds <;> simp [B7] at h
  subst h
  simp [Op.eqFields]
 | f::fs,off,n,hf,d,hd,pre,pre',cs,ds,r,h1,h2,h3,h=>by
  simp only [QY] at hf
  split at hf
  ·rename_i ks hm
   split at hf
   ·rename_i hc
    split at hf
    ·rename_i rest hrest
     simp only [zzY] at hf
     subst hf
     obtain ⟨⟨hn,ho⟩,hsz⟩:=hc
     have hcl:cs.length=ks.length+rest.length:=by
      have:=congrArg List.length h3
      simpa using this
     obtain ⟨r1,r2,e1,e2,rfl⟩:=Ll ks.length h
     have hlen:=(OU h).1
     have hdl:ds.length=ks.length+rest.length:=by omega
     have hk1:(cs.take ks.length).map TV.kd=ks:=by rw [List.map_take,h3,List.take_left']; rfl
     have hk2:(cs.drop ks.length).map TV.kd=rest:=by rw [List.map_drop,h3,List.drop_left']; rfl
     have hi:=ih f.type ks hm d hd (cs.take ks.length) (ds.take ks.length) r1 hk1 e1
     have hrec:=S7 k ih fs (off+ks.length) rest hrest d hd (pre++(cs.take ks.length).map TV.leafV) (pre'++(ds.take ks.length).map TV.leafV) (cs.drop ks.length) (ds.drop ks.length) r2 (by simp; omega) (by simp; omega) hk2 e2
     have hjoin:∀ (pre:List Value) (cs:List TV),pre++(cs.take ks.length).map TV.leafV++(cs.drop ks.length).map TV.leafV=pre++cs.map TV.leafV:=by
      intro pre cs
      rw [List.append_assoc,←List.map_append,List.take_append_drop]
     rw [hjoin,hjoin] at hrec
     have hpart:∀ (pre:List Value) (cs:List TV),pre.length=off->ks.length<=cs.length->(0<ks.length∨C9 P f.type=some true)->(∃ b,C9 P f.type=some b)->(part f.type (pre++cs.map TV.leafV).toArray f.offset).run P w=.ok (Kj P f.type ((cs.take ks.length).map TV.leafV)) w:=by
      intro pre cs hp hmc hor hb
      obtain ⟨b,hb⟩:=hb
      cases b with
      | true=>
       simp only [part,Sem.run_bind,EL hb,Result.andThen_ok,if_true,DD hsz,Sem.run_pure,Kj,hb]
       congr 2
       rw [List.extract_toArray,List.extract_eq_take_drop,ho,←hp,List.drop_left,Nat.add_sub_cancel_left,←List.map_take]
      | false=>
       have h0:0<ks.length:=by
        rcases hor with h | h
        ·exact h
        ·rw [hb] at h; cases h
       cases cs with
       | nil=>exact absurd (Nat.lt_of_lt_of_le h0 hmc) (by simp)
       | cons c cs=>
        obtain ⟨m',hm'⟩:∃ m',ks.length=m'+1:=⟨ks.length - 1,by omega⟩
        have:((pre++(c::cs).map TV.leafV).toArray)[f.offset]?=some c.leafV:=by
         rw [List.getElem?_toArray,ho,←hp,List.getElem?_append_right (Nat.le_refl _),Nat.sub_self]; rfl
        simp only [part,Sem.run_bind,EL hb,Result.andThen_ok,Bool.false_eq_true,if_false,this,Sem.run_pure,Kj,hb,hm']
        simp
     have hb:(∃ b,C9 P f.type=some b)∧(0<ks.length∨C9 P f.type=some true):=by
      cases k with
      | zero=>simp [NN] at hm
      | succ k=>
       simp only [NN] at hm
       unfold C9
       split at hm <;> rename_i hu
       ·simp only [zzY] at hm; subst hm; rw [hu]; exact ⟨⟨_,rfl⟩,.inl (by simp)⟩
       ·simp only [zzY] at hm; subst hm; rw [hu]; exact ⟨⟨_,rfl⟩,.inl (by simp)⟩
       ·simp only [zzY] at hm; subst hm; rw [hu]; exact ⟨⟨_,rfl⟩,.inl (by simp)⟩
       ·rw [hu]; exact ⟨⟨_,rfl⟩,.inr rfl⟩
       ·cases hm
     have p1:=hpart pre cs h1 (by omega) hb.2 hb.1
     have p2:=hpart pre' ds h2 (by omega) hb.2 hb.1
     simp only [Op.eqFields,Sem.run_bind,Sem.run_ite,if_pos hn,p1,p2,hi,Result.andThen_ok]
     cases r1 with
     | true=>simpa using hrec
     | false=>simp
    ·cases hf
   ·cases hf
  ·cases hf
theorem X4 (a b:ByteArray):(a.toList==b.toList)=decide (a=b):=by
 rw [Bool.eq_iff_iff,beq_iff_eq,zzX]
 refine ⟨fun h=>?_,fun h=>by rw [h]⟩
 rw [ByteArray.toList_eq,ByteArray.toList_eq] at h
 cases a; cases b
 simpa using h
theorem V1:∀ (k:Nat) (t:TypeId) (n:List Nat),NN P k t=some n->∀ d,k<=d->∀ (cs ds:List TV) (r:Bool),cs.map TV.kd=n->B7 cs ds=some r->(Op.equalIn d t (Kj P t (cs.map TV.leafV)) (Kj P t (ds.map TV.leafV))).run P w=.ok r w
 | 0,_,_,h,_,_,_,_,_,_,_=>by simp [NN] at h
 | k+1,t,n,hf,d,hd,cs,ds,r,hl,h=>by
  obtain ⟨d,rfl⟩:∃ d',d=d'+1:=⟨d - 1,by omega⟩
  have hkd:=N2 h
  simp only [NN] at hf
  have one:∀ x,n=[x]->C9 P t=some false->∃ c e,cs=[c]∧ds=[e]∧c.kd=x∧e.kd=x∧Kj P t (cs.map TV.leafV)=c.leafV∧Kj P t (ds.map TV.leafV)=e.leafV:=by
   intro x h1 h2
   rw [h1] at hl
   match cs,ds,hl,hkd with
   | [c],[e],h3,h4=>
    simp only [List.map_cons,List.map_nil,List.cons.injEq,and_true] at h3 h4
    exact ⟨c,e,rfl,rfl,h3,by rw [h4,h3],by simp [Kj,h2],by simp [Kj,h2]⟩
   | [],_,h3,_=>simp at h3
   | [c],[],_,h4=>simp at h4
   | [c],_::_::_,_,h4=>simp at h4
   | _::_::_,_,h3,_=>simp at h3
  split at hf <;> rename_i hu
  ·simp only [zzY] at hf
   obtain ⟨c,e,rfl,rfl,k1,k2,e1,e2⟩:=one 0 hf.symm (by simp [C9,hu])
   rw [e1,e2]
   cases c <;> first | (simp [TV.kd] at k1; done) | skip
   cases e <;> first | (simp [TV.kd] at k2; done) | skip
   simp only [B7] at h
   split at h
   ·rename_i hk
    subst hk
    simp only [zzY,Bool.and_true] at h
    simp only [TV.leafV]
    rw [run_equalIn_int (P:=P) w d t _ _ _ _ hu,←h]
    congr 1
   ·cases h
  ·simp only [zzY] at hf
   obtain ⟨c,e,rfl,rfl,k1,k2,e1,e2⟩:=one 1 hf.symm (by simp [C9,hu])
   rw [e1,e2]
   cases c <;> first | (simp [TV.kd] at k1; done) | skip
   cases e <;> first | (simp [TV.kd] at k2; done) | skip
   simp only [B7,zzY,Bool.and_true] at h
   simp only [TV.leafV]
   rw [run_equalIn_string (P:=P) w d t _ _ hu,←h]
   congr 1
   exact X4 _ _
  ·simp only [zzY] at hf
   obtain ⟨c,e,rfl,rfl,k1,k2,e1,e2⟩:=one 2 hf.symm (by simp [C9,hu])
   rw [e1,e2]
   cases c <;> first | (simp [TV.kd] at k1; done) | skip
   cases e <;> first | (simp [TV.kd] at k2; done) | skip
   simp only [B7,zzY,Bool.and_true] at h
   simp only [TV.leafV]
   rw [run_equalIn_bool' (P:=P) w d t _ _ hu,←h]
   congr 1
  ·split at hf
   ·cases hf
   ·rename_i fs hs
    have hag:C9 P t=some true:=by simp [C9,hu]
    have hfs:P.fieldsOf t=fs:=by simp [Program.fieldsOf,hu]
    simp only [Kj,hag,if_true]
    rw [run_equalIn_struct w d t _ _ (by rw [hfs]; exact hu) (by simpa using hs),hfs]
    exact S7 k (V1 k) fs.toList 0 n hf d (by omega) [] [] cs ds r rfl rfl hl h
  ·cases hf
theorem VC {op:BinOp} {t:TypeId} {x y:Operand} {vx vy:Value} {cs ds:List TV} {q:Bool} {n:List Nat} (hn:cs.map TV.kd=n) {F:Nat->Nat->Prop} (hk:Ph P (.a n) t=true) (hx:A1 w F (.agg cs) vx) (hy:A1 w F (.agg ds) vy) (hq:B7 cs ds=some q) :
  ∃ xs ys,vx=.agg xs∧vy=.agg ys∧(eqGuard op t x y (.agg xs) (.agg ys)).run P w=.ok () w∧(Op.equalIn 10000 t (.agg xs) (.agg ys)).run P w=.ok q w:=by
 simp only [A1] at hx hy
 obtain ⟨xs,rfl,hx,_⟩:=hx
 obtain ⟨ys,rfl,hy,_⟩:=hy
 simp only [Ph,zzZ,Bool.not_eq_true'] at hk
 obtain ⟨⟨h1,h2⟩,h3⟩:=hk
 obtain ⟨hl,hci,hdi⟩:=OU hq
 refine ⟨xs,ys,rfl,rfl,run_eqGuard_agg w op t x y xs ys h2,?_⟩
 simp only [beq_iff_eq] at h1 h3
 have hxx:=OW hci hx
 have hyy:=OW hdi hy
 have:=V1 (P:=P) (w:=w) 8 t n h3 10000 (by omega) cs ds q hn hq
 simp only [Kj,h1,if_true,←hxx,←hyy] at this
 simpa using this
theorem dL {op:BinOp} {t:TypeId} {x y:Operand} {k k':IntKind} {a b r:Int} {F:Nat->Nat->Prop} (hk:k=k'∨op=.shl∨op=.shr) (hb:Kw k op a b=some r) :
  ∃ v,(do eqGuard op t x y (.int k a) (.int k' b); binOp op t (.int k a) (.int k' b):Sem Value).run P w=.ok v w∧A1 w F (.int k r) v∧(TV.int k r).WF:=by
 have bits:∀ (op:BinOp) (q:Value),k=k'->(op=.and∨op=.or∨op=.xor∨op=.andNot)->(Op.intBits op k a b).run P w=.ok q w->(do eqGuard op t x y (.int k a) (.int k' b); binOp op t (.int k a) (.int k' b):Sem Value).run P w=.ok q w:=by
  intro op q e ho h
  subst e
  rcases ho with rfl | rfl | rfl | rfl <;> simpa [eqGuard,binOp] using h
 cases op <;> simp only [Kw] at hb <;> try (cases hb; done)
 case and=>cases hb; exact ⟨_,bits _ _ (by simpa using hk) (by simp) rfl,rfl,Kk _ _⟩
 case or=>cases hb; exact ⟨_,bits _ _ (by simpa using hk) (by simp) rfl,rfl,Kk _ _⟩
 case xor=>cases hb; exact ⟨_,bits _ _ (by simpa using hk) (by simp) rfl,rfl,Kk _ _⟩
 case andNot=>cases hb; exact ⟨_,bits _ _ (by simpa using hk) (by simp) rfl,rfl,Kk _ _⟩
 case shl=>
  split at hb
  ·rename_i h0
   cases hb
   exact ⟨_,by simp [eqGuard,binOp,Op.shift,Int.not_lt.2 h0],rfl,Kk _ _⟩
  ·cases hb
 case shr=>
  split at hb
  ·rename_i h0
   cases hb
   exact ⟨_,by simp [eqGuard,binOp,Op.shift,Int.not_lt.2 h0.1],rfl,h0.2⟩
  ·cases hb
theorem dK {k:BK} {op:BinOp} {t:TypeId} {x y:Operand} {vx vy:Value} {tx ty r:TV} {F:Nat->Nat->Prop} (hk:Ph P k t=true) (hb:EX k op tx ty=some r) (hx:A1 w F tx vx) (hy:A1 w F ty vy) (hwx:tx.WF) (hwy:ty.WF) :
  ∃ v,(do eqGuard op t x y vx vy; binOp op t vx vy:Sem Value).run P w=.ok v w∧A1 w F r v∧r.WF:=by
 unfold EX at hb
 split at hb
 ·rename_i k a k' b
  simp only [A1] at hx hy
  subst hx; subst hy
  split at hb
  ·rename_i hkk
   subst hkk
   rw [Sem.run_bind,eqGuard_at_int,Sem.run_pure,Result.andThen_ok]
   have hdiv:op=.quo∨op=.rem∨(op≠.quo∧op≠.rem):=by cases op <;> simp
   rcases hdiv with rfl | rfl | ⟨hq,hr⟩
   ·by_cases h0:b=0
    ·simp [intCmp,intArith,h0] at hb
    ·simp [intCmp,intArith,h0] at hb
     subst hb
     exact ⟨_,by simp [binOp,Op.intDiv,h0],rfl,Kk _ _⟩
   ·by_cases h0:b=0
    ·simp [intCmp,intArith,h0] at hb
    ·simp [intCmp,intArith,h0] at hb
     subst hb
     refine ⟨_,by simp [binOp,Op.intDiv,h0],rfl,?_⟩
     simp only [TV.WF] at hwx ⊢
     have h1:a.tmod b<=max a 0∧min a 0<=a.tmod b:=by
      have h2:=Int.natAbs_tmod a b
      have h3:=Nat.mod_le a.natAbs b.natAbs
      rcases Int.le_total 0 a with h | h
      ·have h6:=Int.tmod_nonneg (a:=a) b h; omega
      ·have h6:=Int.tmod_nonneg (a:=-a) b (by omega)
       rw [Int.neg_tmod] at h6; omega
     have h4:k.min<=0:=by cases k <;> decide
     have h5:0<=k.max:=by cases k <;> decide
     omega
   ·cases op <;> simp [intCmp,intArith] at hb hq hr <;> subst hb <;> (refine ⟨_,?_,rfl,?_⟩) <;> first | (simp [binOp,Op.intCmp,Op.intArith]; done) | exact trivial | exact Kk _ _ | skip
    all_goals (simp [binOp,Op.intCmp]; rw [Bool.eq_iff_iff]; simp)
  ·cases hb
 ·rename_i op k a k' b
  simp only [A1] at hx hy
  subst hx; subst hy
  split at hb
  ·rename_i hkk
   split at hb
   ·rename_i r' hq
    simp only [zzY] at hb
    subst hb
    exact dL hkk hq
   ·cases hb
  ·cases hb
 ·simp only [A1] at hx hy
  subst hx; subst hy
  simp only [zzY] at hb
  subst hb
  exact ⟨_,by simp [eqGuard,binOp,Op.stringOp,beq_toListBytes],rfl,trivial⟩
 ·simp only [A1] at hx hy
  subst hx; subst hy
  simp only [zzY] at hb
  subst hb
  exact ⟨_,by simp [eqGuard,binOp,Op.stringOp,beq_toListBytes],rfl,trivial⟩
 ·simp only [A1] at hx hy
  subst hx; subst hy
  rename_i u1 u2
  split at hb
  ·rename_i hsz
   simp only [zzY] at hb
   subst hb
   have hmx:¬ (((u1.size+u2.size:Nat):Int) > IntKind.i64.max):=by
    have hm:IntKind.i64.max=9223372036854775807:=by decide
    rw [hm]
    have:=hsz
    unfold BF at this
    omega
   refine ⟨_,by simp only [eqGuard,binOp,Op.stringOp]; rw [if_neg hmx]; simp,rfl,by simp only [TV.WF,ByteArray.size_append]; exact SC hsz⟩
  ·cases hb
 ·simp only [A1] at hx hy
  subst hx; subst hy
  simp only [zzY] at hb
  subst hb
  have ht:P.underlying t=some .bool:=by
   simp only [Ph] at hk
   split at hk
   ·assumption
   ·cases hk
  exact ⟨_,by simp [eqGuard_at_bool,binOp,Op.equal,Op.maxDepth,run_equalIn_bool' (P:=P) w _ t _ _ ht],rfl,trivial⟩
 ·simp only [A1] at hx hy
  subst hx; subst hy
  simp only [zzY] at hb
  subst hb
  have ht:P.underlying t=some .bool:=by
   simp only [Ph] at hk
   split at hk
   ·assumption
   ·cases hk
  exact ⟨_,by simp [eqGuard_at_bool,binOp,Op.equal,Op.maxDepth,run_equalIn_bool' (P:=P) w _ t _ _ ht],rfl,trivial⟩
 ·rename_i cs ds
  split at hb
  ·rename_i hn
   split at hb
   ·rename_i q hq
    simp only [zzY] at hb
    subst hb
    obtain ⟨xs,ys,rfl,rfl,h1,h2⟩:=VC (op:=.eql) (x:=x) (y:=y) hn hk hx hy hq
    exact ⟨_,by simp only [Sem.run_bind,h1,Result.andThen_ok,run_eql_struct,h2],rfl,trivial⟩
   ·cases hb
  ·cases hb
 ·rename_i cs ds
  split at hb
  ·rename_i hn
   split at hb
   ·rename_i q hq
    simp only [zzY] at hb
    subst hb
    obtain ⟨xs,ys,rfl,rfl,h1,h2⟩:=VC (op:=.neq) (x:=x) (y:=y) hn hk hx hy hq
    exact ⟨_,by simp only [Sem.run_bind,h1,Result.andThen_ok,run_neq_struct,h2],rfl,trivial⟩
   ·cases hb
  ·cases hb
 ·cases hb
theorem aT {S:FuncId->List TV->B5->Prop} {F0:Nat->Nat->Prop} {w0:W0} {env:AC} {a:Act} {G:C0} {d:Nat} {o:Oper} {K:EV->AC->Prop} (hI:AQ F0 w0 env a w G) (hd:d<a.tmps.size) {x x':Operand} {y y':AE} {k:BK} {op:BinOp} {t t':TypeId}
  (hop:o.op=.binOp op t x x' t') (hk:Ph P k t=true) (h1:AK x y=true) (h2:AK x' y'=true) (h:(AD.bin k op y y').wp S env (some d) K):BG P F0 w0 a w o d K:=by
 simp only [AD.wp] at h
 split at h
 ·rename_i tx ty hx hy
  cases hb:EX k op tx ty with
  | none=>rw [hb] at h; exact h.elim
  | some r=>
   rw [hb] at h
   have v1:=A9 hI h1 hx
   have v2:=A9 hI h2 hy
   obtain ⟨v,hr,h3,h4⟩:=dK (x:=x) (y:=x') hk hb v1.1 v2.1 v1.2 v2.2
   refine C6 hI hd (v:=v) ?_ h3 h4 h
   simp only [execOp,hop,Sem.run_bind] at hr ⊢
   rw [hr]
   rfl
 ·exact h.elim
end
end Go.Sf
