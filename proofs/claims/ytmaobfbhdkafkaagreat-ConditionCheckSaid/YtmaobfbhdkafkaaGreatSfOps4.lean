/- Steps of operations that lead through memory. -/
import Derived.Test.YtmaobfbhdkafkaaGreatSfOps3
namespace Go.Sf
open Go.RowKit (Below)
section
variable {P:Program} {S:FuncId->List TV->B9->Prop} {F0:Nat->Nat->Prop} {w0:W0} {env:AC} {a:Act} {w:World} {G:C1} {d:Nat} {o:Oper} {K:EV->AC->Prop}
theorem QK (hI:AT F0 w0 env a w G) {s:Nat} {i:Option Nat} {c:AW} {x:Value} (h:DH w (AX w0.heap.size F0 G) (G s i) c x):A1 w (AX w0.heap.size F0 G) c.t x:=by
 obtain ⟨_ | _,t⟩:=c
 ·exact h.1
 ·exact H6.rep h (fun b lo o hz ho=>M5 hI b lo o hz ho)
theorem RP {F:Nat->Nat->Prop} {z:Option (Nat × Nat)} {t:TV} {x:Value} (h:B8 w F z t x):x.oneCell'=true:=by
 cases t <;> simp only [B8] at h
 obtain ⟨xs,h1,_⟩:=h
 rcases h1.2 with ⟨rfl,_⟩ | ⟨g,cap,cur,e,rfl,_⟩ <;> rfl
theorem QP {F:Nat->Nat->Prop} {z:Option (Nat × Nat)} {t:TV} {x:Value} (h:H6 w F z t x):x.oneCell'=true:=by
 by_cases hx:∃ n es,t=.xl n es
 ·obtain ⟨n,es,rfl⟩:=hx
  simp only [H6,Jh] at h
  obtain ⟨xs,⟨z0,h1,_⟩,_⟩:=h
  rcases h1.2 with ⟨rfl,_⟩ | ⟨g,cap,cur,e,rfl,_⟩ <;> rfl
 ·refine RP (w:=w) (F:=F) (z:=z) (t:=t) ?_
  cases t <;> first | exact h | exact absurd ⟨_,_,rfl⟩ hx
theorem My {F:Nat->Nat->Prop} {z:Option (Nat × Nat)} {c:AW} {x:Value} (h:DH w F z c x):x.oneCell'=true:=by
 obtain ⟨_ | _,t⟩:=c
 ·exact h.2
 ·exact QP h
theorem ND (hI:AT F0 w0 env a w G) {x:Operand} {y:AG} (hok:AL x y=true) {cs:List TV} (hc:BP env (y.ev env)=some cs) :
  ∃ b o vs,a.eval x=.pointer (some ⟨b,o,none⟩)∧AN w (AX w0.heap.size F0 G) cs vs∧TV.WFs cs∧(∀ x∈vs,x.oneCell'=true)∧∀ (j:Nat) (v:Value),vs[j]?=some v->w.cell? ((⟨b,o,none⟩:Addr).add j)=some v:=by
 have box:∀ (s off:Nat) (ds:List AW),env.get s=.bx ds->∃ b vs,slot a s=.pointer (some ⟨b,0,none⟩)∧AN w (AX w0.heap.size F0 G) ((ds.drop off).map (·.t)) vs∧TV.WFs ((ds.drop off).map (·.t))∧(∀ x∈vs,x.oneCell'=true)∧∀ (j:Nat) (v:Value),vs[j]?=some v->w.cell? ((⟨b,off,none⟩:Addr).add j)=some v:=by
  intro s off ds hs
  have hr:=A4 hI hs (by simp)
  have hw:=hI.wf s
  rw [hs] at hw
  simp only [AU] at hr
  obtain ⟨b,c,T,h1,h2,h3,h4,h5⟩:=hr
  refine ⟨b,c.toList.drop off,h1,?_,?_,?_,?_⟩
  ·rw [B4]
   refine ⟨by simp [h3],fun i t v ht hv=>?_⟩
   simp only [List.getElem?_map,List.getElem?_drop,Option.map_eq_some_iff] at ht hv
   obtain ⟨cell,hcell,rfl⟩:=ht
   obtain ⟨x,hx,hr⟩:=h5 (off+i) cell hcell
   have:x=v:=by
    have:c.toList[off+i]?=some x:=by simpa using hx
    rw [this] at hv; simpa using hv
   subst this
   exact QK hI hr
  ·rw [B6]
   intro t ht
   simp only [List.mem_map] at ht
   obtain ⟨cell,hcell,rfl⟩:=ht
   exact hw cell (List.mem_of_mem_drop hcell)
  ·intro x hx
   obtain ⟨i,hi,rfl⟩:=List.getElem_of_mem hx
   rw [List.getElem_drop]
   have hlt:off+i<c.size:=by simp at hi; omega
   have hds:ds[off+i]?=some (ds[off+i]'(by omega)):=List.getElem?_eq_getElem (by omega)
   obtain ⟨x,hx,hr⟩:=h5 (off+i) _ hds
   have:c.toList[off+i]'(by simpa using hlt)=x:=by
    have:c[off+i]?=some c[off+i]:=Array.getElem?_eq_getElem hlt
    rw [this] at hx
    simpa using hx
   rw [this]
   exact My hr
  ·intro j v hv
   rw [List.getElem?_drop] at hv
   rw [Addr.add_lit,cell_of_row w b (off+j) c T (0,0) h2]
   simpa using hv
 cases y with
 | c t=>
  simp only [AG.ev] at hc
  cases t <;> simp [BP] at hc
  subst hc
  have:=BA hI hok (t:=.pt _) rfl
  simp only [A1,TV.WF] at this
  obtain ⟨⟨b,o,h1,h2⟩,h3⟩:=this
  obtain ⟨vs,h4,h6,h5⟩:=OU h2
  exact ⟨b,o,vs,h1,h4,h3,h6,h5⟩
 | s n=>
  cases x <;> simp [AL] at hok
  subst hok
  rename_i n
  simp only [AG.ev] at hc
  cases he:env.get n with
  | tv t=>
   rw [he] at hc
   cases t <;> simp [BP] at hc
   subst hc
   have hr:=A4 hI he (by simp)
   have hw:=hI.wf n
   rw [he] at hw
   simp only [AU,A1] at hr
   obtain ⟨b,o,h1,h2⟩:=hr
   obtain ⟨vs,h4,h6,h5⟩:=OU h2
   exact ⟨b,o,vs,h1,h4,by simpa [EV.WF,TV.WF] using hw,h6,h5⟩
  | bx ds=>
   rw [he] at hc
   simp only [BP,Option.some.injEq] at hc
   subst hc
   obtain ⟨b,vs,h1,h2,h3,h7,h4⟩:=box n 0 ds he
   exact ⟨b,0,vs,h1,by simpa using h2,by simpa using h3,h7,h4⟩
  | bp q off=>
   rw [he] at hc
   simp only [BP] at hc
   split at hc
   ·rename_i ds hq
    simp only [Option.some.injEq] at hc
    subst hc
    obtain ⟨b,vs,h1,h2,h3,h7,h4⟩:=box q off ds hq
    have hr:=A4 hI he (by simp)
    simp only [AU] at hr
    obtain ⟨b',h5,h6⟩:=hr ⟨ds,hq⟩
    rw [h1] at h5
    simp only [Value.pointer.injEq,Option.some.injEq,Addr.mk.injEq,and_true,and_self] at h5
    subst h5
    exact ⟨b,off,vs,h6,h2,h3,h7,h4⟩
   ·cases hc
  | undef=>rw [he] at hc; simp [BP] at hc
  | sk=>rw [he] at hc; simp [BP] at hc
  | xo n es=>rw [he] at hc; simp [BP] at hc
  | la q i=>rw [he] at hc; simp [BP] at hc
  | oag cs=>rw [he] at hc; simp [BP] at hc
  | lp q i c=>rw [he] at hc; simp [BP] at hc
  | ow t=>rw [he] at hc; simp [BP] at hc
  | tp ts=>rw [he] at hc; simp [BP] at hc
theorem am (hI:AT F0 w0 env a w G) (hd:d<a.tmps.size) {x:Operand} {y:AG} {t:TypeId} (hop:o.op=.load t x) (hok:AL x y=true) (ht:DA P t=some false) (h:(AE.ld y).wp S env (some d) K):BG P F0 w0 a w o d K:=by
 simp only [AE.wp] at h
 cases hc:BP env (y.ev env) with
 | none=>rw [hc] at h; exact h.elim
 | some cs=>
  rw [hc] at h
  simp only [A2] at h
  obtain ⟨b,off,vs,h1,h2,h3,_,h4⟩:=ND hI hok hc
  cases cs with
  | nil=>simp [G1] at h
  | cons u r=>
   simp only [G1] at h
   replace h:=h.2
   simp only [AN] at h2
   obtain ⟨v,r',rfl,h5,h6⟩:=h2
   have h7:=h4 0 v rfl
   rw [Addr.add_zero'] at h7
   refine C8 hI hd (v:=v) ?_ h5 h3.1 h
   simp [execOp,hop,h1,Instr.loadAt,Instr.sureAddr,loadVar,EP ht,h7]
theorem Yb (hI:AT F0 w0 env a w G) (hd:d<a.tmps.size) {x:Operand} {y:AG} {t:TypeId} {n:Nat} (hop:o.op=.load t x) (hok:AL x y=true) (ht:DA P t=some true) (hn:ES P t=some n) (h:(AE.lda y n).wp S env (some d) K):BG P F0 w0 a w o d K:=by
 simp only [AE.wp] at h
 cases hc:BP env (y.ev env) with
 | none=>rw [hc] at h; exact h.elim
 | some cs=>
  rw [hc] at h
  simp only [A2] at h
  obtain ⟨b,off,vs,h1,h2,h3,h1c,h4⟩:=ND hI hok hc
  have hl:=B2 h2
  have hrun:=run_loadCells_list (P:=P) w ⟨b,off,none⟩ (vs.take n) (fun j v hv=>h4 j v (by rw [List.getElem?_take] at hv; split at hv <;> simp_all))
  rw [List.length_take,Nat.min_eq_left (by omega)] at hrun
  refine C8 hI hd (v:=.agg (vs.take n).toArray) (t:=.agg (cs.take n)) ?_ ?_ ?_ h.2
  ·simp [execOp,hop,h1,Instr.loadAt,Instr.sureAddr,loadVar,EP ht,DJ hn,hrun]
  ·simp only [A1]
   refine ⟨_,rfl,?_,by rw [List.all_eq_true]; exact fun x hx=>h1c x (List.mem_of_mem_take hx)⟩
   rw [B4] at h2 ⊢
   refine ⟨by simp [hl],fun i t v hi hv=>?_⟩
   simp only [List.getElem?_take] at hi hv
   split at hi
   ·rename_i hlt
    rw [if_pos hlt] at hv
    exact h2.2 i t v hi hv
   ·cases hi
  ·simp only [TV.WF]
   rw [B6] at h3 ⊢
   exact fun t ht=>h3 t (List.mem_of_mem_take ht)
theorem YY (hI:AT F0 w0 env a w G) (hd:d<a.tmps.size) {x i:Operand} {y j:AG} {t:TypeId} {n:Nat} (hop:o.op=.indexAddr t x i) (hok:AL x y=true) (hok':AL i j=true) (ht:J3 P t=some n) (h:(AE.iad y j n).wp S env (some d) K):BG P F0 w0 a w o d K:=by
 simp only [AE.wp] at h
 split at h
 ·rename_i m es k jj hx hj
  obtain ⟨rfl,h0,e,he,hK⟩:=h
  have h1:=BA hI hok hx
  have h2:=BA hI hok' hj
  simp only [A1] at h2
  obtain ⟨p,hr,hp⟩:=Va (P:=P) (k:=k) ht h1.1 h0 he
  refine C8 hI hd (v:=p) (by simp [execOp,hop,h2.1,hr]) hp ?_ hK
  simp only [TV.WF] at h1 ⊢
  have:=B6.1 h1.2.2 e (List.mem_of_getElem? he)
  exact J0 this
 ·exact h.elim
theorem W7 (hI:AT F0 w0 env a w G) (hd:d<a.tmps.size) {x i:Operand} {y j:AG} {t:TypeId} (hop:o.op=.index t x i) (hok:AL x y=true) (hok':AL i j=true) (ht:P.underlying t=some .string) (h:(AE.sidx y j).wp S env (some d) K):BG P F0 w0 a w o d K:=by
 simp only [AE.wp] at h
 split at h
 ·rename_i s k jj hx hj
  obtain ⟨h0,b,hb,hK⟩:=h
  have h1:=BA hI hok hx
  have h2:=BA hI hok' hj
  simp only [A1] at h1 h2
  refine C8 hI hd (v:=.int .u8 b.toNat) (t:=.int .u8 b.toNat) ?_ rfl ⟨by simp [IntKind.min,IntKind.signed],?_⟩ hK
  ·simp [execOp,hop,h1.1,h2.1,Instr.index,asIntOf,run_underlying ht,h0,hb]
  ·have:=b.toNat_lt
   simp [IntKind.max,IntKind.signed,IntKind.bits]; omega
 ·exact h.elim
theorem UQ {x:Operand} {t:TypeId} {f k:Nat} (hop:o.op=.fieldAddr t x f) (ht:M0 P t f=some k):∀ b off,a.eval x=.pointer (some ⟨b,off,none⟩)->(execOp a.eval o).run P w=.ok (.value (.pointer (some ⟨b,off+k,none⟩))) w:=by
 intro b off h
 simp [execOp,hop,h,Pg ht]
theorem Mq {x:Operand} (hop:o.op=.move x∨o.op=.assign x∨o.op=.nilCheck x):∀ b off,a.eval x=.pointer (some ⟨b,off,none⟩)->(execOp a.eval o).run P w=.ok (.value (.pointer (some ⟨b,off+0,none⟩))) w:=by
 intro b off h
 rcases hop with hop | hop | hop <;> simp [execOp,hop,h]
theorem OX (hI:AT F0 w0 env a w G) (hd:d<a.tmps.size) {x:Operand} {y:AG} {k:Nat} (hrun:∀ b off,a.eval x=.pointer (some ⟨b,off,none⟩)->(execOp a.eval o).run P w=.ok (.value (.pointer (some ⟨b,off+k,none⟩))) w) (hok:AL x y=true) (h:(AE.fad y k).wp S env (some d) K):BG P F0 w0 a w o d K:=by
 simp only [AE.wp] at h
 split at h
 ·rename_i row he
  have h1:=Q6 hI hok he
  simp only [A1,TV.WF] at h1
  obtain ⟨⟨b,off,h2,h3⟩,h4⟩:=h1
  refine C8 hI hd (v:=.pointer (some ⟨b,off+k,none⟩)) (t:=.pt (row.drop k)) (hrun _ _ h2) ?_ ?_ h
  ·simp only [A1]
   exact ⟨b,_,rfl,L6 h3 k⟩
  ·simp only [TV.WF]
   rw [B6] at h4 ⊢
   exact fun t ht=>h4 t (List.mem_of_mem_drop ht)
 ·rename_i q off he
  cases y with
  | c t=>simp [AG.ev] at he
  | s n=>
   cases x <;> simp [AL] at hok
   subst hok
   rename_i n
   simp only [AG.ev] at he
   have hr:=A4 hI he (by simp)
   simp only [AU] at hr
   split at h
   ·rename_i cs0 hq
    obtain ⟨b,h5,h6⟩:=hr ⟨cs0,hq⟩
    refine ⟨.pointer (some ⟨b,off+k,none⟩),w,hrun _ _ h6,_,_,h,_,hI.quiet (Below.refl _ _) d hd (.bp q (off+k)) _ (fun _=>none) (by simp) (by simp) (by simp) ?_ trivial⟩
    simp only [AU]
    rintro ⟨cs,hcs⟩
    rw [AC.get_cons] at hcs
    by_cases hdq:d=q
    ·rw [if_pos hdq] at hcs; cases hcs
    ·exact ⟨b,by rw [A5 _ _ _ _ hdq]; exact h5,rfl⟩
   ·exact h.elim
 ·exact h.elim
theorem NA (hI:AT F0 w0 env a w G) (hd:d<a.tmps.size) {s:Nat} {k:Nat} (hrun:∀ b off,a.eval (.tmp s)=.pointer (some ⟨b,off,none⟩)->(execOp a.eval o).run P w=.ok (.value (.pointer (some ⟨b,off+k,none⟩))) w) (h:(AE.bad s k).wp S env (some d) K):BG P F0 w0 a w o d K:=by
 simp only [AE.wp] at h
 split at h
 ·rename_i cs he
  have hr:=A4 hI he (by simp)
  simp only [AU] at hr
  obtain ⟨b,c,T,h1,_⟩:=hr
  refine ⟨.pointer (some ⟨b,0+k,none⟩),w,hrun _ _ h1,_,_,h,_,hI.quiet (Below.refl _ _) d hd (.bp s k) _ (fun _=>none) (by simp) (by simp) (by simp) ?_ trivial⟩
  simp only [AU]
  rintro ⟨cs',hcs⟩
  rw [AC.get_cons] at hcs
  by_cases hdq:d=s
  ·rw [if_pos hdq] at hcs; cases hcs
  ·exact ⟨b,by rw [A5 _ _ _ _ hdq]; exact h1,by simp⟩
 ·rename_i row he
  have h1:=Q6 hI (x:=.tmp s) (y:=.s s) (by simp [AL]) he
  simp only [A1,TV.WF] at h1
  obtain ⟨⟨b,off,h2,h3⟩,h4⟩:=h1
  refine C8 hI hd (v:=.pointer (some ⟨b,off+k,none⟩)) (t:=.pt (row.drop k)) (hrun _ _ h2) ?_ ?_ h
  ·simp only [A1]
   exact ⟨b,_,rfl,L6 h3 k⟩
  ·simp only [TV.WF]
   rw [B6] at h4 ⊢
   exact fun t ht=>h4 t (List.mem_of_mem_drop ht)
 ·exact h.elim
theorem YN (hI:AT F0 w0 env a w G) (hd:d<a.tmps.size) {x i:Operand} {y j:AG} {t e:TypeId} {n k:Nat} (hop:o.op=.indexAddr t x i) (hok:AL x y=true) (hok':AL i j=true) (ht:P.underlying t=some (.array k e)) (hn:ES P e=some n)
  (h:(AE.aad y j n k).wp S env (some d) K):BG P F0 w0 a w o d K:=by
 simp only [AE.wp] at h
 split at h
 ·rename_i row kk jj hx hj
  obtain ⟨h0,h1,h2,hK⟩:=h
  have h3:=(BA hI hok' hj).1
  simp only [A1] at h3
  have hp:∃ b off,a.eval x=.pointer (some ⟨b,off,none⟩)∧DV w (AX w0.heap.size F0 G) row b off∧TV.WFs row:=by
   have:=Q6 hI hok hx
   simp only [A1,TV.WF] at this
   obtain ⟨⟨b,o,h1,h2⟩,h3⟩:=this
   exact ⟨b,o,h1,h2,h3⟩
  obtain ⟨b,off,h4,h5,h6⟩:=hp
  have hj:0<=jj∧jj<(k:Int):=⟨h0,h1⟩
  refine C8 hI hd (v:=.pointer (some ⟨b,off+jj.toNat*n,none⟩)) (t:=.pt (row.drop (jj.toNat*n))) ?_ ?_ ?_ hK
  ·simp [execOp,hop,h3,h4,Instr.indexAt,asIntOf,run_underlying ht,hj,Instr.sureAddr,DJ hn,Addr.add_lit]
  ·simp only [A1]
   exact ⟨b,_,rfl,L6 h5 _⟩
  ·simp only [TV.WF]
   rw [B6] at h6 ⊢
   exact fun t ht=>h6 t (List.mem_of_mem_drop ht)
 ·exact h.elim
def VK (P:Program) (t:TypeId) (j:Operand) (k:Nat):Bool:=
 match j,P.underlying t with
 | .const (.int _ i),some (.array m e)=>decide (0<=i)&&decide (i<(m:Int))&&(match ES P e with
  | some n=>i.toNat*n==k
  | none=>false)
 | _,_=>false
theorem Zc {P:Program} {o:Oper} {a:Act} {w:World} {t:TypeId} {s:Nat} {j:Operand} {k:Nat} (hop:o.op=.indexAddr t (.tmp s) j) (hok:VK P t j k=true) (b off:Nat) (h:a.eval (.tmp s)=.pointer (some ⟨b,off,none⟩)):(execOp a.eval o).run P w=.ok (.value (.pointer (some ⟨b,off+k,none⟩))) w:=by
 unfold VK at hok
 split at hok
 ·rename_i kk i m e ht
  simp only [Bool.and_eq_true,decide_eq_true_eq] at hok
  obtain ⟨⟨h0,h1⟩,h2⟩:=hok
  split at h2
  ·rename_i n hn
   simp only [beq_iff_eq] at h2
   subst h2
   have hj:0<=i∧i<(m:Int):=⟨h0,h1⟩
   have hc:a.eval (.const (.int kk i))=.int kk i:=rfl
   simp [execOp,hop,h,hc,Instr.indexAt,asIntOf,run_underlying ht,hj,Instr.sureAddr,DJ hn,Addr.add_lit]
  ·cases h2
 ·cases hok
def PQ (g:TypeId->Option (List Nat)) (P:Program):List Field->Nat->Option (List Nat)
 | [],_=>some []
 | f::fs,off=>match g f.type with
  | some ks => if (f.name ≠ "_" ∧ f.offset = off) ∧ ES P f.type = some ks.length then (match PQ g P fs (off + ks.length) with | some r => some (ks ++ r) | none => none) else none
  | none=>none
def Mb (P:Program):Nat->TypeId->Option (List Nat)
 | 0,_=>none
 | k+1,t=>match P.underlying t with
  | some (.int _)=>some [0]
  | some .string=>some [1]
  | some .bool=>some [2]
  | some (.struct fs)=>if P.stoodInHeld t then none else PQ (Mb P k) P fs.toList 0
  | _=>none
def OF (P:Program):BK->TypeId->Bool
 | .i,_=>true
 | .s,_=>true
 | .w,_=>true
 | .b,t=>match P.underlying t with | some .bool=>true | _=>false
 | .a n,t=>DA P t==some true&&!P.eqGuardType P.depth t&&Mb P 8 t==some n
def TV.leafV:TV->Value
 | .int k n=>.int k n
 | .str s=>.string s
 | .bool b=>.bool b
 | _=>Go.undef
def TV.leafB:TV->Bool
 | .int _ _=>true
 | .str _=>true
 | .bool _=>true
 | _=>false
theorem NY:∀ {cs ds:List TV} {r:Bool},B5 cs ds=some r->cs.length=ds.length∧(∀ t∈cs,t.leafB=true)∧(∀ t∈ds,t.leafB=true)
 | [],[],_,_=>by simp
 | [],_::_,_,h=>by simp [B5] at h
 | c::cs,[],_,h=>by cases c <;> simp [B5] at h
 | c::cs,d::ds,r,h=>by
  have key:∀ r',B5 cs ds=some r'->c.leafB=true->d.leafB=true->(c::cs).length=(d::ds).length∧(∀ t∈c::cs,t.leafB=true)∧(∀ t∈d::ds,t.leafB=true):=by
   intro r' hq h1 h2
   obtain ⟨e1,e2,e3⟩:=NY hq
   refine ⟨by simp [e1],?_,?_⟩
   ·intro t ht
    rcases List.mem_cons.1 ht with rfl | ht
    ·exact h1
    ·exact e2 t ht
   ·intro t ht
    rcases List.mem_cons.1 ht with rfl | ht
    ·exact h2
    ·exact e3 t ht
  cases c <;> cases d <;> simp only [B5,reduceCtorEq] at h
  ·split at h
   ·split at h
    ·rename_i q hq; exact key q hq rfl rfl
    ·cases h
   ·cases h
  ·split at h
   ·rename_i q hq; exact key q hq rfl rfl
   ·cases h
  ·split at h
   ·rename_i q hq; exact key q hq rfl rfl
   ·cases h
theorem YD {F:Nat->Nat->Prop} {t:TV} {v:Value} (hl:t.leafB=true) (h:A1 w F t v):v=t.leafV:=by
 cases t <;> simp only [TV.leafB,reduceCtorEq] at hl <;> exact h
theorem Nd {F:Nat->Nat->Prop}:∀ {cs:List TV} {xs:List Value},(∀ t∈cs,t.leafB=true)->AN w F cs xs->xs=cs.map TV.leafV
 | [],_,_,h=>h
 | c::cs,xs,hl,h=>by
  simp only [AN] at h
  obtain ⟨v,r,rfl,h1,h2⟩:=h
  rw [YD (hl c (by simp)) h1,Nd (fun t ht=>hl t (by simp [ht])) h2]
  rfl
theorem LI:∀ (m:Nat) {cs ds:List TV} {r:Bool},B5 cs ds=some r->∃ r1 r2,B5 (cs.take m) (ds.take m)=some r1∧B5 (cs.drop m) (ds.drop m)=some r2∧r=(r1&&r2)
 | 0,cs,ds,r,h=>⟨true,r,by simp [B5],by simpa using h,by simp⟩
 | m+1,[],[],r,h=>by
  simp only [B5,Option.some.injEq] at h
  subst h
  exact ⟨true,true,by simp [B5],by simp [B5],rfl⟩
 | m+1,[],_::_,_,h=>by simp [B5] at h
 | m+1,c::cs,[],_,h=>by cases c <;> simp [B5] at h
 | m+1,c::cs,d::ds,r,h=>by
  cases c <;> cases d <;> simp only [B5,reduceCtorEq] at h
  ·split at h
   ·rename_i hk
    split at h
    ·rename_i q hq
     obtain ⟨r1,r2,e1,e2,e3⟩:=LI m hq
     simp only [Option.some.injEq] at h
     refine ⟨_,r2,by simp only [List.take_succ_cons,B5,if_pos hk,e1]; rfl,by simpa using e2,by rw [←h,e3,Bool.and_assoc]⟩
    ·cases h
   ·cases h
  ·split at h
   ·rename_i q hq
    obtain ⟨r1,r2,e1,e2,e3⟩:=LI m hq
    simp only [Option.some.injEq] at h
    refine ⟨_,r2,by simp only [List.take_succ_cons,B5,e1]; rfl,by simpa using e2,by rw [←h,e3,Bool.and_assoc]⟩
   ·cases h
  ·split at h
   ·rename_i q hq
    obtain ⟨r1,r2,e1,e2,e3⟩:=LI m hq
    simp only [Option.some.injEq] at h
    refine ⟨_,r2,by simp only [List.take_succ_cons,B5,e1]; rfl,by simpa using e2,by rw [←h,e3,Bool.and_assoc]⟩
   ·cases h
def KA (P:Program) (t:TypeId) (vs:List Value):Value:=if DA P t=some true then .agg vs.toArray else vs.headD Go.undef
theorem NF:∀ {cs ds:List TV} {r:Bool},B5 cs ds=some r->ds.map TV.kd=cs.map TV.kd
 | [],[],_,_=>rfl
 | [],_::_,_,h=>by simp [B5] at h
 | c::cs,[],_,h=>by cases c <;> simp [B5] at h
 | c::cs,d::ds,r,h=>by
  cases c <;> cases d <;> simp only [B5,reduceCtorEq] at h
  ·split at h
   ·split at h
    ·rename_i q hq; simp only [List.map_cons,NF hq,TV.kd]
    ·cases h
   ·cases h
  ·split at h
   ·rename_i q hq; simp only [List.map_cons,NF hq,TV.kd]
   ·cases h
  ·split at h
   ·rename_i q hq; simp only [List.map_cons,NF hq,TV.kd]
   ·cases h
theorem Rf (k:Nat) (ih:∀ (t:TypeId) (n:List Nat),Mb P k t=some n->∀ d,k<=d->∀ (cs ds:List TV) (r:Bool),cs.map TV.kd=n->B5 cs ds=some r->(Op.equalIn d t (KA P t (cs.map TV.leafV)) (KA P t (ds.map TV.leafV))).run P w=.ok r w) :
  ∀ (fs:List Field) (off:Nat) (n:List Nat),PQ (Mb P k) P fs off=some n->∀ d,k<=d->∀ (pre pre':List Value) (cs ds:List TV) (r:Bool),pre.length=off->pre'.length=off->cs.map TV.kd=n->B5 cs ds=some r ->
   (Op.eqFields d (pre++cs.map TV.leafV).toArray (pre'++ds.map TV.leafV).toArray fs).run P w=.ok r w
 | [],off,n,hf,d,hd,pre,pre',cs,ds,r,h1,h2,h3,h=>by
  simp only [PQ,Option.some.injEq] at hf
  subst hf
  have:cs=[]:=List.map_eq_nil_iff.1 h3
  subst this
  cases ds <;> simp [B5] at h
  subst h
  simp [Op.eqFields]
 | f::fs,off,n,hf,d,hd,pre,pre',cs,ds,r,h1,h2,h3,h=>by
  simp only [PQ] at hf
  split at hf
  ·rename_i ks hm
   split at hf
   ·rename_i hc
    split at hf
    ·rename_i rest hrest
     simp only [Option.some.injEq] at hf
     subst hf
     obtain ⟨⟨hn,ho⟩,hsz⟩:=hc
     have hcl:cs.length=ks.length+rest.length:=by
      have:=congrArg List.length h3
      simpa using this
     obtain ⟨r1,r2,e1,e2,rfl⟩:=LI ks.length h
     have hlen:=(NY h).1
     have hdl:ds.length=ks.length+rest.length:=by omega
     have hk1:(cs.take ks.length).map TV.kd=ks:=by rw [List.map_take,h3,List.take_left']; rfl
     have hk2:(cs.drop ks.length).map TV.kd=rest:=by rw [List.map_drop,h3,List.drop_left']; rfl
     have hi:=ih f.type ks hm d hd (cs.take ks.length) (ds.take ks.length) r1 hk1 e1
     have hrec:=Rf k ih fs (off+ks.length) rest hrest d hd (pre++(cs.take ks.length).map TV.leafV) (pre'++(ds.take ks.length).map TV.leafV) (cs.drop ks.length) (ds.drop ks.length) r2 (by simp; omega) (by simp; omega) hk2 e2
     have hjoin:∀ (pre:List Value) (cs:List TV),pre++(cs.take ks.length).map TV.leafV++(cs.drop ks.length).map TV.leafV=pre++cs.map TV.leafV:=by
      intro pre cs
      rw [List.append_assoc,←List.map_append,List.take_append_drop]
     rw [hjoin,hjoin] at hrec
     have hpart:∀ (pre:List Value) (cs:List TV),pre.length=off->ks.length<=cs.length->(0<ks.length∨DA P f.type=some true)->(∃ b,DA P f.type=some b)->(part f.type (pre++cs.map TV.leafV).toArray f.offset).run P w=.ok (KA P f.type ((cs.take ks.length).map TV.leafV)) w:=by
      intro pre cs hp hmc hor hb
      obtain ⟨b,hb⟩:=hb
      cases b with
      | true=>
       simp only [part,Sem.run_bind,EP hb,Result.andThen_ok,if_true,DJ hsz,Sem.run_pure,KA,hb]
       congr 2
       rw [List.extract_toArray,List.extract_eq_take_drop,ho,←hp,List.drop_left,Nat.add_sub_cancel_left,←List.map_take]
      | false=>
       have h0:0<ks.length:=by
        rcases hor with h | h
        ·exact h
        ·rw [hb] at h; cases h
       cases cs with
       | nil=>exact absurd (Nat.lt_of_lt_of_le h0 hmc) (by simp)
       | cons c cs=>
        obtain ⟨m',hm'⟩:∃ m',ks.length=m'+1:=⟨ks.length - 1,by omega⟩
        have:((pre++(c::cs).map TV.leafV).toArray)[f.offset]?=some c.leafV:=by
         rw [List.getElem?_toArray,ho,←hp,List.getElem?_append_right (Nat.le_refl _),Nat.sub_self]; rfl
        simp only [part,Sem.run_bind,EP hb,Result.andThen_ok,Bool.false_eq_true,if_false,this,Sem.run_pure,KA,hb,hm']
        simp
     have hb:(∃ b,DA P f.type=some b)∧(0<ks.length∨DA P f.type=some true):=by
      cases k with
      | zero=>simp [Mb] at hm
      | succ k=>
       simp only [Mb] at hm
       unfold DA
       split at hm <;> rename_i hu
       ·simp only [Option.some.injEq] at hm; subst hm; rw [hu]; exact ⟨⟨_,rfl⟩,.inl (by simp)⟩
       ·simp only [Option.some.injEq] at hm; subst hm; rw [hu]; exact ⟨⟨_,rfl⟩,.inl (by simp)⟩
       ·simp only [Option.some.injEq] at hm; subst hm; rw [hu]; exact ⟨⟨_,rfl⟩,.inl (by simp)⟩
       ·rw [hu]; exact ⟨⟨_,rfl⟩,.inr rfl⟩
       ·cases hm
     have p1:=hpart pre cs h1 (by omega) hb.2 hb.1
     have p2:=hpart pre' ds h2 (by omega) hb.2 hb.1
     simp only [Op.eqFields,Sem.run_bind,Sem.run_ite,if_pos hn,p1,p2,hi,Result.andThen_ok]
     cases r1 with
     | true=>simpa using hrec
     | false=>simp
    ·cases hf
   ·cases hf
  ·cases hf
theorem Vx (a b:ByteArray):(a.toList==b.toList)=decide (a=b):=by
 rw [Bool.eq_iff_iff,beq_iff_eq,decide_eq_true_eq]
 refine ⟨fun h=>?_,fun h=>by rw [h]⟩
 rw [ByteArray.toList_eq,ByteArray.toList_eq] at h
 cases a; cases b
 simpa using h
theorem UP:∀ (k:Nat) (t:TypeId) (n:List Nat),Mb P k t=some n->∀ d,k<=d->∀ (cs ds:List TV) (r:Bool),cs.map TV.kd=n->B5 cs ds=some r->(Op.equalIn d t (KA P t (cs.map TV.leafV)) (KA P t (ds.map TV.leafV))).run P w=.ok r w
 | 0,_,_,h,_,_,_,_,_,_,_=>by simp [Mb] at h
 | k+1,t,n,hf,d,hd,cs,ds,r,hl,h=>by
  obtain ⟨d,rfl⟩:∃ d',d=d'+1:=⟨d - 1,by omega⟩
  have hkd:=NF h
  simp only [Mb] at hf
  have one:∀ x,n=[x]->DA P t=some false->∃ c e,cs=[c]∧ds=[e]∧c.kd=x∧e.kd=x∧KA P t (cs.map TV.leafV)=c.leafV∧KA P t (ds.map TV.leafV)=e.leafV:=by
   intro x h1 h2
   rw [h1] at hl
   match cs,ds,hl,hkd with
   | [c],[e],h3,h4=>
    simp only [List.map_cons,List.map_nil,List.cons.injEq,and_true] at h3 h4
    exact ⟨c,e,rfl,rfl,h3,by rw [h4,h3],by simp [KA,h2],by simp [KA,h2]⟩
   | [],_,h3,_=>simp at h3
   | [c],[],_,h4=>simp at h4
   | [c],_::_::_,_,h4=>simp at h4
   | _::_::_,_,h3,_=>simp at h3
  split at hf <;> rename_i hu
  ·simp only [Option.some.injEq] at hf
   obtain ⟨c,e,rfl,rfl,k1,k2,e1,e2⟩:=one 0 hf.symm (by simp [DA,hu])
   rw [e1,e2]
   cases c <;> first | (simp [TV.kd] at k1; done) | skip
   cases e <;> first | (simp [TV.kd] at k2; done) | skip
   simp only [B5] at h
   split at h
   ·rename_i hk
    subst hk
    simp only [Option.some.injEq,Bool.and_true] at h
    simp only [TV.leafV]
    rw [run_equalIn_int (P:=P) w d t _ _ _ _ hu,←h]
    congr 1
   ·cases h
  ·simp only [Option.some.injEq] at hf
   obtain ⟨c,e,rfl,rfl,k1,k2,e1,e2⟩:=one 1 hf.symm (by simp [DA,hu])
   rw [e1,e2]
   cases c <;> first | (simp [TV.kd] at k1; done) | skip
   cases e <;> first | (simp [TV.kd] at k2; done) | skip
   simp only [B5,Option.some.injEq,Bool.and_true] at h
   simp only [TV.leafV]
   rw [run_equalIn_string (P:=P) w d t _ _ hu,←h]
   congr 1
   exact Vx _ _
  ·simp only [Option.some.injEq] at hf
   obtain ⟨c,e,rfl,rfl,k1,k2,e1,e2⟩:=one 2 hf.symm (by simp [DA,hu])
   rw [e1,e2]
   cases c <;> first | (simp [TV.kd] at k1; done) | skip
   cases e <;> first | (simp [TV.kd] at k2; done) | skip
   simp only [B5,Option.some.injEq,Bool.and_true] at h
   simp only [TV.leafV]
   rw [run_equalIn_bool' (P:=P) w d t _ _ hu,←h]
   congr 1
  ·split at hf
   ·cases hf
   ·rename_i fs hs
    have hag:DA P t=some true:=by simp [DA,hu]
    have hfs:P.fieldsOf t=fs:=by simp [Program.fieldsOf,hu]
    simp only [KA,hag,if_true]
    rw [run_equalIn_struct w d t _ _ (by rw [hfs]; exact hu) (by simpa using hs),hfs]
    exact Rf k (UP k) fs.toList 0 n hf d (by omega) [] [] cs ds r rfl rfl hl h
  ·cases hf
theorem Ti {op:BinOp} {t:TypeId} {x y:Operand} {vx vy:Value} {cs ds:List TV} {q:Bool} {n:List Nat} (hn:cs.map TV.kd=n) {F:Nat->Nat->Prop} (hk:OF P (.a n) t=true) (hx:A1 w F (.agg cs) vx) (hy:A1 w F (.agg ds) vy) (hq:B5 cs ds=some q) :
  ∃ xs ys,vx=.agg xs∧vy=.agg ys∧(eqGuard op t x y (.agg xs) (.agg ys)).run P w=.ok () w∧(Op.equalIn 10000 t (.agg xs) (.agg ys)).run P w=.ok q w:=by
 simp only [A1] at hx hy
 obtain ⟨xs,rfl,hx,_⟩:=hx
 obtain ⟨ys,rfl,hy,_⟩:=hy
 simp only [OF,Bool.and_eq_true,Bool.not_eq_true'] at hk
 obtain ⟨⟨h1,h2⟩,h3⟩:=hk
 obtain ⟨hl,hci,hdi⟩:=NY hq
 refine ⟨xs,ys,rfl,rfl,run_eqGuard_agg w op t x y xs ys h2,?_⟩
 simp only [beq_iff_eq] at h1 h3
 have hxx:=Nd hci hx
 have hyy:=Nd hdi hy
 have:=UP (P:=P) (w:=w) 8 t n h3 10000 (by omega) cs ds q hn hq
 simp only [KA,h1,if_true,←hxx,←hyy] at this
 simpa using this
theorem aS {op:BinOp} {t:TypeId} {x y:Operand} {k k':IntKind} {a b r:Int} {F:Nat->Nat->Prop} (hk:k=k'∨op=.shl∨op=.shr) (hb:KK k op a b=some r) :
  ∃ v,(do eqGuard op t x y (.int k a) (.int k' b); binOp op t (.int k a) (.int k' b):Sem Value).run P w=.ok v w∧A1 w F (.int k r) v∧(TV.int k r).WF:=by
 have bits:∀ (op:BinOp) (q:Value),k=k'->(op=.and∨op=.or∨op=.xor∨op=.andNot)->(Op.intBits op k a b).run P w=.ok q w->(do eqGuard op t x y (.int k a) (.int k' b); binOp op t (.int k a) (.int k' b):Sem Value).run P w=.ok q w:=by
  intro op q e ho h
  subst e
  rcases ho with rfl | rfl | rfl | rfl <;> simpa [eqGuard,binOp] using h
 cases op <;> simp only [KK] at hb <;> try (cases hb; done)
 case and=>cases hb; exact ⟨_,bits _ _ (by simpa using hk) (by simp) rfl,rfl,KB _ _⟩
 case or=>cases hb; exact ⟨_,bits _ _ (by simpa using hk) (by simp) rfl,rfl,KB _ _⟩
 case xor=>cases hb; exact ⟨_,bits _ _ (by simpa using hk) (by simp) rfl,rfl,KB _ _⟩
 case andNot=>cases hb; exact ⟨_,bits _ _ (by simpa using hk) (by simp) rfl,rfl,KB _ _⟩
 case shl=>
  split at hb
  ·rename_i h0
   cases hb
   exact ⟨_,by simp [eqGuard,binOp,Op.shift,Int.not_lt.2 h0],rfl,KB _ _⟩
  ·cases hb
 case shr=>
  split at hb
  ·rename_i h0
   cases hb
   exact ⟨_,by simp [eqGuard,binOp,Op.shift,Int.not_lt.2 h0.1],rfl,h0.2⟩
  ·cases hb
theorem aR {k:BK} {op:BinOp} {t:TypeId} {x y:Operand} {vx vy:Value} {tx ty r:TV} {F:Nat->Nat->Prop} (hk:OF P k t=true) (hb:FM k op tx ty=some r) (hx:A1 w F tx vx) (hy:A1 w F ty vy) (hwx:tx.WF) (hwy:ty.WF) :
  ∃ v,(do eqGuard op t x y vx vy; binOp op t vx vy:Sem Value).run P w=.ok v w∧A1 w F r v∧r.WF:=by
 unfold FM at hb
 split at hb
 ·rename_i k a k' b
  simp only [A1] at hx hy
  subst hx; subst hy
  split at hb
  ·rename_i hkk
   subst hkk
   rw [Sem.run_bind,eqGuard_at_int,Sem.run_pure,Result.andThen_ok]
   have hdiv:op=.quo∨op=.rem∨(op≠.quo∧op≠.rem):=by cases op <;> simp
   rcases hdiv with rfl | rfl | ⟨hq,hr⟩
   ·by_cases h0:b=0
    ·simp [intCmp,intArith,h0] at hb
    ·simp [intCmp,intArith,h0] at hb
     subst hb
     exact ⟨_,by simp [binOp,Op.intDiv,h0],rfl,KB _ _⟩
   ·by_cases h0:b=0
    ·simp [intCmp,intArith,h0] at hb
    ·simp [intCmp,intArith,h0] at hb
     subst hb
     refine ⟨_,by simp [binOp,Op.intDiv,h0],rfl,?_⟩
     simp only [TV.WF] at hwx ⊢
     have h1:a.tmod b<=max a 0∧min a 0<=a.tmod b:=by
      have h2:=Int.natAbs_tmod a b
      have h3:=Nat.mod_le a.natAbs b.natAbs
      rcases Int.le_total 0 a with h | h
      ·have h6:=Int.tmod_nonneg (a:=a) b h; omega
      ·have h6:=Int.tmod_nonneg (a:=-a) b (by omega)
       rw [Int.neg_tmod] at h6; omega
     have h4:k.min<=0:=by cases k <;> decide
     have h5:0<=k.max:=by cases k <;> decide
     omega
   ·cases op <;> simp [intCmp,intArith] at hb hq hr <;> subst hb <;> (refine ⟨_,?_,rfl,?_⟩) <;> first | (simp [binOp,Op.intCmp,Op.intArith]; done) | exact trivial | exact KB _ _ | skip
    all_goals (simp [binOp,Op.intCmp]; rw [Bool.eq_iff_iff]; simp)
  ·cases hb
 ·rename_i op k a k' b
  simp only [A1] at hx hy
  subst hx; subst hy
  split at hb
  ·rename_i hkk
   split at hb
   ·rename_i r' hq
    simp only [Option.some.injEq] at hb
    subst hb
    exact aS hkk hq
   ·cases hb
  ·cases hb
 ·simp only [A1] at hx hy
  subst hx; subst hy
  simp only [Option.some.injEq] at hb
  subst hb
  exact ⟨_,by simp [eqGuard,binOp,Op.stringOp,beq_toListBytes],rfl,trivial⟩
 ·simp only [A1] at hx hy
  subst hx; subst hy
  simp only [Option.some.injEq] at hb
  subst hb
  exact ⟨_,by simp [eqGuard,binOp,Op.stringOp,beq_toListBytes],rfl,trivial⟩
 ·simp only [A1] at hx hy
  subst hx; subst hy
  rename_i u1 u2
  split at hb
  ·rename_i hsz
   simp only [Option.some.injEq] at hb
   subst hb
   have hmx:¬ (((u1.size+u2.size:Nat):Int) > IntKind.i64.max):=by
    have hm:IntKind.i64.max=9223372036854775807:=by decide
    rw [hm]
    have:=hsz
    unfold B0 at this
    omega
   refine ⟨_,by simp only [eqGuard,binOp,Op.stringOp]; rw [if_neg hmx]; simp,rfl,by simp only [TV.WF,ByteArray.size_append]; exact Q1 hsz⟩
  ·cases hb
 ·simp only [A1] at hx hy
  subst hx; subst hy
  simp only [Option.some.injEq] at hb
  subst hb
  have ht:P.underlying t=some .bool:=by
   simp only [OF] at hk
   split at hk
   ·assumption
   ·cases hk
  exact ⟨_,by simp [eqGuard_at_bool,binOp,Op.equal,Op.maxDepth,run_equalIn_bool' (P:=P) w _ t _ _ ht],rfl,trivial⟩
 ·simp only [A1] at hx hy
  subst hx; subst hy
  simp only [Option.some.injEq] at hb
  subst hb
  have ht:P.underlying t=some .bool:=by
   simp only [OF] at hk
   split at hk
   ·assumption
   ·cases hk
  exact ⟨_,by simp [eqGuard_at_bool,binOp,Op.equal,Op.maxDepth,run_equalIn_bool' (P:=P) w _ t _ _ ht],rfl,trivial⟩
 ·rename_i cs ds
  split at hb
  ·rename_i hn
   split at hb
   ·rename_i q hq
    simp only [Option.some.injEq] at hb
    subst hb
    obtain ⟨xs,ys,rfl,rfl,h1,h2⟩:=Ti (op:=.eql) (x:=x) (y:=y) hn hk hx hy hq
    exact ⟨_,by simp only [Sem.run_bind,h1,Result.andThen_ok,run_eql_struct,h2],rfl,trivial⟩
   ·cases hb
  ·cases hb
 ·rename_i cs ds
  split at hb
  ·rename_i hn
   split at hb
   ·rename_i q hq
    simp only [Option.some.injEq] at hb
    subst hb
    obtain ⟨xs,ys,rfl,rfl,h1,h2⟩:=Ti (op:=.neq) (x:=x) (y:=y) hn hk hx hy hq
    exact ⟨_,by simp only [Sem.run_bind,h1,Result.andThen_ok,run_neq_struct,h2],rfl,trivial⟩
   ·cases hb
  ·cases hb
 ·cases hb
theorem YQ {S:FuncId->List TV->B9->Prop} {F0:Nat->Nat->Prop} {w0:W0} {env:AC} {a:Act} {G:C1} {d:Nat} {o:Oper} {K:EV->AC->Prop} (hI:AT F0 w0 env a w G) (hd:d<a.tmps.size) {x x':Operand} {y y':AG} {k:BK} {op:BinOp} {t t':TypeId}
  (hop:o.op=.binOp op t x x' t') (hk:OF P k t=true) (h1:AL x y=true) (h2:AL x' y'=true) (h:(AE.bin k op y y').wp S env (some d) K):BG P F0 w0 a w o d K:=by
 simp only [AE.wp] at h
 split at h
 ·rename_i tx ty hx hy
  cases hb:FM k op tx ty with
  | none=>rw [hb] at h; exact h.elim
  | some r=>
   rw [hb] at h
   have v1:=BA hI h1 hx
   have v2:=BA hI h2 hy
   obtain ⟨v,hr,h3,h4⟩:=aR (x:=x) (y:=x') hk hb v1.1 v2.1 v1.2 v2.2
   refine C8 hI hd (v:=v) ?_ h3 h4 h
   simp only [execOp,hop,Sem.run_bind] at hr ⊢
   rw [hr]
   rfl
 ·exact h.elim
end
end Go.Sf
