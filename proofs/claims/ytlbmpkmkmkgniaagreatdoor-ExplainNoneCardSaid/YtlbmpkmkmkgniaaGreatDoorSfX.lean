/- Lists that nobody else reads: stores into them, appends, calls that turn them. -/
import Derived.Test.YtlbmpkmkmkgniaaGreatDoorSfTake
namespace Go.Sf
open Go.RowKit (Below)
def Pw:Operand->Bool
 | .const v=>KX v
 | _=>false
theorem U3 {α:Type} {a:Array α} {x:α} (h:a.toList=[x]):a=#[x]:=by
 cases a; simp_all
section flat
variable {w w':World} {F F':Nat->Nat->Prop}
mutual
theorem Uo:∀ (t:TV),t.flat=true->∀ v,A1 w F t v->A1 w' F' t v
 | .int _ _,_,_,h=>h
 | .bool _,_,_,h=>h
 | .str _,_,_,h=>h
 | .agg cs,hf,v,h=>by
  simp only [A1] at h ⊢
  obtain ⟨vs,h1,h2,h3⟩:=h
  exact ⟨vs,h1,I5 cs (by simpa [TV.flat] using hf) _ h2,h3⟩
 | .undef,hf,_,_=>by simp [TV.flat] at hf
 | .xl _ _,hf,_,_=>by simp [TV.flat] at hf
 | .nil,hf,_,_=>by simp [TV.flat] at hf
 | .list _ _,hf,_,_=>by simp [TV.flat] at hf
 | .pt _,hf,_,_=>by simp [TV.flat] at hf
 | .clo _ _,hf,_,_=>by simp [TV.flat] at hf
theorem I5:∀ (ts:List TV),TV.flats ts=true->∀ vs,AQ w F ts vs->AQ w' F' ts vs
 | [],_,vs,h=>h
 | t::ts,hf,vs,h=>by
  simp only [TV.flats,zzZ] at hf
  simp only [AQ] at h ⊢
  obtain ⟨v,r,h1,h2,h3⟩:=h
  exact ⟨v,r,h1,Uo t hf.1 v h2,I5 ts hf.2 r h3⟩
end
theorem PU:∀ (xs ys:List TV),TV.flats (xs++ys)=(TV.flats xs&&TV.flats ys)
 | [],ys=>by simp [TV.flats]
 | x::xs,ys=>by simp [TV.flats,PU xs ys,Bool.and_assoc]
theorem VN (t:TV) (h:t.flat=true):TV.flats t.cells=true:=by
 cases t <;> simp_all [TV.flat,TV.cells,TV.flats]
theorem MY:∀ (es:List TV),TV.flats es=true->TV.flats (es.flatMap TV.cells)=true
 | [],_=>rfl
 | e::es,h=>by
  simp only [TV.flats,zzZ] at h
  rw [List.flatMap_cons,PU,VN e h.1,MY es h.2]; rfl
end flat
section
variable {P:Program} {S:FuncId->List TV->CH->Prop} {F0:Nat->Nat->Prop} {w0:W0} {env:AC} {a:Act} {w:World} {G:DE} {d:Nat} {o:Oper} {K:EV->AC->Prop}
theorem AC.xat_of_xo {env:AC} {q n:Nat} {es:List TV} (h:env.get q=.xo n es):env.xat q none=some (n,es):=by simp only [AC.xat,h]
theorem Ll {x:Operand} {y:AJ} (hI:AT F0 w0 env a w G) (hok:AP x y=true) {p:(Nat × Option Nat) × Nat × List TV} (h:y.xlist env=some p):env.xat p.1.1 p.1.2=some (p.2.1,p.2.2)∧XV a w p.1.1 p.1.2 (a.eval x):=by
 cases y with
 | c t=>simp [AJ.xlist] at h
 | s m=>
  have hx:x=.tmp m:=by
   cases x <;> simp [AP] at hok
   rw [hok]
  subst hx
  simp only [AJ.xlist] at h
  split at h
  ·rename_i n es he
   simp only [zzY] at h
   subst h
   exact ⟨by simp only [AC.xat,he],rfl⟩
  ·rename_i q i he
   split at h
   ·rename_i p' hq
    simp only [zzY] at h
    subst h
    have:=A4 hI he (by simp)
    simp only [AS] at this
    exact ⟨hq,this ⟨_,hq⟩⟩
   ·cases h
  ·cases h
theorem L8 {q:Nat} {i:Option Nat} {n:Nat} {es:List TV} (h:AT F0 w0 env a w G) (hq:env.xat q i=some (n,es)) {v:Value} (hv:XV a w q i v) :
  (TV.list n es).WF∧∃ xs,Jr w n v es.length xs (G q i)∧AQ w (AY w0.heap.size F0 G) (es.flatMap TV.cells) xs∧(∀ e∈es,e.cells.length=n)∧∀ x∈xs,x.oneCell'=true:=by
 cases i with
 | none=>
  have hq:=AC.xat_none hq
  have hr:=A4 h hq (by simp)
  have hw:=h.wf q
  rw [hq] at hw
  simp only [AS] at hr
  simp only [XV] at hv
  rw [hv]
  exact ⟨hw,hr⟩
 | some k=>
  obtain ⟨cs,hs,hk⟩:=AC.xat_some hq
  have hr:=A4 h hs (by simp)
  have hw:=h.wf q
  rw [hs] at hw
  simp only [AS] at hr
  obtain ⟨b,c,T,h1,h2,h3,h4,h5⟩:=hr
  obtain ⟨b',c',T',e1,e2,e3⟩:=hv
  rw [h1] at e1
  simp only [Value.pointer.injEq,zzY,Addr.mk.injEq,and_true,and_self] at e1
  subst e1
  rw [h2] at e2
  cases e2
  obtain ⟨x,hx,hc⟩:=h5 k _ hk
  rw [hx] at e3
  cases e3
  exact ⟨hw _ (List.mem_of_getElem? hk),hc⟩
theorem bI {q:Nat} {i:Option Nat} {n:Nat} {es:List TV} (h:AT F0 w0 env a w G) (hq:env.xat q i=some (n,es)) {v:Value} (hv:XV a w q i v):∀ b lo,G q i=some (b,lo)->lo=0:=by
 intro b lo hz
 obtain ⟨_,xs,⟨z0,_,hz0⟩,_⟩:=L8 h hq hv
 rw [hz0] at hz
 cases z0 with
 | none=>simp at hz
 | some p=>simp only [Option.map_some,zzY,Prod.mk.injEq] at hz; exact hz.2.symm
theorem XW {q:Nat} {i:Option Nat} {n:Nat} {es:List TV} (h:AT F0 w0 env a w G) (hq:env.xat q i=some (n,es)) {v:Value} (hv:XV a w q i v) (hne:es≠[]) :
  ∃ g cap cur e xs,v=.slice (some ⟨g,0,none⟩) es.length cap∧w.heap[g]?=some (.cells cur e (0,0))∧es.length<=cap∧cap<=maxLen∧cur.size=cap*n∧cur.toList.take (es.length*n)=xs∧G q i=some (g,0)∧AQ w (AY w0.heap.size F0 G) (es.flatMap TV.cells) xs∧(∀ e∈es,e.cells.length=n)∧(∀ x∈xs,x.oneCell'=true)∧xs.length=es.length*n:=by
 obtain ⟨_,xs,⟨z0,h1,hz0⟩,h2,h3,h4⟩:=L8 h hq hv
 rcases h1.2 with ⟨_,hn,_⟩ | ⟨g,cap,cur,e,e1,e2,e3,e4,e5,e6,e7⟩
 ·exact absurd (List.eq_nil_of_length_eq_zero hn) hne
 ·exact ⟨g,cap,cur,e,xs,e1,e2,e3,e4,e5,e6,by rw [hz0,e7]; rfl,h2,h3,h4,h1.1⟩
theorem AT.rexo (h:AT F0 w0 env a w G) {q:Nat} {i:Option Nat} {n:Nat} {es:List TV} (hq:env.xat q i=some (n,es)) {v:Value} (hv:XV a w q i v) {w':World} (hb:N6 (G q i) w w') {es':List TV} {xs':List Value} (hrow:Jr w' n v es'.length xs' (G q i))
  (hrep:DK w w' (AY w0.heap.size F0 G) (AY w0.heap.size F0 G)->AQ w' (AY w0.heap.size F0 G) (es'.flatMap TV.cells) xs') (hn:∀ e∈es',e.cells.length=n) (h1:∀ x∈xs',x.oneCell'=true) (hw:(TV.list n es').WF) :
  AT F0 w0 (env.xput q i n es') a w' G:=by
 obtain ⟨b1,b2,b3,b4,b5⟩:=hb
 have hz0:=bI h hq hv
 have hag:DK w w' (AY w0.heap.size F0 G) (AY w0.heap.size F0 G):=by
  intro b o u hc hF
  refine ⟨?_,hF⟩
  have hlt:b<w.heap.size:=by
   rcases Nat.lt_or_ge b w.heap.size with h | h
   ·exact h
   ·simp [World.cell?,Array.getElem?_eq_none h] at hc
  rw [World.cell?_of_block (w:=w) (a:=⟨b,o,none⟩) (b5 b hlt (fun lo hz=>hF (.inr ⟨q,i,lo,hz,by rw [hz0 b lo hz]; exact Nat.zero_le _⟩)))]
  exact hc
 have hbelow:Iw F0 w0 w':=h.below.but b1 b2 b3 b4 (Z:=fun k=>∃ lo,G q i=some (k,lo)) (fun b ⟨lo,hz⟩=>(h.lt _ _ _ _ hz).2.imp id (fun e o=>e o (by rw [hz0 b lo hz]; exact Nat.zero_le _))) (fun k hk hz=>b5 k (Nat.lt_of_lt_of_le hk h.below.size) (fun lo e=>hz ⟨lo,e⟩))
 have hlt:∀ s i b lo,G s i=some (b,lo)->b<w'.heap.size∧(w0.heap.size<=b∨∀ o,lo<=o->w0.E b o):=fun s i b lo hs=>⟨Nat.lt_of_lt_of_le (h.lt s i b lo hs).1 b4,(h.lt s i b lo hs).2⟩
 have hxv:∀ r j,(∃ pp,env.xat r j=some pp)->∀ v,XV a w r j v->XV a w' r j v:=by
  intro r j hx
  cases j with
  | none=>exact fun v hv=>hv
  | some k=>
   refine h.xv hx rfl (fun b hb=>b5 b (h.lt _ _ _ _ hb).1 (fun lo hz=>?_))
   obtain ⟨rfl,rfl⟩:=h.uniq _ _ _ _ _ _ _ hz hb
   have h1:=AC.xat_none hq
   obtain ⟨⟨n1,es1⟩,hx1⟩:=hx
   obtain ⟨cs,h2,_⟩:=AC.xat_some hx1
   rw [h1] at h2; cases h2
 have oth:∀ (p:Nat) (e:EV),p<a.tmps.size->p≠q->(∀ cs,e=.bx cs->∃ cs',env.get q=.bx cs')->(∀ j,(∃ pp,AC.xat ((q,e)::env) q j=some pp)->∃ pp,env.xat q j=some pp)->AS a w' (AY w0.heap.size F0 G) G ((q,e)::env) p (env.get p) (slot a p):=by
  intro p e hp hpq hbx hxa
  refine AS.kept hag (fun _=>rfl) (fun j b lo hz=>b5 b (h.lt _ _ _ _ hz).1 (fun lo' hz'=>hpq (h.uniq _ _ _ _ _ _ _ hz hz').1)) (fun r off _ ⟨cs,hcs⟩=>?_) (fun r j _ ⟨pp,hpp⟩=>?_) (h.slots p hp)
  ·rw [AC.get_cons] at hcs
   split at hcs
   ·rename_i er; subst er; exact ⟨hbx cs hcs,rfl⟩
   ·exact ⟨⟨cs,hcs⟩,rfl⟩
  ·have hx:∃ pp,env.xat r j=some pp:=by
    by_cases hqr:q=r
    ·subst hqr; exact hxa j ⟨pp,hpp⟩
    ·rw [AC.xat_cons hqr] at hpp; exact ⟨pp,hpp⟩
   exact ⟨hx,hxv r j hx⟩
 cases i with
 | none=>
  have hq:=AC.xat_none hq
  have hsz:=GA h hq (by simp)
  refine ⟨h.uniq,hlt,hbelow,h.defers,fun p hp=>?_,fun p hp=>?_,fun p=>?_⟩
  ·simp only [AC.xput]; rw [AC.get_cons,if_neg (by omega)]; exact h.dom p hp
  ·simp only [AC.xput]
   rw [AC.get_cons]
   by_cases hqp:q=p
   ·subst hqp
    rw [if_pos rfl]
    simp only [AS]
    simp only [XV] at hv
    rw [hv] at hrow
    exact ⟨xs',hrow,hrep hag,hn,h1⟩
   ·rw [if_neg hqp]
    refine oth p _ hp (fun e=>hqp e.symm) (by simp) (fun j ⟨pp,hpp⟩=>?_)
    cases j with
    | none=>exact ⟨(n,es),by simp only [AC.xat,hq]⟩
    | some k=>
     obtain ⟨n1,es1⟩:=pp
     obtain ⟨cs,h2,_⟩:=AC.xat_some hpp
     rw [AC.get_cons,if_pos rfl] at h2; cases h2
  ·simp only [AC.xput]
   rw [AC.get_cons]
   split
   ·exact hw
   ·exact h.wf p
 | some k=>
  obtain ⟨cs,hs,hk⟩:=AC.xat_some hq
  have hsz:=GA h hs (by simp)
  have hwc:=h.wf q
  rw [hs] at hwc
  have hr:=A4 h hs (by simp)
  simp only [AS] at hr
  obtain ⟨b,c,T,e1,e2,e3,e4,e5⟩:=hr
  obtain ⟨b',c',T',f1,f2,f3⟩:=hv
  rw [e1] at f1
  simp only [Value.pointer.injEq,zzY,Addr.mk.injEq,and_true,and_self] at f1
  subst f1
  rw [e2] at f2
  cases f2
  have hbb:w'.heap[b]?=w.heap[b]?:=b5 b (h.lt _ _ _ _ e4).1 (fun lo hz=>by
   have:=(h.uniq _ _ _ _ _ _ _ hz e4).2; cases this)
  refine ⟨h.uniq,hlt,hbelow,h.defers,fun p hp=>?_,fun p hp=>?_,fun p=>?_⟩
  ·simp only [AC.xput,hs]; rw [AC.get_cons,if_neg (by omega)]; exact h.dom p hp
  ·simp only [AC.xput,hs]
   rw [AC.get_cons]
   by_cases hqp:q=p
   ·subst hqp
    rw [if_pos rfl]
    simp only [AS]
    refine ⟨b,c,T,e1,by rw [hbb]; exact e2,by simpa using e3,e4,fun j d hj=>?_⟩
    rw [List.getElem?_set] at hj
    by_cases hjk:k=j
    ·subst hjk
     rw [if_pos rfl] at hj
     split at hj
     ·simp only [zzY] at hj
      subst hj
      exact ⟨v,f3,xs',hrow,hrep hag,hn,h1⟩
     ·cases hj
    ·rw [if_neg hjk] at hj
     obtain ⟨x,g1,g2⟩:=e5 j d hj
     exact ⟨x,g1,g2.kept hag (fun b lo hz=>b5 b (h.lt _ _ _ _ hz).1 (fun lo' hz'=>hjk (by
      have:=(h.uniq _ _ _ _ _ _ _ hz' hz).2
      simpa using this)))⟩
   ·rw [if_neg hqp]
    refine oth p _ hp (fun e=>hqp e.symm) (fun _ _=>⟨cs,hs⟩) (fun j ⟨pp,hpp⟩=>?_)
    obtain ⟨n1,es1⟩:=pp
    cases j with
    | none=>have h2:=AC.xat_none hpp; rw [AC.get_cons,if_pos rfl] at h2; cases h2
    | some j=>
     obtain ⟨cs',h2,h3⟩:=AC.xat_some hpp
     rw [AC.get_cons,if_pos rfl] at h2
     simp only [EV.bx.injEq] at h2
     subst h2
     rw [List.getElem?_set] at h3
     by_cases hjk:k=j
     ·subst hjk; exact ⟨(n,es),hq⟩
     ·rw [if_neg hjk] at h3
      exact ⟨(n1,es1),by simp only [AC.xat,hs,h3]⟩
  ·simp only [AC.xput,hs]
   rw [AC.get_cons]
   split
   ·intro y hy
    rcases List.mem_or_eq_of_mem_set hy with hy | rfl
    ·exact hwc y hy
    ·exact hw
   ·exact h.wf p
theorem AT.xgo (h:AT F0 w0 env a w G) {q n:Nat} {es:List TV} (hq:env.get q=.xo n es) (hd:d<a.tmps.size) (hdq:d≠q) {w':World} {v:Value} {e:EV} {z':Option (Nat × Nat)}
  (b1:w'.os=w.os) (b2:w'.tape=w.tape) (b3:w'.output=w.output) (b4:w.heap.size<=w'.heap.size) (b5:∀ k,k<w.heap.size->(∀ lo,G q none≠some (k,lo))->w'.heap[k]?=w.heap[k]?)
  (hz':∀ b lo,z'=some (b,lo)->b<w'.heap.size∧(w.heap.size<=b∨∃ lo',G q none=some (b,lo')))
  (hnb:∀ cs,e≠.bx cs) (hno:(∃ n es,e=.xo n es)->env.noRef d=true)
  (hrep:∀ (F':Nat->Nat->Prop) (G':DE) (env':AC) (a':Act),DK w w' (AY w0.heap.size F0 G) F'->G' d none=z'->AS a' w' F' G' env' d e v) (hw:e.WF) :
  C2 F0 w0 ((d,e)::(q,.undef)::env) (a.put (some d) v) w':=by
 let G':DE:=F3 (F3 G q (fun _=>none)) d (fun i=>if i=none then z' else none)
 have hz0:=bI h (AC.xat_of_xo hq) (v:=slot a q) rfl
 have hG':∀ p i b lo,G' p i=some (b,lo)->(p=d∧i=none∧z'=some (b,lo))∨(p≠d∧p≠q∧G p i=some (b,lo)):=by
  intro p i b lo hp
  by_cases hpd:p=d
  ·subst hpd
   simp only [G',B0] at hp
   split at hp
   ·rename_i hi; exact .inl ⟨rfl,hi,hp⟩
   ·cases hp
  ·simp only [G',BR _ _ _ _ hpd] at hp
   by_cases hpq:p=q
   ·subst hpq; rw [B0] at hp; cases hp
   ·rw [BR _ _ _ _ hpq] at hp
    exact .inr ⟨hpd,hpq,hp⟩
 have hag:DK w w' (AY w0.heap.size F0 G) (AY w0.heap.size F0 G'):=by
  intro b o u hc hF
  have hlt:b<w.heap.size:=World.block_lt_of_cell? w ⟨b,o,none⟩ hc
  have hnz:∀ lo,G q none≠some (b,lo):=fun lo hz=>hF (.inr ⟨q,none,lo,hz,by rw [hz0 b lo hz]; exact Nat.zero_le _⟩)
  refine ⟨?_,?_⟩
  ·rw [World.cell?_of_block (w:=w) (a:=⟨b,o,none⟩) (b5 b hlt hnz)]
   exact hc
  ·rintro (h1 | ⟨p,i,lo,h1,h2⟩)
   ·exact hF (.inl h1)
   ·rcases hG' _ _ _ _ h1 with ⟨_,_,e1⟩ | ⟨_,_,e1⟩
    ·rcases (hz' _ _ e1).2 with h3 | ⟨lo',h3⟩
     ·omega
     ·exact hnz _ h3
    ·exact hF (.inr ⟨p,i,lo,e1,h2⟩)
 refine ⟨G',?_,?_,h.below.but b1 b2 b3 b4 (Z:=fun k=>∃ lo,G q none=some (k,lo)) (fun b ⟨lo,hz⟩=>(h.lt _ _ _ _ hz).2.imp id (fun e o=>e o (by rw [hz0 b lo hz]; exact Nat.zero_le _))) (fun k hk hz=>b5 k (Nat.lt_of_lt_of_le hk h.below.size) (fun lo e=>hz ⟨lo,e⟩)),by rw [KA]; exact h.defers,?_,?_,?_⟩
 ·intro p i p' i' b lo lo' e1 e2
  have other:∀ p i lo lo',z'=some (b,lo)->p≠q->G p i=some (b,lo')->False:=by
   intro p i lo lo' f1 f2 f3
   rcases (hz' _ _ f1).2 with h3 | ⟨lo'',h3⟩
   ·have:=(h.lt _ _ _ _ f3).1; omega
   ·exact f2 (h.uniq _ _ _ _ _ _ _ f3 h3).1
  rcases hG' _ _ _ _ e1 with ⟨rfl,rfl,f1⟩ | ⟨n1,n2,f1⟩ <;> rcases hG' _ _ _ _ e2 with ⟨rfl,rfl,f2⟩ | ⟨m1,m2,f2⟩
  ·exact ⟨rfl,rfl⟩
  ·exact (other _ _ _ _ f1 m2 f2).elim
  ·exact (other _ _ _ _ f2 n2 f1).elim
  ·exact h.uniq _ _ _ _ _ _ _ f1 f2
 ·intro p i b lo e1
  rcases hG' _ _ _ _ e1 with ⟨_,_,f1⟩ | ⟨_,_,f1⟩
  ·refine ⟨(hz' _ _ f1).1,?_⟩
   rcases (hz' _ _ f1).2 with h3 | ⟨lo',h3⟩
   ·exact .inl (Nat.le_trans h.below.size h3)
   ·exact (h.lt _ _ _ _ h3).2.imp id (fun e o _=>e o (by rw [hz0 _ _ h3]; exact Nat.zero_le _))
  ·exact ⟨Nat.lt_of_lt_of_le (h.lt _ _ _ _ f1).1 b4,(h.lt _ _ _ _ f1).2⟩
 ·intro p hp
  rw [E9] at hp
  have:=GA h hq (by simp)
  rw [AC.get_cons,if_neg (by omega),AC.get_cons,if_neg (by omega)]
  exact h.dom p hp
 ·intro p hp
  rw [E9] at hp
  rw [AC.get_cons]
  by_cases hpd:d=p
  ·subst hpd
   rw [if_pos rfl,Hf _ _ _ hd]
   exact hrep _ _ _ _ hag (by simp only [G',B0,if_true])
  ·rw [if_neg hpd,BD _ _ _ _ hpd,AC.get_cons]
   split
   ·trivial
   ·rename_i hqp
    refine AS.kept hag (fun i=>by simp only [G']; rw [BR _ _ _ _ (fun e=>hpd e.symm),BR _ _ _ _ (fun e=>hqp e.symm)]) (fun i b lo hz=>b5 b (h.lt _ _ _ _ hz).1 (fun lo' hz'=>hqp (h.uniq _ _ _ _ _ _ _ hz' hz).1)) (fun r off _ ⟨cs,hcs⟩=>?_) (fun r i hr ⟨pp,hpp⟩=>?_) (h.slots p hp)
    ·rw [AC.get_cons] at hcs
     by_cases hdr:d=r
     ·rw [if_pos hdr] at hcs; exact absurd hcs (hnb cs)
     ·rw [if_neg hdr,AC.get_cons] at hcs
      split at hcs
      ·cases hcs
      ·exact ⟨⟨cs,hcs⟩,BD _ _ _ _ hdr⟩
    ·by_cases hdr:d=r
     ·subst hdr
      have hno':env.noRef d=true:=by
       rcases AC.xat_same hpp with ⟨cs,hc⟩ | hc
       ·exact absurd hc (hnb cs)
       ·exact hno hc
      have hx:=AC.noRef_x d env hno' p
      rcases hr with hr | ⟨c,hr⟩
      ·exact absurd hr (hx.1 i)
      ·exact absurd hr (hx.2 i c)
     ·rw [AC.xat_cons hdr] at hpp
      have h2:=AC.xat_drop (by simp) (by simp) hpp
      exact ⟨⟨pp,h2.2⟩,h.xv ⟨pp,h2.2⟩ (BD _ _ _ _ hdr) (fun b hb=>b5 b (h.lt _ _ _ _ hb).1 (fun lo' hz'=>h2.1 (h.uniq _ _ _ _ _ _ _ hz' hb).1))⟩
 ·intro p
  rw [AC.get_cons]
  split
  ·exact hw
  ·rw [AC.get_cons]
   split
   ·trivial
   ·exact h.wf p
theorem U1 (hI:AT F0 w0 env a w G) (hd:d<a.tmps.size) {s:Nat} (hop:o.op=.move (.tmp s)∨o.op=.assign (.tmp s)) (h:(AH.xal s).wp S env (some d) K):BS P F0 w0 a w o d K:=by
 simp only [AH.wp] at h
 split at h
 ·rename_i n es hs
  refine ⟨slot a s,w,by rcases hop with hop | hop <;> simp [execOp,hop,show a.eval (.tmp s)=slot a s from rfl],_,_,h,_,hI.quiet (Below.refl _ _) d hd (.la s none) _ (fun _=>none) (by simp) (by simp) (by simp) ?_ trivial⟩
  simp only [AS]
  rintro ⟨p,hx⟩
  have h1:=AC.xat_drop (by simp) (by simp) hx
  simp only [XV]
  rw [BD _ _ _ _ h1.1]
 ·exact h.elim
theorem Yn (hI:AT F0 w0 env a w G) (hd:d<a.tmps.size) {x:Operand} {y:AJ} {t e:TypeId} (hop:o.op=.call { callee:=.builtin .len,args:=#[x],argTypes:=#[t] }) (hok:AP x y=true)
  (he:P.underlying t=some (.slice e)) (h:(AH.xlen y).wp S env (some d) K):BS P F0 w0 a w o d K:=by
 simp only [AH.wp] at h
 cases hp:y.xlist env with
 | none=>rw [hp] at h; exact h.elim
 | some p=>
  rw [hp] at h
  simp only [A6] at h
  obtain ⟨h1,h2⟩:=Ll hI hok hp
  obtain ⟨hw,hr⟩:=L8 hI h1 h2
  simp only [TV.WF,H5] at hw
  obtain ⟨xs,⟨z0,h3,_⟩,_⟩:=hr
  have hv:∃ ad cap,a.eval x=.slice ad p.2.2.length cap:=by
   rcases h3.2 with ⟨e1,e2,_⟩ | ⟨g,cap,_,_,e1,_⟩
   ·exact ⟨none,0,by rw [e1,e2]⟩
   ·exact ⟨_,_,e1⟩
  obtain ⟨ad,cap,hv⟩:=hv
  refine DJ hI hd (v:=.int .i64 p.2.2.length) (t:=.int .i64 p.2.2.length) ?_ rfl ⟨by simp only [IntKind.min,IntKind.signed,IntKind.bits,if_true]; omega,by simp only [IntKind.max_i64]; omega⟩ h
  simp [execOp,hop,resolve,invoke,builtin,Builtin.len_,run_underlying he,hv,goInt]
theorem aK (hI:AT F0 w0 env a w G) (hd:d<a.tmps.size) {x i:Operand} {y j:AJ} {t:TypeId} {n:Nat} (hop:o.op=.indexAddr t x i) (hok:AP x y=true) (hok':AP i j=true) (ht:KB P t=some n) (h:(AH.xia y j n).wp S env (some d) K):BS P F0 w0 a w o d K:=by
 simp only [AH.wp] at h
 cases hp:y.xlist env with
 | none=>rw [hp] at h; exact h.elim
 | some p=>
  obtain ⟨⟨q,i'⟩,m,es⟩:=p
  rw [hp] at h
  simp only [A6] at h
  split at h
  ·rename_i k jj hj
   obtain ⟨⟨_,rfl⟩,h0,h1,hK⟩:=h
   obtain ⟨hq,hx⟩:=Ll hI hok hp
   have hjv:=BL hI hok' hj
   simp only [A1] at hjv
   obtain ⟨g,cap,cur,e,xs,e1,_⟩:=XW hI hq hx (by rintro rfl; simp at h1; omega)
   unfold KB at ht
   split at ht
   ·rename_i el hu
    have hjj:0<=jj∧jj<(es.length:Int):=⟨h0,h1⟩
    refine ⟨.pointer (some ⟨g,jj.toNat*m,none⟩),w,?_,_,_,hK,_,hI.quiet (Below.refl _ _) d hd (.lp q i' (jj.toNat*m)) _ (fun _=>none) (by simp) (by simp) (by simp) ?_ trivial⟩
    ·simp [execOp,hop,e1,hjv.1,Instr.indexAt,asIntOf,run_underlying hu,hjj,DT ht,Addr.add_lit]
    ·simp only [AS]
     rintro ⟨pp,hxx⟩
     have hd1:=AC.xat_drop (by simp) (by simp) hxx
     exact ⟨g,_,_,hI.xv ⟨_,hd1.2⟩ (BD _ _ _ _ hd1.1) (fun _ _=>rfl) _ (by rw [←e1]; exact hx),rfl⟩
   ·cases ht
  ·exact h.elim
theorem Wl {x:Operand} {y:AJ} (hI:AT F0 w0 env a w G) (hok:AP x y=true) {q c:Nat} {i:Option Nat} {p:Nat × List TV} (hy:y.ev env=.lp q i c) (hq:env.xat q i=some p):∃ g len cap,XV a w q i (.slice (some ⟨g,0,none⟩) len cap)∧a.eval x=.pointer (some ⟨g,c,none⟩):=by
 cases y with
 | c t=>simp [AJ.ev] at hy
 | s m=>
  have hx:x=.tmp m:=by
   cases x <;> simp [AP] at hok
   rw [hok]
  subst hx
  simp only [AJ.ev] at hy
  have:=A4 hI hy (by simp)
  simp only [AS] at this
  exact this ⟨p,hq⟩
theorem aJ (hI:AT F0 w0 env a w G) (hd:d<a.tmps.size) {x:Operand} {y:AJ} {t:TypeId} {f k:Nat} (hop:o.op=.fieldAddr t x f) (hok:AP x y=true) (ht:ND P t f=some k) (h:(AH.xfa y k).wp S env (some d) K):BS P F0 w0 a w o d K:=by
 simp only [AH.wp] at h
 split at h
 ·rename_i q i c hy
  split at h
  ·rename_i pq hq
   obtain ⟨g,len,cap,e1,e2⟩:=Wl hI hok hy hq
   refine ⟨.pointer (some ⟨g,c+k,none⟩),w,by simp [execOp,hop,e2,Pl ht],_,_,h,_,hI.quiet (Below.refl _ _) d hd (.lp q i (c+k)) _ (fun _=>none) (by simp) (by simp) (by simp) ?_ trivial⟩
   simp only [AS]
   rintro ⟨pp,hxx⟩
   have hd1:=AC.xat_drop (by simp) (by simp) hxx
   exact ⟨g,_,_,hI.xv ⟨_,hd1.2⟩ (BD _ _ _ _ hd1.1) (fun _ _=>rfl) _ e1,rfl⟩
  ·exact h.elim
 ·exact h.elim
theorem aL (hI:AT F0 w0 env a w G) (hd:d<a.tmps.size) {x:Operand} {y:AJ} {t:TypeId} (hop:o.op=.load t x) (hok:AP x y=true) (ht:DH P t=some false) (h:(AH.xld y).wp S env (some d) K):BS P F0 w0 a w o d K:=by
 simp only [AH.wp] at h
 split at h
 ·rename_i q i c hy
  split at h
  ·rename_i pq hq
   obtain ⟨n,es⟩:=pq
   simp only at h
   cases hc:(es.flatMap TV.cells)[c]? with
   | none=>rw [hc] at h; exact h.elim
   | some t'=>
    rw [hc] at h
    simp only [A6] at h
    have hne:es≠[]:=by rintro rfl; simp at hc
    obtain ⟨g,len,cap,e1,e2⟩:=Wl hI hok hy hq
    obtain ⟨g',cap',cur,e,xs,f1,f2,f3,f4,f5,f6,f7,f8,f9,f10,f11⟩:=XW hI hq e1 hne
    simp only [Value.slice.injEq,zzY,Addr.mk.injEq,and_true] at f1
    obtain ⟨rfl,rfl,rfl⟩:=f1
    have hlt:c<(es.flatMap TV.cells).length:=by
     rcases Nat.lt_or_ge c (es.flatMap TV.cells).length with h | h
     ·exact h
     ·rw [List.getElem?_eq_none h] at hc; cases hc
    have hxl:=CC f8
    obtain ⟨y,hx⟩:∃ y,xs[c]?=some y:=⟨_,List.getElem?_eq_getElem (by omega)⟩
    have hcell:w.cell? ⟨g,c,none⟩=some y:=by
     rw [cell_of_row w g c cur e (0,0) f2]
     have:=hx
     rw [←f6,List.getElem?_take] at this
     split at this
     ·simpa using this
     ·cases this
    have hw:=(L8 hI hq e1).1
    refine DJ hI hd (v:=y) ?_ (((CD _ _).1 f8).2 c t' _ hc hx) ?_ h
    ·simp [execOp,hop,e2,Instr.loadAt,Instr.sureAddr,loadVar,E4 ht,hcell]
    ·have:=hw.2
     rw [CJ] at this
     have hm:=List.mem_of_getElem? hc
     rw [List.mem_flatMap] at hm
     obtain ⟨e',he',hte⟩:=hm
     exact CJ.1 (JS (this e' he')) t' hte
  ·exact h.elim
 ·exact h.elim
theorem Vd {t:TV} (h:TV.WFs t.cells):t.WF:=by
 cases t <;> simp only [TV.cells,TV.WFs,and_true] at h <;> first | exact h | (simp only [TV.WF]; exact h)
theorem U9 {es:List TV} (h:TV.WFs es):TV.WFs (es.flatMap TV.cells):=by
 rw [CJ] at h ⊢
 intro t ht
 rw [List.mem_flatMap] at ht
 obtain ⟨e,he,ht⟩:=ht
 exact CJ.1 (JS (h e he)) t ht
theorem Po:∀ {es:List TV},TV.WFs (es.flatMap TV.cells)->TV.WFs es
 | [],_=>trivial
 | e::es,h=>by
  rw [List.flatMap_cons] at h
  rw [KJ] at h
  exact ⟨Vd h.1,Po h.2⟩
theorem aM (hI:AT F0 w0 env a w G) {x v:Operand} {x' v':AJ} {t:TypeId} (hop:o.op=.store t x v) (hx:AP x x'=true) (hv:AP v v'=true) (hn:EU P t=some 1) (h:(AH.xst x' v').wp S env none K):Lr P F0 w0 a w o K:=by
 simp only [AH.wp] at h
 split at h
 ·rename_i q i c hy
  split at h
  ·rename_i n es u hq hu
   obtain ⟨h1,h2,es',h3,h4,h5,hK⟩:=h
   obtain ⟨g,len,cap,e1,e2⟩:=Wl hI hx hy hq
   have hq':=(L8 hI hq e1).1
   have h6:TV.WFs es':=by
    have h7:=U9 hq'.2
    have h8:TV.WFs (es'.flatMap TV.cells):=by
     rw [h3,CJ]
     intro t ht
     rcases List.mem_or_eq_of_mem_set ht with ht | rfl
     ·exact CJ.1 h7 t ht
     ·have:=(BL hI hv (t:=t) (by simp [AJ.val,hu,EV.val])).2
      exact this
    exact Po h8
   have hne:es≠[]:=by rintro rfl; simp at h2
   obtain ⟨g',cap',cur,e,xs,f1,f2,f3,f4,f5,f6,f7,f8,f9,f10,f11⟩:=XW hI hq e1 hne
   simp only [Value.slice.injEq,zzY,Addr.mk.injEq,and_true] at f1
   obtain ⟨rfl,rfl,rfl⟩:=f1
   have hvv:=BL hI hv (t:=u) (by simp [AJ.val,hu,EV.val])
   have hcl:=IY hvv.1
   rw [h1] at hcl
   have hone:∃ y,(a.eval v).cells.toList=[y]∧A1 w (AY w0.heap.size F0 G) u y∧y.oneCell'=true:=by
    obtain ⟨k1,k2⟩:=hcl
    simp only [AQ] at k1
    obtain ⟨y,r,k3,k4,rfl⟩:=k1
    exact ⟨y,k3,k4,k2 y (by rw [k3]; simp)⟩
   obtain ⟨y,k1,k2,k3⟩:=hone
   have hcc:c<cur.size:=by rw [f5]; exact Nat.lt_of_lt_of_le h2 (Nat.mul_le_mul_right _ f3)
   have hrun:=run_storeCells_at P g c e [y] 0 cur w f2 (by simp only [List.length_singleton]; omega) (by simpa using k3)
   simp only [Nat.add_zero] at hrun
   have hsz:(a.eval v).cells.size=1:=by rw [←Array.length_toList,k1]; rfl
   have hst:(execOp a.eval o).run P w=.ok .skip (w.setRow g (cur.toList.take c++[y]++cur.toList.drop (c+1)).toArray):=by
    simp only [List.length_singleton] at hrun
    simp [execOp,hop,e2,Instr.storeAt,Instr.sureAddr,storeVar,DT hn,hsz,k1,hrun]
   refine ⟨_,hst,_,hK,G,?_⟩
   refine hI.rexo hq e1 (w':=w.setRow g (cur.toList.take c++[y]++cur.toList.drop (c+1)).toArray) (xs':=xs.set c y) ⟨rfl,rfl,rfl,by simp,fun k _ hk=>setRow_other w g k _ (fun e=>hk 0 (by rw [e]; exact f7))⟩ ⟨some (g,es.length*n),⟨by rw [List.length_set,f11,h4],.inr ⟨g,cap,_,e,by rw [h4],setRow_heap w g cur _ e _ f2,by rw [h4]; exact f3,f4,?_,?_,by rw [h4]⟩⟩,by rw [f7]; rfl⟩ (fun hag=>?_) h5 (fun x hx=>?_) ⟨by rw [h4]; exact hq'.1,h6⟩
   ·simp only [List.size_toArray,List.length_append,List.length_take,List.length_drop,Array.length_toList,List.length_singleton]; omega
   ·rw [h4,←f6]
    apply List.ext_getElem?
    intro i
    simp only [List.getElem?_take,List.getElem?_set,List.length_take,Array.length_toList,List.length_cons,List.length_nil]
    by_cases hi:i<es.length*n
    ·rw [if_pos hi]
     by_cases hic:c=i
     ·subst hic
      rw [if_pos rfl,if_pos (by rw [f5]; have:=Nat.mul_le_mul_right n f3; omega)]
      rw [List.append_assoc,List.getElem?_append_right (by simp; omega)]
      simp only [List.length_take,Array.length_toList]
      rw [Nat.min_eq_left (by omega),Nat.sub_self]; rfl
     ·rw [if_neg hic]
      rcases Nat.lt_or_ge i c with hlt | hge
      ·rw [List.append_assoc,List.getElem?_append_left (by simp; omega),List.getElem?_take,if_pos hlt,if_pos hi]
      ·rw [List.getElem?_append_right (by simp; omega),List.getElem?_drop,if_pos hi]
       simp only [List.length_append,List.length_take,Array.length_toList,List.length_cons,List.length_nil]
       rw [Nat.min_eq_left (by omega),show c+(0+1)+(i - (c+(0+1)))=i from by omega]
    ·rw [if_neg hi,if_neg (by omega)]
     rw [if_neg hi]
   ·rw [h3]
    rw [CD]
    have f8':=(CD _ _).1 (BI hag _ _ f8)
    refine ⟨by rw [List.length_set,List.length_set]; exact f8'.1,fun i t' v'' ht' hv''=>?_⟩
    rw [List.getElem?_set] at ht' hv''
    by_cases hic:c=i
    ·subst hic
     rw [if_pos rfl] at ht' hv''
     split at ht'
     ·split at hv''
      ·simp only [zzY] at ht' hv''
       subst ht' hv''
       exact C1 hag _ _ k2
      ·cases hv''
     ·cases ht'
    ·rw [if_neg hic] at ht' hv''
     exact f8'.2 i t' v'' ht' hv''
   ·rcases List.mem_or_eq_of_mem_set hx with hx | rfl
    ·exact f10 x hx
    ·exact k3
  ·exact h.elim
 ·exact h.elim
theorem Uz (hI:AT F0 w0 env a w G) (hd:d<a.tmps.size) {s:Nat} (hop:o.op=.move (.tmp s)∨o.op=.assign (.tmp s)) (h:(AH.rel s).wp S env (some d) K):BS P F0 w0 a w o d K:=by
 simp only [AH.wp] at h
 split at h
 ·rename_i d' n es hdd hs
  simp only [zzY] at hdd
  subst hdd
  obtain ⟨hds,hK⟩:=h
  have hr:=A4 hI hs (by simp)
  have hw:=hI.wf s
  rw [hs] at hw
  simp only [AS] at hr
  obtain ⟨xs,⟨z0,h1,hz0⟩,h2,h3,h4⟩:=hr
  refine ⟨slot a s,w,by rcases hop with hop | hop <;> simp [execOp,hop,show a.eval (.tmp s)=slot a s from rfl],_,_,hK,hI.xgo hs hd hds (z':=z0) rfl rfl rfl (Nat.le_refl _) (fun _ _ _=>rfl) (fun b lo hz=>?_) (by simp) (by simp) (fun F' G' env' a' hag hG=>?_) hw⟩
  ·rw [hz] at hz0
   exact ⟨(hI.lt _ _ _ _ hz0).1,.inr ⟨_,hz0⟩⟩
  ·simp only [AS,CQ]
   rw [hG]
   exact ⟨xs,h1,BI hag _ _ h2,h3,h4⟩
 ·exact h.elim
theorem U0 (hI:AT F0 w0 env a w G) (hd:d<a.tmps.size) {s:Nat} (hop:o.op=.move (.tmp s)∨o.op=.assign (.tmp s)) (h:(AH.tkx s).wp S env (some d) K):BS P F0 w0 a w o d K:=by
 simp only [AH.wp] at h
 split at h
 ·rename_i d' n es hdd hs
  simp only [zzY] at hdd
  subst hdd
  obtain ⟨hno,hds,hK⟩:=h
  have hr:=A4 hI hs (by simp)
  have hw:=hI.wf s
  rw [hs] at hw
  simp only [AS] at hr
  obtain ⟨xs,h1,h2,h3,h4⟩:=hr
  refine ⟨slot a s,w,by rcases hop with hop | hop <;> simp [execOp,hop,show a.eval (.tmp s)=slot a s from rfl],_,_,hK,hI.xgo hs hd hds (z':=G s none) rfl rfl rfl (Nat.le_refl _) (fun _ _ _=>rfl) (fun b lo hz=>⟨(hI.lt _ _ _ _ hz).1,.inr ⟨_,hz⟩⟩) (by simp) (fun _=>hno) (fun F' G' env' a' hag hG=>?_) hw⟩
  simp only [AS]
  rw [hG]
  exact ⟨xs,h1,BI hag _ _ h2,h3,h4⟩
 ·exact h.elim
theorem AT.xnew (h:AT F0 w0 env a w G) {w':World} (hb:Below w.heap.size w w') (hd:d<a.tmps.size) (hno:env.noRef d=true) {n:Nat} {es:List TV} {v:Value} {z:Option (Nat × Nat)} {xs:List Value} (hrow:HF w' n v es.length xs z)
  (hz:∀ b lo,z=some (b,lo)->w.heap.size<=b∧b<w'.heap.size)
  (hrep:∀ F',(∀ b o,F' b o->(b<w.heap.size∧AY w0.heap.size F0 G b o)∨∃ lo,z=some (b,lo))->AQ w' F' (es.flatMap TV.cells) xs) (hn:∀ e∈es,e.cells.length=n) (h1:∀ x∈xs,x.oneCell'=true) (hw:(TV.list n es).WF) :
  C2 F0 w0 ((d,.xo n es)::env) (a.put (some d) v) w':=by
 refine ⟨_,h.quiet hb d hd (.xo n es) v (fun i=>if i=none then z.map (fun p=>(p.1,0)) else none) (fun i b lo hi=>?_) (fun i i' b lo lo' e1 e2=>?_) (fun _=>hno) ?_ hw⟩
 ·split at hi
  ·cases z with
   | none=>simp at hi
   | some p=>
    simp only [Option.map_some,zzY,Prod.mk.injEq] at hi
    exact hi.1 ▸ hz p.1 p.2 rfl
  ·cases hi
 ·split at e1
  ·split at e2
   ·simp_all
   ·cases e2
  ·cases e1
 ·simp only [AS]
  refine ⟨xs,⟨z,hrow,by rw [B0]; simp⟩,hrep _ (fun b o hf=>?_),hn,h1⟩
  rcases hf with hf | ⟨p,i,lo,e1,e2⟩
  ·exact .inl ⟨Nat.lt_of_lt_of_le hf.1 h.below.size,.inl hf⟩
  ·by_cases hpd:p=d
   ·subst hpd
    rw [B0] at e1
    split at e1
    ·cases z with
     | none=>simp at e1
     | some q=>
      simp only [Option.map_some,zzY,Prod.mk.injEq] at e1
      exact .inr ⟨q.2,by rw [←e1.1]⟩
    ·cases e1
   ·rw [BR _ _ _ _ hpd] at e1
    exact .inl ⟨(h.lt _ _ _ _ e1).1,.inr ⟨p,i,lo,e1,e2⟩⟩
theorem TQ (hI:AT F0 w0 env a w G) (hd:d<a.tmps.size) {x:Operand} {n:Nat} (hop:o.op=.move x∨o.op=.assign x) (hx:∃ v,x=.const v∧KX v=true) (h:(AH.nilx n).wp S env (some d) K):BS P F0 w0 a w o d K:=by
 simp only [AH.wp] at h
 obtain ⟨hno,hK⟩:=h
 obtain ⟨v,rfl,hv⟩:=hx
 have hv:=J0 hv
 subst hv
 refine ⟨.slice none 0 0,w,by rcases hop with hop | hop <;> simp [execOp,hop,Act.eval],_,_,hK,hI.xnew (Below.refl _ _) hd hno (z:=none) (xs:=[]) ⟨by simp,.inl ⟨rfl,rfl,rfl⟩⟩ (by simp) (fun _ _=>rfl) (by simp) (by simp) ⟨by simp,trivial⟩⟩
theorem XP (hI:AT F0 w0 env a w G) (hd:d<a.tmps.size) (hdst:o.dst=some d) {f:FuncId} {xs:Array Operand} {ys:List AJ} {ats:Array TypeId} (hop:o.op=.call { callee:=.value (.func f),args:=xs,argTypes:=ats }) (hok:C5 xs.toList ys=true) (h:(AH.callx f ys).wp (AR P) env (some d) K)
  {next:Act->World->Prop} {Q:Exit->Act->World->Prop} (hn:∀ e env' a' w',K e env'->O1 a d a'->C2 F0 w0 ((d,e)::env') a' w'->next a' w'):o.wp P a w next Q:=by
 simp only [AH.wp] at h
 obtain ⟨hno,h⟩:=h
 cases hts:vals env ys with
 | none=>rw [hts] at h; exact h.elim
 | some ts=>
  rw [hts] at h
  simp only [A6] at h
  obtain ⟨n,es,hS,hK⟩:=h
  have hv:=I9 hI hok hts
  have hrun:(execOp a.eval o).run P w=(callFunc f (xs.map a.eval)).run P w:=by simp [execOp,hop,resolve,Act.eval,Deferred.ofValue,invoke]
  have key:F1 P f=true∧(TV.list n es).WF∧Calls P f (xs.map a.eval) w fun e w'=>∃ v z us,e=.returned v∧Below w.heap.size w w'∧HF w' n v es.length us z∧(∀ F',(∀ b o,F' b o->(b<w.heap.size∧AY w0.heap.size F0 G b o)∨∃ lo,z=some (b,lo))->AQ w' F' (es.flatMap TV.cells) us)∧(∀ e∈es,e.cells.length=n)∧(∀ x∈us,x.oneCell'=true)∧∀ b lo,z=some (b,lo)->w.heap.size<=b∧b<w'.heap.size:=by
   rcases hS with hS | ⟨hS,hfl⟩
   ·obtain ⟨h2,h3⟩:=(hS.to0 rfl) hv.2
    obtain ⟨h4,h5⟩:=h3 (AY w0.heap.size F0 G) w (xs.map a.eval) (by simpa using hv.1)
    refine ⟨h2,h4,h5.mono ?_⟩
    rintro e w' ⟨v,rfl,hb,z,us,r1,r2,r3,r4,r5⟩
    exact ⟨v,z,us,rfl,hb,r1,fun F' hF'=>BI (fun b o u hc hf=>⟨hc,fun hf'=>hf (hF' b o hf')⟩) _ _ r2,r3,r4,r5⟩
   ·obtain ⟨h2,h3⟩:=(hS.to0 rfl) hv.2
    obtain ⟨h4,h5⟩:=h3 (AY w0.heap.size F0 G) w (xs.map a.eval) (by simpa using hv.1)
    refine ⟨h2,h4,h5.mono ?_⟩
    rintro e w' ⟨v,rfl,hb,z,⟨us,r1,r2,r3,r4⟩,r5⟩
    exact ⟨v,z,us,rfl,hb,r1,fun F' hF'=>I5 _ (MY _ hfl) _ r2,r3,r4,r5⟩
  obtain ⟨h2,h4,h5⟩:=key
  unfold Oper.wp
  rw [hrun,H7 h2 _,Oper.upon_enter]
  refine h5.mono ?_
  rintro e w' ⟨v,z,us,rfl,hb,r1,r2,r3,r4,r5⟩
  simp only [hdst]
  exact hn _ _ _ _ (hK h4) ⟨_,rfl⟩ (hI.xnew hb hd hno r1 r5 r2 r3 r4 h4)
theorem XN (hI:AT F0 w0 env a w G) (hd:d<a.tmps.size) (hdst:o.dst=some d) {f:FuncId} {x:Operand} {y:AJ} {ats:Array TypeId} (hop:o.op=.call { callee:=.value (.func f),args:=#[x],argTypes:=ats }) (hok:AP x y=true) (h:(AH.callm f y).wp (AR P) env (some d) K)
  {next:Act->World->Prop} {Q:Exit->Act->World->Prop} (hn:∀ e env' a' w',K e env'->O1 a d a'->C2 F0 w0 ((d,e)::env') a' w'->next a' w'):o.wp P a w next Q:=by
 simp only [AH.wp] at h
 cases hp:y.xlist env with
 | none=>rw [hp] at h; exact h.elim
 | some p=>
  obtain ⟨⟨q,i⟩,m,es⟩:=p
  rw [hp] at h
  simp only [A6] at h
  obtain ⟨rfl,zs,zs',rfl,⟨zs2,hz2,hc,hlen,hwf,hS⟩,hK⟩:=h
  simp only [List.cons.injEq,TV.list.injEq,true_and,and_true] at hz2
  have hzz:zs2=zs:=by
   have:=congrArg (List.map fun t=>match t with | .int _ n=>n | _=>0) hz2
   simpa [List.map_map,Function.comp_def] using this.symm
  subst hzz
  obtain ⟨hq,hx⟩:=Ll hI hok hp
  obtain ⟨hwq,xs,h1,h2,h3,h4⟩:=L8 hI hq hx
  replace hwf:=hwf hwq
  have hxs:xs=zs2.map (Value.int .i64):=by
   have:∀ (zs:List Int) (xs:List Value),AQ w (AY w0.heap.size F0 G) ((zs.map (TV.int .i64)).flatMap TV.cells) xs->xs=zs.map (Value.int .i64):=by
    intro zs
    induction zs with
    | nil=>intro xs h; exact h
    | cons z zs ih=>
     intro xs h
     simp only [List.map_cons,List.flatMap_cons,TV.cells,List.singleton_append,AQ,A1] at h
     obtain ⟨v,r,rfl,rfl,h⟩:=h
     rw [ih r h]; rfl
   exact this zs2 xs h2
  subst hxs
  have hrun:(execOp a.eval o).run P w=(callFunc f #[a.eval x]).run P w:=by simp [execOp,hop,resolve,Act.eval,Deferred.ofValue,invoke]
  unfold Oper.wp
  rw [hrun,H7 hc _,Oper.upon_enter]
  refine (hS w (a.eval x) (G q i) (by simpa using h1)).mono ?_
  rintro e w' ⟨rfl,r1,r2⟩
  simp only [hdst]
  have hI':=hI.rexo hq hx r2 (es':=zs'.map (TV.int .i64)) (xs':=zs'.map (Value.int .i64)) (by rw [List.length_map,hlen]; exact r1) (fun _=>?_) (by simp [TV.cells]) (by simp [Value.oneCell']) hwf
  ·refine hn _ _ _ _ (hK hwf) ⟨_,rfl⟩ ⟨_,hI'.quiet (Below.refl _ _) d hd (.tp []) _ (fun _=>none) (by simp) (by simp) (by simp) ?_ trivial⟩
   simp only [AS]
   exact ⟨#[],rfl,rfl⟩
  ·have:∀ (zs:List Int),AQ w' (AY w0.heap.size F0 G) ((zs.map (TV.int .i64)).flatMap TV.cells) (zs.map (Value.int .i64)):=by
    intro zs
    induction zs with
    | nil=>rfl
    | cons z zs ih=>
     simp only [List.map_cons,List.flatMap_cons,TV.cells,List.singleton_append,AQ,A1]
     exact ⟨_,_,rfl,rfl,ih⟩
   exact this zs'
theorem S8 {w:World} {F:Nat->Nat->Prop}:∀ (zs:List Int),AQ w F ((zs.map (TV.int .i64)).flatMap TV.cells) (zs.map (Value.int .i64))
 | []=>rfl
 | z::zs=>by
  simp only [List.map_cons,List.flatMap_cons,TV.cells,List.singleton_append,AQ,A1]
  exact ⟨_,_,rfl,rfl,S8 zs⟩
theorem TL {w:World} {F:Nat->Nat->Prop}:∀ (zs:List Int) (xs:List Value),AQ w F ((zs.map (TV.int .i64)).flatMap TV.cells) xs->xs=zs.map (Value.int .i64)
 | [],xs,h=>h
 | z::zs,xs,h=>by
  simp only [List.map_cons,List.flatMap_cons,TV.cells,List.singleton_append,AQ,A1] at h
  obtain ⟨v,r,rfl,rfl,h⟩:=h
  rw [TL zs r h]; rfl
theorem XJ (hI:AT F0 w0 env a w G) (hd:d<a.tmps.size) (hdst:o.dst=some d) {f:FuncId} {x:Operand} {y:AJ} {ats:Array TypeId} (hop:o.op=.call { callee:=.value (.func f),args:=#[x],argTypes:=ats }) (hok:AP x y=true) (h:(AH.callc f y).wp (AR P) env (some d) K)
  {next:Act->World->Prop} {Q:Exit->Act->World->Prop} (hn:∀ e env' a' w',K e env'->O1 a d a'->C2 F0 w0 ((d,e)::env') a' w'->next a' w'):o.wp P a w next Q:=by
 simp only [AH.wp] at h
 cases hp:y.xlist env with
 | none=>rw [hp] at h; exact h.elim
 | some p=>
  obtain ⟨⟨q,i⟩,m,es⟩:=p
  rw [hp] at h
  simp only [A6] at h
  obtain ⟨⟨hqd,rfl⟩,rfl,hno,zs,zs',rfl,⟨zs2,hz2,hc,hwf,hS⟩,hK⟩:=h
  simp only [List.cons.injEq,TV.list.injEq,true_and,and_true] at hz2
  have hzz:zs2=zs:=by
   have:=congrArg (List.map fun t=>match t with | .int _ n=>n | _=>0) hz2
   simpa [List.map_map,Function.comp_def] using this.symm
  subst hzz
  obtain ⟨hq,hx⟩:=Ll hI hok hp
  replace hq:=AC.xat_none hq
  simp only [XV] at hx
  replace hwf:=hwf (by have:=hI.wf q; rw [hq] at this; exact this)
  have hr:=A4 hI hq (by simp)
  simp only [AS] at hr
  obtain ⟨xs,h1,h2,h3,h4⟩:=hr
  have hxs:=TL _ _ h2
  subst hxs
  have hrun:(execOp a.eval o).run P w=(callFunc f #[slot a q]).run P w:=by simp [execOp,hop,resolve,Act.eval,Deferred.ofValue,invoke,←hx]
  unfold Oper.wp
  rw [hrun,H7 hc _,Oper.upon_enter]
  refine (hS w (slot a q) (G q none) (by simpa using h1)).mono ?_
  rintro e w' ⟨v',rfl,r1,r2⟩
  simp only [hdst]
  obtain ⟨b1,b2,b3,b4,b5⟩:=r2
  refine hn _ _ _ _ (hK hwf) ⟨_,rfl⟩ (hI.xgo hq hd (fun e=>hqd e.symm) (z':=G q none) b1 b2 b3 b4 (fun k hk1 hk=>b5 k hk1 hk) (fun b lo hz=>⟨Nat.lt_of_lt_of_le (hI.lt _ _ _ _ hz).1 b4,.inr ⟨_,hz⟩⟩) (by simp) (fun _=>hno) (fun F' G' env' a' hag hG=>?_) hwf)
  simp only [AS]
  rw [hG]
  exact ⟨_,by simpa using r1,S8 zs',by simp [TV.cells],by simp [Value.oneCell']⟩
theorem Ya (hI:AT F0 w0 env a w G) (hd:d<a.tmps.size) {s:Nat} {x:Operand} {y:AJ} {t e:TypeId} {i:TypeInfo} {z:Value} {n:Nat} (hop:o.op=.call { callee:=.builtin .append,args:=#[.tmp s,x],argTypes:=#[t,t] })
  (ht:P.underlying t=some (.slice e)) (hi:P.info? e=some i) (hz:i.zero=some z) (hsize:i.size=n) (hby:i.bytes<=4096) (hzs:z.cells.size=n) (hn:0<n)
  (hok:AP x y=true) (h:(AH.appx n s y).wp S env (some d) K):BS P F0 w0 a w o d K:=by
 simp only [AH.wp] at h
 split at h
 ·rename_i d' m es m' fs hdd hs hy
  simp only [zzY] at hdd
  subst hdd
  obtain ⟨hm1,hm2,hmax,hno,hds,hK⟩:=h
  subst hm2
  subst hm1
  have hown:=A4 hI hs (by simp)
  have hwf:=hI.wf s
  rw [hs] at hwf
  simp only [AS] at hown
  obtain ⟨xs,⟨z0,h1,hz0⟩,h2,h3,h4⟩:=hown
  have hv:=BL hI hok hy
  simp only [A1] at hv
  obtain ⟨⟨ad,cap,h5,h6,h7,h8⟩,h9⟩:=hv
  have hnews:∃ news:List Value,AQ w (AY w0.heap.size F0 G) (fs.flatMap TV.cells) news∧(∀ x∈news,x.oneCell'=true)∧(∀ f∈fs,f.cells.length=m)∧∀ b,ad=some b->∀ (j:Nat) (u:Value),news[j]?=some u->w.cell? (b.add j)=some u:=by
   cases ad with
   | none=>
    have:=h7 rfl
    subst this
    exact ⟨[],rfl,by simp,by simp,by simp⟩
   | some b=>
    obtain ⟨h10,h11⟩:=h8 b rfl
    obtain ⟨bb,off,sp⟩:=b
    simp only at h10 h11
    by_cases hfs:fs=[]
    ·subst hfs
     exact ⟨[],rfl,by simp,by simp,by simp⟩
    have h10:sp=none:=h10.resolve_left hfs
    subst h10
    have hrow:∀ (l:List TV) (off:Nat),HU w (AY w0.heap.size F0 G) m l bb off->D7 w (AY w0.heap.size F0 G) (l.flatMap TV.cells) bb off∧∀ f∈l,f.cells.length=m:=by
     intro l
     induction l with
     | nil=>intro off _; exact ⟨trivial,by simp⟩
     | cons f l ih=>
      intro off hr
      rw [Ms] at hr
      obtain ⟨i1,i2⟩:=ih _ hr.2.2
      refine ⟨?_,by simp only [List.mem_cons,forall_eq_or_imp]; exact ⟨hr.2.1,i2⟩⟩
      rw [List.flatMap_cons,FW]
      intro j u hj
      rw [List.getElem?_append] at hj
      split at hj
      ·exact (FW _ _ _).1 hr.1 j u hj
      ·rename_i hge
       have:=(FW _ _ _).1 i1 _ u hj
       have hfl:=hr.2.1
       rwa [show off+m+(j - f.cells.length)=off+j from by omega] at this
    obtain ⟨r1,r2⟩:=hrow fs off h11
    obtain ⟨vs,q1,q2,q3⟩:=Ot r1
    exact ⟨vs,q1,q2,r2,fun b hb=>by simp only [zzY] at hb; subst hb; exact q3⟩
  obtain ⟨news,n1,n2,n3,n4⟩:=hnews
  have hnl:news.length=fs.length*m:=by rw [CC n1,MB m fs n3]
  obtain ⟨v',w',z',hrun,r1,r2⟩:=O5 (P:=P) t o.type e i z m ht hi hz hsize hby hzs hn (slot a s) es.length xs z0 h1 ad fs.length cap news hnl (fun e=>by rw [h7 e]; rfl) h6 n4 n2 hmax
  have hnz:∀ k,(∀ lo,G s none≠some (k,lo))->∀ lo,z0≠some (k,lo):=fun k hk lo hz=>hk 0 (by rw [hz0,hz]; rfl)
  refine ⟨v',w',?_,_,_,hK,hI.xgo hs hd hds (z':=z'.map fun p=>(p.1,0)) r2.os r2.tape r2.output r2.size (fun k hk hz=>r2.other k hk (hnz k hz)) (fun b lo hz=>?_) (by simp) (fun _=>hno) (fun F' G' env' a' hag hG=>?_) ?_⟩
  ·simp [execOp,hop,resolve,invoke,builtin,show a.eval (.tmp s)=slot a s from rfl,h5,hrun]
  ·cases z' with
   | none=>simp at hz
   | some p=>
    simp only [Option.map_some,zzY,Prod.mk.injEq] at hz
    obtain ⟨k1,k2⟩:=r2.zone p.1 p.2 rfl
    rw [←hz.1]
    refine ⟨k1,?_⟩
    rcases k2 with k2 | ⟨lo',k2,_⟩
    ·exact .inl k2
    ·exact .inr ⟨0,by rw [hz0,k2]; rfl⟩
  ·simp only [AS]
   rw [hG]
   refine ⟨xs++news,⟨z',by rw [List.length_append]; exact r1,rfl⟩,?_,?_,?_⟩
   ·rw [List.flatMap_append]
    exact JZ (BI hag _ _ h2) (BI hag _ _ n1)
   ·intro e he
    rcases List.mem_append.1 he with he | he
    ·exact h3 e he
    ·exact n3 e he
   ·intro x hx
    rcases List.mem_append.1 hx with hx | hx
    ·exact h4 x hx
    ·exact n2 x hx
  ·simp only [EV.WF,TV.WF] at hwf h9 ⊢
   exact ⟨by rw [List.length_append]; exact Rl (by omega),KJ.2 ⟨hwf.2,h9.2⟩⟩
 ·exact h.elim
theorem aE (hI:AT F0 w0 env a w G) (hd:d<a.tmps.size) {x x':Operand} {y:AJ} {ty e:TypeId} {ie:TypeInfo} {z z0:Value} {t:TV} (hop:o.op=.makeSlice ty x x') (hok:AP x y=true) (hok':AP x' y=true)
  (hu:P.underlying ty=some (.slice e)) (hie:P.info? e=some ie) (hz:ie.zero=some z) (hs:ie.size=1) (hby:ie.bytes<=4096) (hzc:z.cells=#[z0]) (hc:E2 t z0=true) (h1c:z0.oneCell'=true) (ht1:t.cells=[t])
  (h:(AH.mkx 1 [t] y).wp S env (some d) K):BS P F0 w0 a w o d K:=by
 simp only [AH.wp] at h
 split at h
 ·rename_i d' ik j hdd hy
  simp only [zzY] at hdd
  subst hdd
  obtain ⟨hno,h0,hmax,hK⟩:=h
  have hv:=(BL hI hok hy).1
  have hv':=(BL hI hok' hy).1
  simp only [A1] at hv hv'
  obtain ⟨m,rfl⟩:∃ m:Nat,j=m:=⟨j.toNat,by omega⟩
  have hm:m<=4096:=by omega
  have hw1:IntKind.i64.wrap (m:Int)=m:=by
   have e1:(2:Int) ^ 64=18446744073709551616:=by decide
   have e2:(2:Int) ^ (64 - 1)=9223372036854775808:=by decide
   simp only [IntKind.wrap,IntKind.bits,IntKind.signed,Bool.true_and,zzX,e1,e2,ge_iff_le]
   split <;> omega
  have hbytes:m*ie.bytes<=16777216:=by
   calc m*ie.bytes<=4096*4096:=Nat.mul_le_mul hm hby
    _=16777216:=by decide
  have hcells:(Array.range m).map (fun q=>([z0]:List Value)[q % 1]?.getD default)=Array.replicate m z0:=by
   apply Array.ext
   ·simp
   ·intro i h1 h2
    simp [Nat.mod_one]
  have hbig:¬ (281474976710656<(ie.bytes:Int)*(m:Int)):=by
   have h1:((m*ie.bytes:Nat):Int)<=((16777216:Nat):Int):=Int.ofNat_le.2 hbytes
   rw [Nat.mul_comm,Int.natCast_mul] at h1
   omega
  have hroom:¬ (m*ie.bytes > roomBytes):=by
   have:roomBytes ≥ 16777216:=by decide
   omega
  have hneg:¬ ((m:Int)<0):=by omega
  have hrun:(execOp a.eval o).run P w=.ok (.value (.slice (some ⟨w.heap.size,0,none⟩) m m)) (w.alloc (.cells (Array.replicate m z0) e)):=by
   by_cases hm0:m=0
   ·subst hm0
    have hw0:IntKind.i64.wrap 0=0:=by decide
    simp [execOp,hop,hv,hv',Instr.makeSlice,run_underlying hu,asInt,asIntOf,typeInfo,hie,hw0,askRoom,sizeOf,hs,newRow]
    rw [Array.range_zero']; simp
   ·simp [execOp,hop,hv,hv',Instr.makeSlice,run_underlying hu,asInt,asIntOf,typeInfo,hie,hw1,askRoom,sizeOf,hs,newRow,hbig,hroom,hneg,hm0,zeroValue,hz,hzc,hcells]
  have hb:Below w.heap.size w (w.alloc (.cells (Array.replicate m z0) e)):=(Below.refl _ _).alloc (Nat.le_refl _) _
  have hcr:=Ho (w.alloc (.cells (Array.replicate m z0) e)) (fun _ _=>False) t z0 hc
  have hfm:∀ k,(List.replicate k t).flatMap TV.cells=List.replicate k t:=by
   intro k
   induction k with
   | zero=>rfl
   | succ k ih=>rw [List.replicate_succ,List.flatMap_cons,ih,ht1]; rfl
  simp only [Int.toNat_natCast] at hK
  refine ⟨_,_,hrun,_,_,hK,hI.xnew hb hd hno (z:=some (w.heap.size,m*1)) (xs:=List.replicate m z0) ⟨by simp,.inr ⟨w.heap.size,m,_,e,by simp,heap_alloc_new w _,by simp,by simp only [maxLen]; omega,by simp,by simp,by simp⟩⟩ (fun b lo hz=>?_) (fun F' _=>?_) (fun u hu=>?_) (fun v hv=>?_) ⟨by simp only [List.length_replicate,H5]; omega,?_⟩⟩
  ·simp only [zzY,Prod.mk.injEq] at hz
   rw [←hz.1]; exact ⟨Nat.le_refl _,by simp⟩
  ·rw [hfm,CD]
   refine ⟨by simp,fun i u v hu hv=>?_⟩
   rw [List.eq_of_mem_replicate (List.mem_of_getElem? hu),List.eq_of_mem_replicate (List.mem_of_getElem? hv)]
   exact (Ho _ F' t z0 hc).1
  ·rw [List.eq_of_mem_replicate hu,ht1]; rfl
  ·rw [List.eq_of_mem_replicate hv]; exact h1c
  ·rw [CJ]
   intro u hu
   rw [List.eq_of_mem_replicate hu]; exact hcr.2
 ·exact h.elim
def Wr (P:Program) (t:TypeId) (f k n:Nat) (agg:Bool):Bool:=
 match P.underlying t with
 | some (.struct fs)=>(match fs[f]? with
  | some x=>x.offset==k&&EU P x.type==some n&&DH P x.type==some agg
  | none=>false)
 | _=>false
theorem Yh (hI:AT F0 w0 env a w G) (hd:d<a.tmps.size) {x:Operand} {y:AJ} {t:TypeId} {f k n:Nat} {agg:Bool} (hop:o.op=.field t x f) (hok:AP x y=true) (hf:Wr P t f k n agg=true) (h:(AH.fldv y k n agg).wp S env (some d) K):BS P F0 w0 a w o d K:=by
 simp only [AH.wp] at h
 split at h
 ·rename_i cs hy
  obtain ⟨hl,hK⟩:=h
  have hv:=BL hI hok hy
  simp only [A1,TV.WF] at hv
  obtain ⟨⟨vs,h1,h2,h3⟩,h4⟩:=hv
  unfold Wr at hf
  split at hf
  ·rename_i fs hu
   split at hf
   ·rename_i fd hfd
    simp only [zzZ,beq_iff_eq] at hf
    obtain ⟨⟨rfl,hn⟩,ha⟩:=hf
    have hlen:=CC h2
    rw [CD] at h2
    rw [CJ] at h4
    cases agg with
    | true=>
     simp only [if_true] at hK
     refine DJ hI hd (v:=.agg (vs.extract fd.offset (fd.offset+n))) (t:=.agg ((cs.drop fd.offset).take n)) ?_ ?_ ?_ hK
     ·simp [execOp,hop,h1,Instr.field,run_underlying hu,hfd,part,E4 ha,DT hn,asAgg]
     ·simp only [A1]
      refine ⟨_,rfl,?_,?_⟩
      ·rw [CD]
       simp only [Array.toList_extract]
       refine ⟨by simp only [List.length_take,List.length_drop,List.extract_eq_take_drop]; omega,fun i t v hi hv=>?_⟩
       rw [List.extract_eq_take_drop] at hv
       simp only [List.getElem?_take,List.getElem?_drop,Nat.add_sub_cancel_left] at hi hv
       split at hi
       ·rename_i hlt
        rw [if_pos hlt] at hv
        exact h2.2 _ t v hi hv
       ·cases hi
      ·rw [List.all_eq_true] at h3 ⊢
       intro x hx
       simp only [Array.toList_extract,List.extract_eq_take_drop] at hx
       exact h3 x (List.mem_of_mem_drop (List.mem_of_mem_take hx))
     ·simp only [TV.WF]
      rw [CJ]
      exact fun u hu=>h4 u (List.mem_of_mem_drop (List.mem_of_mem_take hu))
    | false=>
     simp only [Bool.false_eq_true,if_false] at hK
     cases hc:cs.drop fd.offset with
     | nil=>rw [hc] at hK; simp [HM,A6] at hK
     | cons u r=>
      rw [hc] at hK
      simp only [HM,A6] at hK
      have hu':cs[fd.offset]?=some u:=by
       have:=congrArg (fun l=>l[0]?) hc
       simpa [List.getElem?_drop] using this
      have hlt:fd.offset<cs.length:=(List.getElem?_eq_some_iff.1 hu').1
      obtain ⟨v,hv⟩:∃ v,vs.toList[fd.offset]?=some v:=⟨_,List.getElem?_eq_getElem (by omega)⟩
      refine DJ hI hd (v:=v) (t:=u) ?_ (h2.2 _ u v hu' hv) (h4 u (List.mem_of_getElem? hu')) hK
      rw [Array.getElem?_toList] at hv
      simp [execOp,hop,h1,Instr.field,run_underlying hu,hfd,part,E4 ha,asAgg,hv]
   ·cases hf
  ·cases hf
 ·exact h.elim
def Za (P:Program) (ty:TypeId) (n:Nat) (zero:List TV):Bool:=
 match P.underlying ty,zero with
 | some (.slice e),[t]=>(match P.info? e with
  | some ie=>(match ie.zero with
   | some z=>(match z.cells.toList with
    | [z0]=>n==1&&ie.size==1&&decide (ie.bytes<=4096)&&E2 t z0&&z0.oneCell'&&(match t with | .int _ _=>true | .bool _=>true | .str _=>true | _=>false)
    | _=>false)
   | none=>false)
  | none=>false)
 | _,_=>false
theorem dF (hI:AT F0 w0 env a w G) (hd:d<a.tmps.size) {x x':Operand} {y:AJ} {ty:TypeId} {n:Nat} {zero:List TV} (hop:o.op=.makeSlice ty x x') (hok:AP x y=true) (hok':AP x' y=true) (hm:Za P ty n zero=true)
  (h:(AH.mkx n zero y).wp S env (some d) K):BS P F0 w0 a w o d K:=by
 unfold Za at hm
 split at hm
 ·rename_i e t hu
  split at hm
  ·rename_i ie hie
   split at hm
   ·rename_i z hz
    split at hm
    ·rename_i z0 hz0
     simp only [zzZ,beq_iff_eq,zzX] at hm
     obtain ⟨⟨⟨⟨⟨rfl,h2⟩,h3⟩,h4⟩,h5⟩,h6⟩:=hm
     exact aE hI hd hop hok hok' hu hie hz h2 h3 (U3 hz0) h4 h5 (by cases t <;> first | rfl | cases h6) h
    ·cases hm
   ·cases hm
  ·cases hm
 ·cases hm
theorem eZ {f:FuncId} {args:List TV} {t:TV} (h:AR P f args (.own t)):AR P f args (.sh t):=by
 intro hw
 obtain ⟨h1,h2⟩:=h hw
 refine ⟨h1,fun F0 w vs hv=>?_⟩
 obtain ⟨h3,h4⟩:=h2 F0 w vs hv
 refine ⟨h3,h4.mono ?_⟩
 rintro e w' ⟨v,rfl,hb,z,h5,h6⟩
 refine ⟨v,rfl,hb,?_⟩
 have h7:=CQ.rep h5 (fun b lo o hz ho=>by
  rintro (h8 | ⟨lo',h8,h9⟩)
  ·have:=(h6 b lo hz).1; omega
  ·rw [hz] at h8
   simp only [zzY,Prod.mk.injEq,true_and] at h8
   omega)
 exact C1 (fun b o u hc hf=>⟨hc,fun hf'=>hf (.inl hf')⟩) _ _ h7
theorem Nn {v:Value} (h:v.oneCell'=true):v.cells=#[v]:=by
 cases v <;> first | rfl | simp [Value.oneCell'] at h
theorem aI (hI:AT F0 w0 env a w G) {x v:Operand} {t:TypeId} {n s q:Nat} (hop:o.op=.store t x v) (hx:AP x (.s s)=true) (hv:AP v (.s q)=true) (hn:EU P t=some n) (h:(AH.stx n s q).wp S env none K):Lr P F0 w0 a w o K:=by
 simp only [AH.wp] at h
 split at h
 ·rename_i cs ds hs hq
  obtain ⟨hqs,⟨hl,hnx⟩,ho,hK⟩:=h
  have hp:(AJ.s s).place env=some (s,0):=by simp [AJ.place,hs]
  revert hp ho hK
  suffices key:∀ off,off+n<=cs.length->K .undef ((s,.bx (cs.take off++ds++cs.drop (off+n)))::(q,.undef)::env)->(AJ.s s).place env=some (s,off)->Lr P F0 w0 a w o K from key 0
  ·intro off ho hK hp
   have hvq:v=.tmp q:=by
    cases v <;> simp [AP] at hv
    rw [hv]
   subst hvq
   obtain ⟨b,hsl,hadr⟩:=JO hI hx hp hs
   have hr:=A4 hI hs (by simp)
   simp only [AS] at hr
   obtain ⟨b',c,T,h1,h2,h3,h4,h5⟩:=hr
   rw [hsl] at h1
   simp only [Value.pointer.injEq,zzY,Addr.mk.injEq,and_true,and_self] at h1
   subst h1
   have hrq:=A4 hI hq (by simp)
   simp only [AS] at hrq
   obtain ⟨vs,e1,e2,e3⟩:=hrq
   have hws:=hI.wf s
   rw [hs] at hws
   have hwq:=hI.wf q
   rw [hq] at hwq
   have hone:∀ y∈vs.toList,y.oneCell'=true:=by
    intro y hy
    obtain ⟨i,hi⟩:=List.getElem?_of_mem hy
    have hlt:i<ds.length:=by have:=(List.getElem?_eq_some_iff.1 hi).1; simpa [e2] using this
    obtain ⟨x,hx,hc⟩:=e3 i _ (List.getElem?_eq_getElem hlt)
    rw [Array.getElem?_toList,hx] at hi
    simp only [zzY] at hi
    subst hi
    exact Kv hc
   have hev:a.eval (.tmp q)=.agg vs:=e1
   have hst:(execOp a.eval o).run P w=.ok .skip (w.setRow b (c.toList.take off++vs.toList++c.toList.drop (off+n)).toArray):=by
    have hln:vs.toList.length=n:=by rw [Array.length_toList,e2,hl]
    have hrun:=run_storeCells_at P b off T vs.toList 0 c w h2 (by rw [hln]; omega) hone
    simp only [Nat.add_zero] at hrun
    rw [hln] at hrun
    simp [execOp,hop,hadr,hev,Instr.storeAt,Instr.sureAddr,storeVar,DT hn,Value.cells,show vs.size=n by rw [e2,hl],hrun]
   have hvl:vs.toList.length=n:=by rw [Array.length_toList,e2,hl]
   let zs:Option Nat->Option (Nat × Nat):=fun i=>match i with | none=>some (b,0) | some j=>if off<=j∧j<off+n then G q (some (j - off)) else G s (some j)
   refine Exists.elim (hI.rebox hs hsl h2 (cs':=cs.take off++ds++cs.drop (off+n)) (c':=(c.toList.take off++vs.toList++c.toList.drop (off+n)).toArray) (q:=some q) (by simpa using hqs) (zs:=zs) rfl ?_ ?_ ?_ ?_ ?_ ?_) (fun G' h'=>⟨_,hst,_,hK,G',h'.1⟩)
   ·intro i b' lo hi hz
    cases i with
    | none=>exact absurd rfl hi
    | some j=>
     simp only [zs] at hz
     split at hz
     ·exact .inr ⟨q,rfl,_,hz⟩
     ·exact .inl hz
   ·intro i i' b' lo lo' e1 e2
    have zn:∀ j b' lo lo',zs (some j)=some (b',lo)->zs none=some (b',lo')->False:=by
     intro j b' lo lo' e1 e2
     simp only [zs,zzY,Prod.mk.injEq] at e2
     obtain ⟨rfl,_⟩:=e2
     simp only [zs] at e1
     split at e1
     ·exact hqs (hI.uniq _ _ _ _ _ _ _ e1 h4).1
     ·have:=(hI.uniq _ _ _ _ _ _ _ e1 h4).2; cases this
    cases i with
    | none=>cases i' with
     | none=>rfl
     | some j=>exact (zn j _ _ _ e2 e1).elim
    | some j=>cases i' with
     | none=>exact (zn j _ _ _ e1 e2).elim
     | some j'=>
      simp only [zs] at e1 e2
      split at e1 <;> split at e2
      ·have:=(hI.uniq _ _ _ _ _ _ _ e1 e2).2
       simp only [zzY] at this
       rw [show j=j' by omega]
      ·exact absurd (hI.uniq _ _ _ _ _ _ _ e1 e2).1 hqs
      ·exact absurd (hI.uniq _ _ _ _ _ _ _ e2 e1).1 hqs
      ·exact (hI.uniq _ _ _ _ _ _ _ e1 e2).2
   ·simp only [List.size_toArray,List.length_append,List.length_take,List.length_drop,Array.length_toList]; omega
   ·intro F' w' hag hoth i y hy
    have hco:∀ j,off+n<=j->cs[j]?=some y->i=j->∃ v,c[j]?=some v∧CS w' F' (G s (some j)) y v:=by
     intro j hj hc hij
     obtain ⟨v,k1,k2⟩:=h5 j y hc
     exact ⟨v,k1,k2.kept hag (fun k lo hk=>hoth k (fun e=>by have:=(hI.uniq _ _ _ _ _ _ _ (e ▸ hk) h4).2; cases this))⟩
    rcases Nat.lt_or_ge i off with hlt | hge
    ·rw [List.append_assoc,List.getElem?_append_left (by simp; omega),List.getElem?_take,if_pos hlt] at hy
     obtain ⟨v,k1,k2⟩:=h5 i y hy
     refine ⟨v,?_,?_⟩
     ·rw [List.getElem?_toArray,List.append_assoc,List.getElem?_append_left (by simp; omega),List.getElem?_take,if_pos hlt,Array.getElem?_toList]; exact k1
     ·simp only [zs,if_neg (show ¬ (off<=i∧i<off+n) by omega)]
      exact k2.kept hag (fun k lo hk=>hoth k (fun e=>by have:=(hI.uniq _ _ _ _ _ _ _ (e ▸ hk) h4).2; cases this))
    ·rcases Nat.lt_or_ge i (off+n) with hlt | hge2
     ·rw [List.append_assoc,List.getElem?_append_right (by simp; omega),List.getElem?_append_left (by simp; omega)] at hy
      simp only [List.length_take] at hy
      rw [Nat.min_eq_left (by omega)] at hy
      obtain ⟨v,k1,k2⟩:=e3 (i - off) y hy
      refine ⟨v,?_,?_⟩
      ·rw [List.getElem?_toArray,List.append_assoc,List.getElem?_append_right (by simp; omega),List.getElem?_append_left (by simp; omega)]
       simp only [List.length_take,Array.length_toList]
       rw [Nat.min_eq_left (by omega),Array.getElem?_toList]; exact k1
      ·simp only [zs,if_pos (show off<=i∧i<off+n by omega)]
       exact k2.kept hag (fun k lo hk=>hoth k (fun e=>hqs (hI.uniq _ _ _ _ _ _ _ (e ▸ hk) h4).1))
     ·rw [List.getElem?_append_right (by simp; omega)] at hy
      simp only [List.length_append,List.length_take] at hy
      rw [Nat.min_eq_left (by omega),hl,List.getElem?_drop,show off+n+(i - (off+n))=i from by omega] at hy
      obtain ⟨v,k1,k2⟩:=hco i hge2 hy rfl
      refine ⟨v,?_,?_⟩
      ·rw [List.getElem?_toArray,List.getElem?_append_right (by simp; omega)]
       simp only [List.length_append,List.length_take,Array.length_toList]
       rw [Nat.min_eq_left (by omega),e2,hl,List.getElem?_drop,show off+n+(i - (off+n))=i from by omega,Array.getElem?_toList]; exact k1
      ·simp only [zs,if_neg (show ¬ (off<=i∧i<off+n) by omega)]
       exact k2
   ·intro x hx
    rcases List.mem_append.1 hx with hx | hx
    ·rcases List.mem_append.1 hx with hx | hx
     ·exact hws x (List.mem_of_mem_take hx)
     ·exact hwq x hx
    ·exact hws x (List.mem_of_mem_drop hx)
   ·intro k m es hk
    have hkl:k<cs.length:=by
     have:=(List.getElem?_eq_some_iff.1 hk).1
     simp only [List.length_append,List.length_take,List.length_drop] at this; omega
    rw [List.getElem?_toArray]
    rcases Nat.lt_or_ge k off with hlt | hge
    ·rw [List.append_assoc,List.getElem?_append_left (by simp; omega),List.getElem?_take_of_lt hlt] at hk
     refine .inr ⟨⟨(m,es),by simp only [AC.xat,hs,hk]⟩,?_⟩
     rw [List.append_assoc,List.getElem?_append_left (by simp; omega),List.getElem?_take_of_lt hlt,Array.getElem?_toList]
    ·rcases Nat.lt_or_ge k (off+n) with hlt | hge2
     ·rw [List.append_assoc,List.getElem?_append_right (by simp; omega),List.getElem?_append_left (by simp; omega)] at hk
      rw [Bool.or_eq_true] at hnx
      rcases hnx with hnx | hnx
      ·have:=List.all_eq_true.1 hnx _ (List.mem_of_getElem? hk)
       simp [TV.isXl] at this
      ·exact .inl (AC.noX_all hnx)
     ·rw [List.getElem?_append_right (by simp; omega)] at hk
      simp only [List.length_append,List.length_take,List.getElem?_drop] at hk
      rw [Nat.min_eq_left (by omega),hl,show off+n+(k - (off+n))=k from by omega] at hk
      refine .inr ⟨⟨(m,es),by simp only [AC.xat,hs,hk]⟩,?_⟩
      rw [List.getElem?_append_right (by simp; omega)]
      simp only [List.length_append,List.length_take,Array.length_toList,List.getElem?_drop]
      rw [Nat.min_eq_left (by omega),e2,hl,show off+n+(k - (off+n))=k from by omega,Array.getElem?_toList]
 ·exact h.elim
theorem XL (hI:AT F0 w0 env a w G) (hd:d<a.tmps.size) (hdst:o.dst=some d) {f:FuncId} {xs:Array Operand} {ys:List AJ} {ats:Array TypeId} (hop:o.op=.call { callee:=.value (.func f),args:=xs,argTypes:=ats }) (hok:C5 xs.toList ys=true) (h:(AH.callg f ys).wp (AR P) env (some d) K)
  {next:Act->World->Prop} {Q:Exit->Act->World->Prop} (hn:∀ e env' a' w',K e env'->O1 a d a'->C2 F0 w0 ((d,e)::env') a' w'->next a' w'):o.wp P a w next Q:=by
 simp only [AH.wp] at h
 cases hts:vals env ys with
 | none=>rw [hts] at h; exact h.elim
 | some ts=>
  rw [hts] at h
  simp only [A6] at h
  obtain ⟨cs,hS,hK⟩:=h
  have hv:=I9 hI hok hts
  have hrun:(execOp a.eval o).run P w=(callFunc f (xs.map a.eval)).run P w:=by simp [execOp,hop,resolve,Act.eval,Deferred.ofValue,invoke]
  obtain ⟨h2,h3⟩:=(hS.to0 rfl) hv.2
  obtain ⟨h4,h5⟩:=h3 (AY w0.heap.size F0 G) w (xs.map a.eval) (by simpa using hv.1)
  unfold Oper.wp
  rw [hrun,H7 h2 _,Oper.upon_enter]
  refine h5.mono ?_
  rintro e w' ⟨v,rfl,hb,vs,zs,rfl,r1,r2,r3,r4⟩
  simp only [hdst]
  refine hn _ _ _ _ (hK h4) ⟨_,rfl⟩ ⟨_,hI.quiet hb d hd (.oag cs) _ (fun i=>match i with | none=>none | some j=>zs j) (fun i b lo hi=>?_) (fun i i' b lo lo' e1 e2=>?_) (by simp) ?_ h4⟩
  ·cases i with
   | none=>cases hi
   | some j=>exact r4 j b lo hi
  ·cases i with
   | none=>cases e1
   | some j=>cases i' with
    | none=>cases e2
    | some j'=>rw [r3 j j' b lo lo' e1 e2]
  ·simp only [AS]
   refine ⟨vs,rfl,r1,fun i c hc=>?_⟩
   obtain ⟨x,k1,k2,_⟩:=r2 i c hc
   refine ⟨x,k1,?_⟩
   rw [B0]
   refine k2.kept (fun b o u hc hf=>⟨hc,fun hf'=>hf ?_⟩) (fun _ _ _=>rfl)
   rcases hf' with hf' | ⟨p,j,lo,e1,e2⟩
   ·exact .inl ⟨Nat.lt_of_lt_of_le hf'.1 hI.below.size,.inl hf'⟩
   ·by_cases hpd:p=d
    ·subst hpd
     rw [B0] at e1
     cases j with
     | none=>cases e1
     | some j=>exact .inr ⟨j,lo,e1,e2⟩
    ·rw [BR _ _ _ _ hpd] at e1
     exact .inl ⟨(hI.lt _ _ _ _ e1).1,.inr ⟨p,j,lo,e1,e2⟩⟩
def Ws (P:Program) (t:TypeId):Bool:=match P.underlying t with | some (.slice _)=>true | _=>false
theorem ZM {x:Operand} (h:Pw x=true):x=.const (.slice none 0 0):=by
 cases x <;> simp [Pw] at h
 rename_i v
 rw [J0 h]
theorem Z9 (hI:AT F0 w0 env a w G) (hd:d<a.tmps.size) {x z:Operand} {y:AJ} {t t':TypeId} (hop:o.op=.binOp .eql t x z t') (hok:AP x y=true) (hz:Pw z=true) (ht:Ws P t=true) (h:(AH.isn y).wp S env (some d) K):BS P F0 w0 a w o d K:=by
 simp only [AH.wp] at h
 split at h
 ·rename_i n es hy
  have hv:=(BL hI hok hy).1
  simp only [A1] at hv
  obtain ⟨ad,cap,h1,h2,h3,h4⟩:=hv
  have hzz:=ZM hz
  subst hzz
  unfold Ws at ht
  split at ht
  ·rename_i e hu
   refine DJ hI hd (v:=.bool ad.isNone) (t:=.bool ad.isNone) ?_ rfl trivial (h _ (fun hb=>h3 (by simpa using hb)))
   have he:∀ d,(Op.equalIn (d+1) t (.slice ad es.length cap) (.slice none 0 0)).run P w=.ok ad.isNone w:=by
    intro d
    cases ad <;> simp [Op.equalIn,run_underlying hu]
   have he':(Op.equalIn 10000 t (.slice ad es.length cap) (.slice none 0 0)).run P w=.ok ad.isNone w:=he 9999
   have hg:(eqGuard .eql t x (.const (.slice none 0 0)) (.slice ad es.length cap) (.slice none 0 0)).run P w=.ok () w:=by
    simp [eqGuard]
   have hb:(binOp .eql t (.slice ad es.length cap) (.slice none 0 0)).run P w=.ok (.bool ad.isNone) w:=by
    have e:(binOp .eql t (.slice ad es.length cap) (.slice none 0 0)).run P w=((Op.equalIn 10000 t (.slice ad es.length cap) (.slice none 0 0)).run P w).andThen fun b w'=>.ok (.bool b) w':=by
     simp only [binOp]
     simp [Op.equal,Op.maxDepth]
    rw [e,he']; rfl
   have e1:a.eval x=.slice ad es.length cap:=h1
   have e2:a.eval (.const (.slice none 0 0))=.slice none 0 0:=rfl
   have hx:∀ (g b:Sem Unit) (r:Sem Value),g.run P w=.ok () w->r.run P w=.ok (.bool ad.isNone) w->(do let r ←(do g; r:Sem Value); pure (Next.value r):Sem Next).run P w=.ok (.value (.bool ad.isNone)) w:=by
    intro g b r h1 h2
    simp [h1,h2]
   simp only [execOp,hop,e1,e2]
   exact hx _ (pure ()) _ hg hb
  ·cases ht
 ·exact h.elim
end
end Go.Sf
