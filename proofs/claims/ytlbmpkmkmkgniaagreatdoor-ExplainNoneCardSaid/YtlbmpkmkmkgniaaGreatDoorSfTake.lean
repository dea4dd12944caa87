/- Taking an own list out of a box; calls. -/
import Derived.Test.YtlbmpkmkmkgniaaGreatDoorSfStore
namespace Go.Sf
open Go.RowKit (Below)
section
variable {P:Program} {S:FuncId->List TV->CH->Prop} {F0:Nat->Nat->Prop} {w0:W0} {env:AC} {a:Act} {w:World} {G:DE} {d:Nat} {o:Oper} {K:EV->AC->Prop}
theorem AT.takeCell (h:AT F0 w0 env a w G) {s off:Nat} {cs:List AU} (hs:env.get s=.bx cs) {t:TV} (hc:cs[off]?=some ⟨true,t⟩) (hd:d<a.tmps.size) {b:Nat} (hsl:slot a s=.pointer (some ⟨b,0,none⟩)) {x:Value} (hx:w.cell? ⟨b,off,none⟩=some x) {e:EV} {t':TV} (hsp:(e=.ow t∧t'=t∧t.isXl=false)∨∃ n es,t=.xl n es∧e=.xo n es∧t'=.undef∧env.noRef d=true) :
  C2 F0 w0 ((d,e)::(s,.bx (cs.set off ⟨false,t'⟩))::env) (a.put (some d) x) w:=by
 have hr:=A4 h hs (by simp)
 have hw:=h.wf s
 rw [hs] at hw
 simp only [AS] at hr
 obtain ⟨b',c,T,h1,h2,h3,h4,h5⟩:=hr
 rw [hsl] at h1
 simp only [Value.pointer.injEq,zzY,Addr.mk.injEq,and_true,and_self] at h1
 subst h1
 obtain ⟨x',hx',hown⟩:=h5 off _ hc
 have hxx:x'=x:=by
  rw [cell_of_row w b off c T (0,0) h2] at hx
  rw [hx'] at hx; simpa using hx
 subst hxx
 simp only [CS] at hown
 let G':DE:=fun p i=>if p=d then (if i=none then G s (some off) else none) else if p=s∧i=some off then none else G p i
 have hG':∀ p i b' lo,G' p i=some (b',lo)->(p=d∧i=none∧G s (some off)=some (b',lo))∨(p≠d∧¬ (p=s∧i=some off)∧G p i=some (b',lo)):=by
  intro p i b' lo hp
  simp only [G'] at hp
  split at hp
  ·rename_i hpd
   split at hp
   ·rename_i hi; exact .inl ⟨hpd,hi,hp⟩
   ·cases hp
  ·rename_i hpd
   split at hp
   ·cases hp
   ·rename_i hn; exact .inr ⟨hpd,hn,hp⟩
 have hag:DK w w (AY w0.heap.size F0 G) (AY w0.heap.size F0 G'):=fun b' o v hc hF=>⟨hc,fun hF'=>hF (AY.mono (fun p i b'' lo hp=>by
  rcases hG' _ _ _ _ hp with ⟨_,_,e⟩ | ⟨_,_,e⟩
  ·exact ⟨_,_,lo,e,Nat.le_refl _⟩
  ·exact ⟨_,_,lo,e,Nat.le_refl _⟩) hF')⟩
 refine ⟨G',?_,?_,h.below,by rw [KA]; exact h.defers,?_,?_,?_⟩
 ·intro p i p' i' b' lo lo' e1 e2
  rcases hG' _ _ _ _ e1 with ⟨rfl,rfl,f1⟩ | ⟨n1,n2,f1⟩ <;> rcases hG' _ _ _ _ e2 with ⟨rfl,rfl,f2⟩ | ⟨m1,m2,f2⟩
  ·exact ⟨rfl,rfl⟩
  ·exact absurd ((h.uniq _ _ _ _ _ _ _ f1 f2).imp Eq.symm Eq.symm) m2
  ·exact absurd (h.uniq _ _ _ _ _ _ _ f1 f2) n2
  ·exact h.uniq _ _ _ _ _ _ _ f1 f2
 ·intro p i b' lo e1
  rcases hG' _ _ _ _ e1 with ⟨_,_,e1⟩ | ⟨_,_,e1⟩ <;> exact h.lt _ _ _ _ e1
 ·intro p hp
  rw [E9] at hp
  have hsz:s<a.tmps.size:=GA h hs (by simp)
  rw [AC.get_cons,if_neg (by omega),AC.get_cons,if_neg (by omega)]
  exact h.dom p hp
 ·intro p hp
  rw [E9] at hp
  rw [AC.get_cons]
  by_cases hpd:d=p
  ·subst hpd
   rw [if_pos rfl,Hf _ _ _ hd]
   rcases hsp with ⟨rfl,rfl,hxl⟩ | ⟨n,es,rfl,rfl,rfl,_⟩
   ·simp only [AS,G',if_true]
    exact (hown.own hxl).kept hag (fun _ _ _=>rfl)
   ·have:=hown.kept hag (fun _ _ _=>rfl)
    simp only [IE] at this
    simp only [AS,G',if_true]
    exact this
  ·rw [if_neg hpd,BD _ _ _ _ hpd,AC.get_cons]
   by_cases hps:s=p
   ·subst hps
    rw [if_pos rfl]
    have hsd:¬ s=d:=fun e=>hpd e.symm
    simp only [AS]
    refine ⟨b,c,T,hsl,h2,by simpa using h3,by simp only [G']; rw [if_neg hsd,if_neg (by simp)]; exact h4,fun i y hy=>?_⟩
    rw [List.getElem?_set] at hy
    by_cases hi:off=i
    ·subst hi
     rw [if_pos rfl] at hy
     split at hy
     ·simp only [zzY] at hy
      subst hy
      refine ⟨x',hx',?_,Qf hown⟩
      rcases hsp with ⟨rfl,rfl,hxl⟩ | ⟨n,es,rfl,rfl,rfl,_⟩
      ·exact C1 hag _ _ (IE.rep hown (fun b lo o hz ho=>NJ h b lo o hz ho))
      ·exact Qf hown
     ·cases hy
    ·rw [if_neg hi] at hy
     obtain ⟨v,e1,e2⟩:=h5 i y hy
     refine ⟨v,e1,?_⟩
     simp only [G']
     rw [if_neg hsd,if_neg (by rintro ⟨_,e⟩; exact hi (by simpa using e.symm))]
     exact e2.kept hag (fun _ _ _=>rfl)
   ·rw [if_neg hps]
    refine AS.kept hag (fun i=>by simp only [G']; rw [if_neg (fun e=>hpd e.symm),if_neg (fun e=>hps e.1.symm)]) (fun _ _ _ _=>rfl) (fun r off' hr ⟨cs',hcs'⟩=>?_) (fun r i hr ⟨pp,hpp⟩=>?_) (h.slots p hp)
    ·rw [AC.get_cons] at hcs'
     by_cases hdr:d=r
     ·rw [if_pos hdr] at hcs'
      rcases hsp with ⟨rfl,_⟩ | ⟨n,es,_,rfl,_⟩ <;> cases hcs'
     ·rw [if_neg hdr,AC.get_cons] at hcs'
      refine ⟨?_,BD _ _ _ _ hdr⟩
      split at hcs'
      ·rename_i hsr; subst hsr; exact ⟨cs,hs⟩
      ·exact ⟨_,hcs'⟩
    ·by_cases hdr:d=r
     ·subst hdr
      rcases hsp with ⟨rfl,_⟩ | ⟨n,es,_,rfl,_,hno⟩
      ·exact absurd rfl (AC.xat_drop (by simp) (by simp) hpp).1
      ·have hxx:=AC.noRef_x d env hno p
       rcases hr with hr | ⟨c,hr⟩
       ·exact absurd hr (hxx.1 i)
       ·exact absurd hr (hxx.2 i c)
     ·rw [AC.xat_cons hdr] at hpp
      have hp2:∃ p,env.xat r i=some p:=by
       by_cases hsr:s=r
       ·subst hsr
        obtain ⟨n,es⟩:=pp
        cases i with
        | none=>have:=AC.xat_none hpp; rw [AC.get_cons,if_pos rfl] at this; cases this
        | some k=>
         obtain ⟨cs'',h1,h2⟩:=AC.xat_some hpp
         rw [AC.get_cons,if_pos rfl] at h1
         simp only [EV.bx.injEq] at h1
         subst h1
         rw [List.getElem?_set] at h2
         split at h2
         ·split at h2 <;> simp at h2
         ·exact ⟨(n,es),by simp only [AC.xat,hs,h2]⟩
       ·rw [AC.xat_cons hsr] at hpp; exact ⟨pp,hpp⟩
      exact ⟨hp2,h.xv hp2 (BD _ _ _ _ hdr) (fun _ _=>rfl)⟩
 ·intro p
  rw [AC.get_cons]
  split
  ·have:=hw _ (List.mem_of_getElem? hc)
   rcases hsp with ⟨rfl,_⟩ | ⟨n,es,rfl,rfl,_⟩
   ·exact this
   ·exact this
  ·rw [AC.get_cons]
   split
   ·intro y hy
    rcases List.mem_or_eq_of_mem_set hy with hy | rfl
    ·exact hw y hy
    ·rcases hsp with ⟨_,rfl,_⟩ | ⟨n,es,_,_,rfl,_⟩
     ·exact (hw ⟨true,_⟩ (List.mem_of_getElem? hc):_)
     ·trivial
   ·exact h.wf p
theorem aB (hI:AT F0 w0 env a w G) (hd:d<a.tmps.size) {x:Operand} {x':AJ} {t:TypeId} (hop:o.op=.load t x) (hx:AP x x'=true) (ht:DH P t=some false) (h:(AH.ldt x').wp S env (some d) K):BS P F0 w0 a w o d K:=by
 simp only [AH.wp] at h
 split at h
 ·rename_i s off hp
  split at h
  ·rename_i cs hs
   split at h
   ·rename_i n es hc
    obtain ⟨b,hsl,hadr⟩:=JO hI hx hp hs
    have hr:=A4 hI hs (by simp)
    simp only [AS] at hr
    obtain ⟨b',c,T,h1,h2,h3,h4,h5⟩:=hr
    rw [hsl] at h1
    simp only [Value.pointer.injEq,zzY,Addr.mk.injEq,and_true,and_self] at h1
    subst h1
    obtain ⟨y,hy,_⟩:=h5 off _ hc
    have hcell:w.cell? ⟨b,off,none⟩=some y:=by rw [cell_of_row w b off c T (0,0) h2]; exact hy
    exact ⟨y,w,by simp [execOp,hop,hadr,Instr.loadAt,Instr.sureAddr,loadVar,E4 ht,hcell],_,_,h,hI.takeCell hs hc hd hsl hcell (.inl ⟨rfl,rfl,rfl⟩)⟩
   ·exact h.elim
  ·exact h.elim
 ·exact h.elim
end
def Ix (w':World) (F:Nat->Nat->Prop) (base:Nat):CH->Value->Prop
 | .sh t,v=>A1 w' F t v
 | .own t,v=>∃ z,CQ w' (fun b o=>F b o∨∃ lo,z=some (b,lo)∧lo<=o) z t v∧∀ b lo,z=some (b,lo)->base<=b∧b<w'.heap.size
 | .tp ts,v=>∃ vs,v=.tuple vs∧AQ w' F ts vs.toList
 | .xown n es,v=>∃ z xs,HF w' n v es.length xs z∧AQ w' (fun b o=>F b o∨∃ lo,z=some (b,lo)) (es.flatMap TV.cells) xs∧(∀ e∈es,e.cells.length=n)∧(∀ x∈xs,x.oneCell'=true)∧∀ b lo,z=some (b,lo)->base<=b∧b<w'.heap.size
 | .oag cs,v=>∃ (vs:Array Value) (zs:Nat->Option (Nat × Nat)),v=.agg vs∧vs.size=cs.length∧(∀ (i:Nat) (d:AU),cs[i]?=some d->∃ x,vs[i]?=some x∧CS w' (fun b o=>F b o∨∃ j lo,zs j=some (b,lo)∧lo<=o) (zs i) d x∧x.oneCell'=true)∧(∀ i j b lo lo',zs i=some (b,lo)->zs j=some (b,lo')->i=j)∧∀ i b lo,zs i=some (b,lo)->base<=b∧b<w'.heap.size
 | _,_=>False
def F1 (P:Program) (f:FuncId):Bool:=
 match P.funcs[f]? with
 | some fn => fn.name != "runtime.NumGoroutine" && fn.body.isSome
 | none=>false
def Tq (P:Program) (f:FuncId) (args:List TV) (r:CH):Prop:=
 TV.WFs args->F1 P f=true∧∀ (F0:Nat->Nat->Prop) (w:World) (vs:Array Value),AQ w F0 args vs.toList ->
  r.WF∧Calls P f vs w fun e w'=>∃ v,e=.returned v∧Below w.heap.size w w'∧Ix w' (fun b o=>b<w.heap.size∧F0 b o) w.heap.size r v
def N6 (z:Option (Nat × Nat)) (w w':World):Prop:=
 w'.os=w.os∧w'.tape=w.tape∧w'.output=w.output∧w.heap.size<=w'.heap.size∧∀ k,k<w.heap.size->(∀ lo,z≠some (k,lo))->w'.heap[k]?=w.heap[k]?
def nT (P:Program) (f:FuncId) (args:List TV) (zs':List Int):Prop:=
 ∃ zs:List Int,args=[.list 1 (zs.map (TV.int .i64))]∧F1 P f=true∧zs'.length=zs.length∧((TV.list 1 (zs.map (TV.int .i64))).WF->(TV.list 1 (zs'.map (TV.int .i64))).WF) ∧
  ∀ (w:World) (v:Value) (z:Option (Nat × Nat)),Jr w 1 v zs.length (zs.map (Value.int .i64)) z ->
   Calls P f #[v] w fun e w'=>e=.returned (.tuple #[])∧Jr w' 1 v zs.length (zs'.map (Value.int .i64)) z∧N6 z w w'
def nR (P:Program) (f:FuncId) (args:List TV) (zs':List Int):Prop:=
 ∃ zs:List Int,args=[.list 1 (zs.map (TV.int .i64))]∧F1 P f=true∧((TV.list 1 (zs.map (TV.int .i64))).WF->(TV.list 1 (zs'.map (TV.int .i64))).WF) ∧
  ∀ (w:World) (v:Value) (z:Option (Nat × Nat)),Jr w 1 v zs.length (zs.map (Value.int .i64)) z ->
   Calls P f #[v] w fun e w'=>∃ v',e=.returned v'∧Jr w' 1 v' zs'.length (zs'.map (Value.int .i64)) z∧N6 z w w'
def M2 (w:World) (F:Nat->Nat->Prop) (zs:Option Nat->Option (Nat × Nat)) (cs:List AU) (v:Value):Prop:=
 ∃ b c T,v=.pointer (some ⟨b,0,none⟩)∧w.heap[b]?=some (.cells c T (0,0))∧c.size=cs.length∧zs none=some (b,0)∧∀ (i:Nat) (d:AU),cs[i]?=some d->∃ x,c[i]?=some x∧CS w F (zs (some i)) d x
def ZF (zs:Option Nat->Option (Nat × Nat)) (b o:Nat):Prop:=∃ i lo,zs i=some (b,lo)∧lo<=o
structure Pq (zs:Option Nat->Option (Nat × Nat)) (w w':World):Prop where
 os:w'.os=w.os
 tape:w'.tape=w.tape
 output:w'.output=w.output
 size:w.heap.size<=w'.heap.size
 block:∀ k,k<w.heap.size->(∀ i lo,zs i≠some (k,lo))->w'.heap[k]?=w.heap[k]?
 cell:∀ b o u,¬ ZF zs b o->w.cell? ⟨b,o,none⟩=some u->w'.cell? ⟨b,o,none⟩=some u
def Te (w:World) (F:Nat->Nat->Prop):List TV->Value->Prop
 | [t],v=>A1 w F t v
 | us,v=>∃ vs,v=.tuple vs∧AQ w F us vs.toList
def nS (P:Program) (f:FuncId) (args us:List TV):Prop:=
 TV.WFs args->(TV.flats us=true∧TV.WFs us)∧∀ (w:World) (vs:Array Value),AQ w (fun _ _=>False) args vs.toList->∃ r:Array Value,(callFunc f vs).run P w=.ok (.value (.tuple r)) w∧AQ w (fun _ _=>False) us r.toList
def nQ (P:Program) (f:FuncId) (args:List TV) (cs cs':List AU) (i:Nat) (us:List TV):Prop:=
 TV.WFs args->(∀ c∈cs,c.t.WF)->F1 P f=true∧∀ (F0:Nat->Nat->Prop) (w:World) (vs:Array Value) (v:Value) (zs:Option Nat->Option (Nat × Nat)),
  AQ w (fun b o=>F0 b o∨ZF zs b o) args vs.toList->vs[i]?=some v->M2 w (fun b o=>F0 b o∨ZF zs b o) zs cs v ->
  (∀ i i' b lo lo',zs i=some (b,lo)->zs i'=some (b,lo')->i=i')->(∀ i b lo,zs i=some (b,lo)->b<w.heap.size)->(∀ b o o',ZF zs b o->¬ F0 b o') ->
  ((∀ c∈cs',c.t.WF)∧TV.WFs us)∧Calls P f vs w fun e w'=>∃ r zs',e=.returned r∧Pq zs w w'∧M2 w' (fun b o=>(b<w.heap.size∧F0 b o)∨ZF zs' b o) zs' cs' v ∧
   (∀ i i' b lo lo',zs' i=some (b,lo)->zs' i'=some (b,lo')->i=i')∧(∀ i b lo,zs' i=some (b,lo)->b<w'.heap.size∧(w.heap.size<=b∨∃ j lo',zs j=some (b,lo')∧lo'<=lo)) ∧
   Te w' (fun b o=>(b<w.heap.size∧F0 b o)∨ZF zs' b o) us r
def AR (P:Program) (f:FuncId) (args:List TV) (r:CH):Prop:=
 match r with
 | .turn zs=>nT P f args zs
 | .cut zs=>nR P f args zs
 | .bo cs cs' i us=>nQ P f args cs cs' i us
 | .ext us=>nS P f args us
 | r=>Tq P f args r
theorem AR.to0 {P:Program} {f:FuncId} {args:List TV} {r:CH} (h:AR P f args r) (hp:r.plain=true):Tq P f args r:=by
 cases r <;> first | exact h | cases hp
theorem AR.of0 {P:Program} {f:FuncId} {args:List TV} {r:CH} (h:Tq P f args r) (hp:r.plain=true):AR P f args r:=by
 cases r <;> first | exact h | cases hp
section
variable {P:Program} {F0:Nat->Nat->Prop} {w0:W0} {env:AC} {a:Act} {w:World} {G:DE} {d:Nat} {o:Oper} {K:EV->AC->Prop}
theorem AT.called (h:AT F0 w0 env a w G) (hd:d<a.tmps.size) {w':World} (hb:Below w.heap.size w w') {r:CH} {v:Value} (hr:Ix w' (fun b o=>b<w.heap.size∧AY w0.heap.size F0 G b o) w.heap.size r v) (hw:r.WF) :
  C2 F0 w0 ((d,r.ev)::env) (a.put (some d) v) w':=by
 have old:∀ (zd:Option Nat->Option (Nat × Nat)) b o,AY w0.heap.size F0 (F3 G d zd) b o->(b<w.heap.size∧AY w0.heap.size F0 G b o)∨∃ i lo,zd i=some (b,lo)∧lo<=o:=by
  intro zd b o hf
  rcases hf with h1 | ⟨s,i,lo,h1,h2⟩
  ·exact .inl ⟨Nat.lt_of_lt_of_le h1.1 h.below.size,.inl h1⟩
  ·by_cases hs:s=d
   ·subst hs; rw [B0] at h1; exact .inr ⟨i,lo,h1,h2⟩
   ·rw [BR _ _ _ _ hs] at h1
    exact .inl ⟨(h.lt _ _ _ _ h1).1,.inr ⟨s,i,lo,h1,h2⟩⟩
 cases r with
 | sh t=>
  refine h.tv hb d hd t v (C1 (fun b o u hc hf=>⟨hc,fun hf'=>?_⟩) t v hr) hw
  rcases old _ _ _ hf' with h1 | ⟨i,lo,h1,_⟩
  ·exact hf h1
  ·cases h1
 | own t=>
  obtain ⟨z,h1,h2⟩:=hr
  refine h.ow hb d hd t v z h2 (h1.kept (fun b o u hc hf=>⟨hc,fun hf'=>hf ?_⟩) (fun _ _ _=>rfl)) hw
  rcases old _ _ _ hf' with h3 | ⟨i,lo,h3,h4⟩
  ·exact .inl h3
  ·split at h3
   ·exact .inr ⟨lo,h3,h4⟩
   ·cases h3
 | tp ts=>
  obtain ⟨vs,h1,h2⟩:=hr
  refine ⟨_,h.quiet hb d hd (.tp ts) v (fun _=>none) (by simp) (by simp) (by simp) ?_ hw⟩
  simp only [AS]
  refine ⟨vs,h1,BI (fun b o u hc hf=>⟨hc,fun hf'=>?_⟩) _ _ h2⟩
  rcases old _ _ _ hf' with h3 | ⟨i,lo,h3,_⟩
  ·exact hf h3
  ·cases h3
 | xown n es=>
  obtain ⟨z,xs,h1,h2,h3,h4,h5⟩:=hr
  refine h.ow hb d hd (.list n es) v z h5 ?_ hw
  simp only [CQ]
  refine ⟨xs,h1,BI (fun b o u hc hf=>⟨hc,fun hf'=>hf ?_⟩) _ _ h2,h3,h4⟩
  rcases old _ _ _ hf' with h6 | ⟨i,lo,h6,h7⟩
  ·exact .inl h6
  ·split at h6
   ·exact .inr ⟨lo,h6⟩
   ·cases h6
 | oag cs=>
  obtain ⟨vs,zs,rfl,h1,h2,h3,h4⟩:=hr
  have hrow:AQ w' (fun b o=>b<w.heap.size∧AY w0.heap.size F0 G b o) (cs.map (·.t)) vs.toList∧∀ x∈vs.toList,x.oneCell'=true:=by
   refine ⟨?_,?_⟩
   ·rw [CD]
    refine ⟨by simp [h1],fun i t x ht hx=>?_⟩
    rw [List.getElem?_map] at ht
    simp only [Option.map_eq_some_iff] at ht
    obtain ⟨c,hc,rfl⟩:=ht
    obtain ⟨y,hy,hcr,_⟩:=h2 i c hc
    rw [Array.getElem?_toList,hy] at hx
    simp only [zzY] at hx
    subst hx
    obtain ⟨_ | _,t⟩:=c
    ·exact C1 (fun b o u hc hf=>⟨hc,fun hf'=>hf (.inl hf')⟩) _ _ hcr.1
    ·refine C1 (fun b o u hc hf=>⟨hc,fun hf'=>hf (.inl hf')⟩) _ _ (IE.rep hcr (fun b lo o hz ho=>?_))
     rintro (h6 | ⟨j,lo',h6,h7⟩)
     ·have:=(h4 i b lo hz).1; omega
     ·have hij:=h3 i j b lo lo' hz h6
      subst hij
      rw [hz] at h6
      simp only [zzY,Prod.mk.injEq,true_and] at h6
      omega
   ·intro x hx
    obtain ⟨i,hi⟩:=List.getElem?_of_mem hx
    have hlt:i<cs.length:=by
     have:=(List.getElem?_eq_some_iff.1 hi).1
     simpa [h1] using this
    obtain ⟨y,hy,_,h1y⟩:=h2 i _ (List.getElem?_eq_getElem hlt)
    rw [Array.getElem?_toList,hy] at hi
    simp only [zzY] at hi
    subst hi
    exact h1y
  refine h.tv hb d hd (.agg (cs.map (·.t))) _ ?_ (by
   simp only [TV.WF]
   rw [CJ]
   intro t ht
   obtain ⟨c,hc,rfl⟩:=List.mem_map.1 ht
   exact hw c hc)
  simp only [A1]
  refine ⟨vs,rfl,BI (fun b o u hc hf=>⟨hc,fun hf'=>hf ?_⟩) _ _ hrow.1,List.all_eq_true.2 hrow.2⟩
  rcases old _ _ _ hf' with h6 | ⟨i,lo,h6,_⟩
  ·exact h6
  ·cases h6
 | turn zs=>exact hr.elim
 | cut zs=>exact hr.elim
 | bo _ _ _ _=>exact hr.elim
 | ext _=>exact hr.elim
theorem H7 {f:FuncId} (hc:F1 P f=true) (vs:Array Value):(callFunc f vs).run P w=.ok (.enter f vs) w:=by
 unfold F1 at hc
 cases hf:P.funcs[f]? with
 | none=>rw [hf] at hc; cases hc
 | some fn=>
  rw [hf] at hc
  simp only [zzZ,bne_iff_ne,ne_eq] at hc
  have h2:¬ fn.body=none:=by
   intro hb; rw [hb] at hc; simp at hc
  simp [callFunc,hf,hc.1,h2]
theorem Vh (hI:AT F0 w0 env a w G) (hd:d<a.tmps.size) (hdst:o.dst=some d) {f:FuncId} {vs:Array Value} {ts:List TV} {r:CH} (hrun:(execOp a.eval o).run P w=(callFunc f vs).run P w) (hS:AR P f ts r∧r.plain=true) (hwf:TV.WFs ts) (hrep:AQ w (AY w0.heap.size F0 G) ts vs.toList) (hK:r.WF->K r.ev env)
  {next:Act->World->Prop} {Q:Exit->Act->World->Prop} (hn:∀ e env' a' w',K e env'->O1 a d a'->C2 F0 w0 ((d,e)::env') a' w'->next a' w'):o.wp P a w next Q:=by
 obtain ⟨h2,h3⟩:=hS.1.to0 hS.2 hwf
 obtain ⟨h1,h3⟩:=h3 _ w vs hrep
 unfold Oper.wp
 rw [hrun,H7 h2 vs,Oper.upon_enter]
 refine h3.mono ?_
 rintro e w' ⟨v,rfl,hb,hr⟩
 simp only [hdst]
 exact hn _ _ _ _ (hK h1) ⟨_,rfl⟩ (hI.called hd hb hr h1)
theorem Yg (hI:AT F0 w0 env a w G) (hd:d<a.tmps.size) (hdst:o.dst=some d) {f:FuncId} {xs:Array Operand} {ys:List AJ} {ats:Array TypeId} (hop:o.op=.call { callee:=.value (.func f),args:=xs,argTypes:=ats }) (hok:C5 xs.toList ys=true) (h:(AH.call f ys).wp (AR P) env (some d) K)
  {next:Act->World->Prop} {Q:Exit->Act->World->Prop} (hn:∀ e env' a' w',K e env'->O1 a d a'->C2 F0 w0 ((d,e)::env') a' w'->next a' w'):o.wp P a w next Q:=by
 simp only [AH.wp] at h
 cases hts:vals env ys with
 | none=>rw [hts] at h; exact h.elim
 | some ts=>
  rw [hts] at h
  simp only [A6] at h
  obtain ⟨r,hS,hK⟩:=h
  have:=I9 hI hok hts
  refine Vh hI hd hdst (vs:=xs.map a.eval) ?_ hS this.2 (by simpa using this.1) hK hn
  simp [execOp,hop,resolve,Act.eval,Deferred.ofValue,invoke]
theorem XO (hI:AT F0 w0 env a w G) (hd:d<a.tmps.size) (hdst:o.dst=some d) {x:Operand} {y:AJ} {xs:Array Operand} {ys:List AJ} {ats:Array TypeId} (hop:o.op=.call { callee:=.value x,args:=xs,argTypes:=ats }) (hx:AP x y=true) (hok:C5 xs.toList ys=true) (h:(AH.callv y ys).wp (AR P) env (some d) K)
  {next:Act->World->Prop} {Q:Exit->Act->World->Prop} (hn:∀ e env' a' w',K e env'->O1 a d a'->C2 F0 w0 ((d,e)::env') a' w'->next a' w'):o.wp P a w next Q:=by
 simp only [AH.wp] at h
 split at h
 ·rename_i f caps ts hf hts
  obtain ⟨r,hS,hK⟩:=h
  have h1:=BL hI hx hf
  have h2:=I9 hI hok hts
  simp only [A1,TV.WF] at h1
  obtain ⟨⟨cs,h3,h4⟩,h5⟩:=h1
  refine Vh hI hd hdst (vs:=xs.map a.eval++cs) ?_ hS (KJ.2 ⟨h2.2,h5⟩) ?_ hK hn
  ·simp [execOp,hop,resolve,h3,Deferred.ofValue,invoke]
  ·rw [Array.toList_append]
   exact JZ (by simpa using h2.1) h4
 ·exact h.elim
end
end Go.Sf
