/- Steps: aggregates and slices that are built; boxes; lists that are owned. -/
import Derived.Test.YtmaobfbhdkafkaaGreatSfOps5
import Derived.Laws.Tables
import Derived.Great.BuildSlice
namespace Go.Sf
open Go.RowKit (Below)
def Rd:List Value->Nat->List Value->List Value
 | cs,_,[]=>cs
 | cs,i,d::ds=>Rd (cs.set i d) (i+1) ds
theorem N4 (off:Nat):∀ (l:List Value) (k:Nat) (cells:Array Value),((l.zipIdx k).foldl (fun cs (x:Value × Nat)=>cs.setIfInBounds (off+x.2) x.1) cells).toList=Rd cells.toList (off+k) l
 | [],_,_=>rfl
 | v::l,k,cells=>by
  simp only [List.zipIdx_cons,List.foldl_cons,Rd]
  rw [N4 off l (k+1)]
  simp [Array.toList_setIfInBounds,Nat.add_assoc]
section
variable {w:World} {F:Nat->Nat->Prop}
theorem XK {cs:List TV} {xs:List Value} (h:AM w F cs xs) (i:Nat) {t:TV} {v:Value} (ht:A1 w F t v):AM w F (cs.set i t) (xs.set i v):=by
 rw [B1] at h ⊢
 refine ⟨by simp [h.1],fun j u x hu hx=>?_⟩
 rw [List.getElem?_set] at hu hx
 split at hu
 ·rename_i hij
  subst hij
  simp only [if_true] at hx
  split at hu
  ·split at hx
   ·simp only [zzY] at hu hx; subst hu; subst hx; exact ht
   ·cases hx
  ·cases hu
 ·rename_i hij
  rw [if_neg hij] at hx
  exact h.2 j u x hu hx
theorem SQ:∀ {ds:List TV} {ys:List Value} {cs:List TV} {xs:List Value} (i:Nat),AM w F cs xs->AM w F ds ys->AM w F (Mf cs i ds) (Rd xs i ys)
 | [],ys,cs,xs,i,h,hd=>by simp only [AM] at hd; subst hd; exact h
 | d::ds,ys,cs,xs,i,h,hd=>by
  simp only [AM] at hd
  obtain ⟨v,r,rfl,h1,h2⟩:=hd
  exact SQ (i+1) (XK h i h1) h2
theorem WH:∀ (ys xs:List Value) (i:Nat),(∀ x∈xs,x.oneCell'=true)->(∀ y∈ys,y.oneCell'=true)->∀ x∈Rd xs i ys,x.oneCell'=true
 | [],_,_,h,_=>h
 | y::ys,xs,i,h,hy=>by
  refine WH ys (xs.set i y) (i+1) (fun x hx=>?_) (fun z hz=>hy z (by simp [hz]))
  rcases List.mem_or_eq_of_mem_set hx with hx | rfl
  ·exact h x hx
  ·exact hy _ (by simp)
theorem RU {place:Nat->Option (Nat × Nat)}:∀ {ps:List (Nat × Value)} {ts:List (Nat × Nat × TV)} {cs cs':List TV} {xs:Array Value},AM w F cs xs.toList->ps.length=ts.length ->
  (∀ (j:Nat) (p:Nat × Value) (t:Nat × Nat × TV),ps[j]?=some p->ts[j]?=some t->place p.1=some (t.1,t.2.1)∧A1 w F t.2.2 p.2)->G5 cs ts=some cs'->(∀ x∈xs.toList,x.oneCell'=true) ->
  ∃ xs',Instr.fill place xs ps=some xs'∧AM w F cs' xs'.toList∧∀ x∈xs'.toList,x.oneCell'=true
 | [],ts,cs,cs',xs,h,hl,hp,hf,ho=>by
  have:ts=[]:=List.eq_nil_of_length_eq_zero hl.symm
  subst this
  simp only [G5,zzY] at hf
  subst hf
  exact ⟨xs,rfl,h,ho⟩
 | (i,v)::ps,[],_,_,_,_,hl,_,_,_=>by simp at hl
 | (i,v)::ps,(off,n,t)::ts,cs,cs',xs,h,hl,hp,hf,ho=>by
  simp only [G5] at hf
  split at hf
  ·rename_i hc
   obtain ⟨h1,h2⟩:=hp 0 _ _ rfl rfl
   simp only at h1 h2
   have h3:=(Ic h2).1
   have h10:=(Ic h2).2
   have h4:v.cells.size=n:=by have:=BX h3; rw [Array.length_toList] at this; omega
   have h5:=BX h
   rw [Array.length_toList] at h5
   have h6:AM w F (Mf cs off t.cells) ((v.cells.zipIdx.foldl (fun cs (x:Value × Nat)=>cs.setIfInBounds (off+x.2) x.1) xs)).toList:=by
    have h7:=SQ off h h3
    rw [←Array.foldl_toList,Array.toList_zipIdx,N4,Nat.add_zero]
    exact h7
   obtain ⟨xs',h8,h9⟩:=RU h6 (by simpa using hl) (fun j p t hpj htj=>hp (j+1) p t (by simpa using hpj) (by simpa using htj)) hf (by
    rw [←Array.foldl_toList,Array.toList_zipIdx,N4,Nat.add_zero]
    exact WH _ _ _ ho h10)
   refine ⟨xs',?_,h9⟩
   simp only [Instr.fill,h1]
   rw [if_neg (by simp; omega)]
   exact h8
  ·cases hf
end
def LS (place:Nat->Option (Nat × Nat)):List (Nat × Operand)->List (Nat × Nat × AE)->Bool
 | [],[]=>true
 | (i,x)::ps,(off,n,y)::qs=>place i==some (off,n)&&AK x y&&LS place ps qs
 | _,_=>false
def XA (P:Program) (t:TypeId) (zero:List TV) (ps:List (Nat × Operand)) (qs:List (Nat × Nat × AE)):Bool:=
 match P.info? t,P.underlying t with
 | some it,some (.array _ e)=>
  match it.zero,P.info? e with
  | some z,some ie=>JT zero z.cells.toList&&z.cells.toList.all Value.oneCell'&&LS (fun i=>some (i*ie.size,ie.size)) ps qs
  | _,_=>false
 | some it,some (.struct fields)=>
  match it.zero,fields.toList.mapM (fun f=>(P.info? f.type).map fun i=>(f.offset,i.size)) with
  | some z,some places=>JT zero z.cells.toList&&z.cells.toList.all Value.oneCell'&&LS (places.toArray[·]?) ps qs
  | _,_=>false
 | _,_=>false
section
variable {P:Program} {S:FuncId->List TV->B5->Prop} {F0:Nat->Nat->Prop} {w0:W0} {env:AC} {a:Act} {w:World} {G:C0} {d:Nat} {o:Oper} {K:EV->AC->Prop}
theorem TR (hI:AQ F0 w0 env a w G) {place:Nat->Option (Nat × Nat)}:∀ {ps:List (Nat × Operand)} {qs:List (Nat × Nat × AE)} {ts:List (Nat × Nat × TV)},LS place ps qs=true->Hz env qs=some ts ->
  ps.length=ts.length∧(∀ (j:Nat) (p:Nat × Value) (t:Nat × Nat × TV),(ps.map fun (i,x)=>(i,a.eval x))[j]?=some p->ts[j]?=some t->place p.1=some (t.1,t.2.1)∧A1 w (AV w0.heap.size F0 G) t.2.2 p.2)∧∀ t∈ts,t.2.2.WF
 | [],[],ts,_,h=>by simp [Hz] at h; subst h; simp
 | [],_::_,_,h,_=>by simp [LS] at h
 | _::_,[],_,h,_=>by simp [LS] at h
 | (i,x)::ps,(off,n,y)::qs,ts,hok,h=>by
  simp only [LS,zzZ,beq_iff_eq] at hok
  simp only [Hz] at h
  split at h
  ·rename_i t ts' ht hts
   simp only [zzY] at h
   subst h
   obtain ⟨h1,h2,h3⟩:=TR hI hok.2 hts
   have h4:=A9 hI hok.1.2 ht
   refine ⟨by simp [h1],fun j p u hp hu=>?_,fun u hu=>?_⟩
   ·cases j with
    | zero=>simp at hp hu; subst hp; subst hu; exact ⟨hok.1.1,h4.1⟩
    | succ j=>exact h2 j p u (by simpa using hp) (by simpa using hu)
   ·rcases List.mem_cons.1 hu with rfl | hu
    ·exact h4.2
    ·exact h3 u hu
  ·cases h
theorem Wk:∀ {ds cs:List TV} (i:Nat),TV.WFs cs->TV.WFs ds->TV.WFs (Mf cs i ds)
 | [],_,_,h,_=>h
 | d::ds,cs,i,h,hd=>by
  refine Wk (i+1) ?_ hd.2
  rw [B4] at h ⊢
  intro t ht
  rcases List.mem_or_eq_of_mem_set ht with ht | rfl
  ·exact h t ht
  ·exact hd.1
theorem VT:∀ {ts:List (Nat × Nat × TV)} {cs cs':List TV},TV.WFs cs->(∀ t∈ts,t.2.2.WF)->G5 cs ts=some cs'->TV.WFs cs'
 | [],cs,cs',h,_,hf=>by simp [G5] at hf; subst hf; exact h
 | (i,n,t)::ts,cs,cs',h,ht,hf=>by
  simp only [G5] at hf
  split at hf
  ·exact VT (Wk i h (JZ (ht (i,n,t) (by simp)))) (fun u hu=>ht u (by simp [hu])) hf
  ·cases hf
theorem aU (hI:AQ F0 w0 env a w G) (hd:d<a.tmps.size) {t:TypeId} {zero:List TV} {ps:Array (Nat × Operand)} {qs:List (Nat × Nat × AE)} (hop:o.op=.build t ps) (hok:XA P t zero ps.toList qs=true) (h:(AD.bld zero qs).wp S env (some d) K):BG P F0 w0 a w o d K:=by
 simp only [AD.wp] at h
 cases hts:Hz env qs with
 | none=>rw [hts] at h; exact h.elim
 | some ts=>
  rw [hts] at h
  simp only [A0] at h
  cases hcs:G5 zero ts with
  | none=>rw [hcs] at h; exact h.elim
  | some cs=>
   rw [hcs] at h
   simp only at h
   have key:∀ (place:Nat->Option (Nat × Nat)) (z:Array Value),JT zero z.toList=true->z.toList.all Value.oneCell'=true->LS place ps.toList qs=true->∃ xs',Instr.fill place z (ps.map fun (i,x)=>(i,a.eval x)).toList=some xs'∧AM w (AV w0.heap.size F0 G) cs xs'.toList∧TV.WFs cs∧xs'.toList.all Value.oneCell'=true:=by
    intro place z hz hzo hp
    obtain ⟨h1,h2,h3⟩:=TR hI hp hts
    have h4:=Nk w (AV w0.heap.size F0 G) zero z.toList hz
    have h5:(ps.map fun (i,x)=>(i,a.eval x)).toList=ps.toList.map fun (i,x)=>(i,a.eval x):=by simp
    rw [h5]
    obtain ⟨xs',h6,h7,h8⟩:=RU h4.1 (by simpa using h1) h2 hcs (fun x hx=>List.all_eq_true.1 hzo x hx)
    exact ⟨xs',h6,h7,VT h4.2 h3 hcs,List.all_eq_true.2 h8⟩
   have built:∃ xs',P.built t (ps.map fun (i,x)=>(i,a.eval x)).toList=some xs'∧AM w (AV w0.heap.size F0 G) cs xs'.toList∧TV.WFs cs∧xs'.toList.all Value.oneCell'=true:=by
    unfold XA at hok
    unfold Program.built
    split at hok
    ·rename_i it n e h1 h2
     simp only [h1,h2]
     split at hok
     ·rename_i z ie h3 h4
      simp only [h3,h4]
      simp only [zzZ] at hok
      exact key _ _ hok.1.1 hok.1.2 hok.2
     ·cases hok
    ·rename_i it fields h1 h2
     simp only [h1,h2]
     split at hok
     ·rename_i z places h3 h4
      simp only [h3,h4]
      simp only [zzZ] at hok
      exact key _ _ hok.1.1 hok.1.2 hok.2
     ·cases hok
    ·cases hok
   obtain ⟨xs',h1,h2,h3,h4⟩:=built
   refine C6 hI hd (v:=.agg xs') (t:=.agg cs) ?_ ?_ (by simpa [TV.WF] using h3) h
   ·simp [execOp,hop,run_build w t _ xs' h1]
   ·simp only [A1]; exact ⟨xs',rfl,h2,h4⟩
theorem Td (hI:AQ F0 w0 env a w G) (hd:d<a.tmps.size) {x:Operand} {n:Nat} (hop:o.op=.move x∨o.op=.assign x) (hx:∃ v,x=.const v∧Kx v=true) (h:(AD.nilo n).wp S env (some d) K):BG P F0 w0 a w o d K:=by
 simp only [AD.wp] at h
 obtain ⟨v,rfl,hv⟩:=hx
 refine ⟨.slice none 0 0,w,?_,_,_,h,hI.ow (Below.refl _ _) d hd (.list n []) _ none (by simp) ?_ ⟨by simp,trivial⟩⟩
 ·rcases hop with hop | hop <;> simp [execOp,hop,Act.eval,KJ hv]
 ·simp only [CC]
  exact ⟨[],⟨by simp,.inl ⟨rfl,rfl,rfl⟩⟩,rfl,by simp,by simp⟩
end
end Go.Sf
