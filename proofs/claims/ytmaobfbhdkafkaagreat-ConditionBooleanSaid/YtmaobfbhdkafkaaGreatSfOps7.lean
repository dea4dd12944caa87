/- Steps: slice literals, own boxes, taking, appending. -/
import Derived.Test.YtmaobfbhdkafkaaGreatSfOps6
namespace Go.Sf
open Go.RowKit (Below)
theorem XS (pre:List TV) (x t:TV) (r:List TV):(pre++x::r).set pre.length t=pre++t::r:=by
 induction pre with
 | nil=>rfl
 | cons p pre ih=>simp
theorem Qm:∀ (ds pre rest:List TV),ds.length<=rest.length->Mf (pre++rest) pre.length ds=pre++ds++rest.drop ds.length
 | [],pre,rest,_=>by simp [Mf]
 | d::ds,pre,[],h=>by simp at h
 | d::ds,pre,x::rest,h=>by
  simp only [Mf,XS]
  have:=Qm ds (pre++[d]) rest (by simpa using h)
  simp only [List.length_append,List.length_singleton,List.append_assoc,List.singleton_append] at this
  simpa using this
def JR (n:Nat):Nat->List TV->List (Nat × Nat × TV)
 | _,[]=>[]
 | k,t::ts=>(k*n,n,t)::JR n (k+1) ts
theorem S9 (n:Nat):∀ (ts pre:List TV) (k:Nat),(∀ t∈ts,t.cells.length=n)->pre.length=k*n ->
  G5 (pre++List.replicate (ts.length*n) .undef) (JR n k ts)=some (pre++ts.flatMap TV.cells)
 | [],pre,k,_,_=>by simp [JR,G5]
 | t::ts,pre,k,hn,hp=>by
  have ht:t.cells.length=n:=hn t (by simp)
  simp only [JR,G5]
  rw [if_pos ⟨ht,by simp only [List.length_append,List.length_replicate,List.length_cons,Nat.add_mul]; omega⟩]
  rw [←hp,Qm t.cells pre _ (by simp only [List.length_replicate,List.length_cons,Nat.add_mul]; omega)]
  have hr:(List.replicate ((t::ts).length*n) TV.undef).drop t.cells.length=List.replicate (ts.length*n) TV.undef:=by
   rw [List.drop_replicate]; congr 1; simp only [List.length_cons,Nat.add_mul]; omega
  rw [hr]
  have:=S9 n ts (pre++t.cells) (k+1) (fun x hx=>hn x (by simp [hx])) (by simp only [List.length_append,Nat.add_mul]; omega)
  rw [this]
  simp [List.flatMap_cons]
def Pl:Nat->List (Nat × Operand)->List AE->Bool
 | _,[],[]=>true
 | k,(i,x)::ps,y::ys=>i==k&&AK x y&&Pl (k+1) ps ys
 | _,_,_=>false
section
variable {P:Program} {S:FuncId->List TV->B5->Prop} {F0:Nat->Nat->Prop} {w0:W0} {env:AC} {a:Act} {w:World} {G:C0} {d:Nat} {o:Oper} {K:EV->AC->Prop}
theorem WE (hI:AQ F0 w0 env a w G) (n:Nat):∀ {k:Nat} {ps:List (Nat × Operand)} {ys:List AE} {ts:List TV},Pl k ps ys=true->vals env ys=some ts ->
  ps.length=ts.length∧(∀ (j:Nat) (p:Nat × Value) (t:Nat × Nat × TV),(ps.map fun (i,x)=>(i,a.eval x))[j]?=some p->(JR n k ts)[j]?=some t->(some (p.1*n,n):Option (Nat × Nat))=some (t.1,t.2.1)∧A1 w (AV w0.heap.size F0 G) t.2.2 p.2)∧TV.WFs ts
 | _,[],[],ts,_,h=>by simp [vals] at h; subst h; simp [TV.WFs]
 | _,[],_::_,_,h,_=>by simp [Pl] at h
 | _,_::_,[],_,h,_=>by simp [Pl] at h
 | k,(i,x)::ps,y::ys,ts,hok,h=>by
  simp only [Pl,zzZ,beq_iff_eq] at hok
  simp only [vals] at h
  split at h
  ·rename_i t ts' ht hts
   simp only [zzY] at h
   subst h
   obtain ⟨h1,h2,h3⟩:=WE hI n hok.2 hts
   have h4:=A9 hI hok.1.2 ht
   refine ⟨by simp [h1],fun j p u hp hu=>?_,h4.2,h3⟩
   cases j with
   | zero=>simp [JR] at hp hu; subst hp; subst hu; exact ⟨by rw [hok.1.1],h4.1⟩
   | succ j=>exact h2 j p u (by simpa using hp) (by simpa [JR] using hu)
  ·cases h
theorem N8 (n:Nat):∀ (k:Nat) (ts:List TV),(JR n k ts).length=ts.length
 | _,[]=>rfl
 | k,t::ts=>by simp [JR,N8 n (k+1) ts]
theorem cn {F:Nat->Nat->Prop} {n:Nat} {ts:List TV} {cells:Array Value} {e:TypeId} (h:AM (w.alloc (.cells cells e)) F (ts.flatMap TV.cells) cells.toList) (ho:∀ x∈cells.toList,x.oneCell'=true) (hn:∀ t∈ts,t.cells.length=n) (hl:ts.length<=maxLen) :
  CC (w.alloc (.cells cells e)) F (some (w.heap.size,ts.length*n)) (.list n ts) (.slice (some ⟨w.heap.size,0,none⟩) ts.length ts.length):=by
 have hlen:=BX h
 rw [Me n ts hn] at hlen
 simp only [CC]
 refine ⟨cells.toList,⟨hlen,.inr ⟨w.heap.size,ts.length,cells,e,rfl,heap_alloc_new w _,Nat.le_refl _,hl,by simpa using hlen,?_,rfl⟩⟩,h,hn,ho⟩
 rw [←hlen,List.take_length]
theorem aj (hI:AQ F0 w0 env a w G) (hd:d<a.tmps.size) {t e:TypeId} {ie:TypeInfo} {z:Value} {len n:Nat} {ps:Array (Nat × Operand)} {ys:List AE} (hop:o.op=.buildSlice t len ps) (hu:P.underlying t=some (.slice e)) (hie:P.info? e=some ie) (hz:ie.zero=some z)
  (hn:ie.size=n) (hn0:0<n) (hone:z.cells.toList.all Value.oneCell'=true) (hzs:0<z.cells.size) (hlen:len=ps.size) (hsm:len*n<=2 ^ 24) (hok:Pl 0 ps.toList ys=true) (h:(AD.lst n ys).wp S env (some d) K):BG P F0 w0 a w o d K:=by
 simp only [AD.wp] at h
 cases hts:vals env ys with
 | none=>rw [hts] at h; exact h.elim
 | some ts=>
  rw [hts] at h
  simp only [A0] at h
  obtain ⟨hc,hK⟩:=h
  obtain ⟨h1,h2,h3⟩:=WE hI n hok hts
  have hlt:len=ts.length:=by rw [hlen,←h1]; simp
  have hwf:(TV.list n ts).WF:=⟨by simp only [J4]; have:len*1<=len*n:=Nat.mul_le_mul_left _ hn0; omega,h3⟩
  have hml:ts.length<=maxLen:=by simp only [maxLen]; have:len*1<=len*n:=Nat.mul_le_mul_left _ hn0; omega
  have hcells:∃ cells:Array Value,(Instr.buildSlice t len (ps.map fun (i,x)=>(i,a.eval x))).run P w=.ok (.slice (some ⟨w.heap.size,0,none⟩) len len) (w.alloc (.cells cells e))∧AM w (AV w0.heap.size F0 G) (ts.flatMap TV.cells) cells.toList∧∀ x∈cells.toList,x.oneCell'=true:=by
   by_cases h0:len=0
   ·have hps:ps=#[]:=by apply Array.eq_empty_of_size_eq_zero; omega
    have hts0:ts=[]:=by apply List.eq_nil_of_length_eq_zero; omega
    subst hps; subst hts0; subst h0
    refine ⟨#[],?_,rfl,by simp⟩
    simp [Instr.buildSlice,run_underlying hu,sizeOf,typeInfo,hie,Instr.fill,newRow]
    rw [Array.range_zero']; simp
   ·have hrep0:AM w (AV w0.heap.size F0 G) (List.replicate (ts.length*n) .undef) ((Array.range (len*ie.size)).map (z.cells[· % z.cells.size]!)).toList:=by
     rw [B1]
     refine ⟨by simp [hn,hlt],fun i u v hu hv=>?_⟩
     rw [List.getElem?_replicate] at hu
     split at hu
     ·simp only [zzY] at hu
      subst hu
      simp only [A1]
      rw [Array.getElem?_toList,Array.getElem?_map] at hv
      simp only [Option.map_eq_some_iff] at hv
      obtain ⟨q,_,rfl⟩:=hv
      have hlt':=Nat.mod_lt q hzs
      rw [getElem!_pos z.cells _ hlt']
      exact List.all_eq_true.1 hone _ (by simp)
     ·cases hu
    have hfl:=S9 n ts [] 0 hc (by simp)
    simp only [List.nil_append] at hfl
    have hone0:∀ x∈((Array.range (len*ie.size)).map (z.cells[· % z.cells.size]!)).toList,x.oneCell'=true:=by
     intro x hx
     rw [Array.mem_toList_iff,Array.mem_map] at hx
     obtain ⟨q,_,rfl⟩:=hx
     have hlt':=Nat.mod_lt q hzs
     rw [getElem!_pos z.cells _ hlt']
     exact List.all_eq_true.1 hone _ (by simp)
    obtain ⟨xs',h6,h7,h8⟩:=RU (place:=fun i=>some (i*n,n)) hrep0 (by rw [N8]; simpa using h1) h2 hfl hone0
    refine ⟨xs',run_buildSlice w t e len _ xs' ie z hu hie hz (by rw [hn]; omega) ?_ ?_,h7,h8⟩
    ·rw [hn]; intro h; rcases Nat.mul_eq_zero.1 h with h | h <;> omega
    ·rw [hn] at h6 ⊢
     simpa using h6
  obtain ⟨cells,hrun,hrep,hones⟩:=hcells
  have hb:Below w.heap.size w (w.alloc (.cells cells e)):=(Below.refl _ _).alloc (Nat.le_refl _) _
  refine ⟨.slice (some ⟨w.heap.size,0,none⟩) len len,_,by simp only [execOp,hop,Sem.run_bind,hrun,Result.andThen_ok,Sem.run_pure],_,_,hK,hI.ow hb d hd (.list n ts) _ (some (w.heap.size,ts.length*n)) (fun b lo hbl=>?_) ?_ hwf⟩
  ·simp only [zzY,Prod.mk.injEq] at hbl
   obtain ⟨rfl,_⟩:=hbl
   exact ⟨Nat.le_refl _,by simp⟩
  ·rw [hlt]
   exact cn (A8 (Ks hb d _ (fun i b lo h=>by
    split at h
    ·simp only [zzY,Prod.mk.injEq] at h; omega
    ·cases h)) _ _ hrep) hones hc hml
theorem AQ.strip (h:AQ F0 w0 env a w G) (s:Nat):AQ F0 w0 (strip env s) a w G:=by
 refine ⟨h.uniq,h.lt,h.below,h.defers,fun q hq=>?_,fun q hq=>?_,fun q=>?_⟩
 ·simp only [Go.Sf.strip,AC.get_cons]
  split
  ·rfl
  ·exact h.dom q hq
 ·have:=h.slots q hq
  simp only [Go.Sf.strip,AC.get_cons]
  split
  ·trivial
  ·refine AP.kept (Ox _ _) (fun _=>rfl) (fun _ _ _ _=>rfl) (fun r off hr ⟨cs,hcs⟩=>?_) (fun r i hr ⟨p,hp⟩=>⟨⟨p,(AC.xat_drop (by simp) (by simp) hp).2⟩,fun _ hv=>hv⟩) this
   ·rw [AC.get_cons] at hcs
    split at hcs
    ·cases hcs
    ·exact ⟨⟨cs,hcs⟩,rfl⟩
 ·simp only [Go.Sf.strip,AC.get_cons]
  split
  ·trivial
  ·exact h.wf q
theorem AQ.move (h:AQ F0 w0 env a w G) {s:Nat} {t:TV} (hs:env.get s=.ow t) (hd:d<a.tmps.size) :
  ∃ G',AQ F0 w0 ((d,.ow t)::Go.Sf.strip env s) (a.put (some d) (slot a s)) w G'∧C7 w w (AV w0.heap.size F0 G) (AV w0.heap.size F0 G'):=by
 have hown:=At h hs (by simp)
 simp only [AP] at hown
 have hwf:=h.wf s
 rw [hs] at hwf
 let zs:Option (Nat × Nat):=G s none
 let G':C0:=FF (FF G s (fun _=>none)) d (fun i=>if i=none then zs else none)
 have hG':∀ q i b lo,G' q i=some (b,lo)->(q=d∧i=none∧G s none=some (b,lo))∨(q≠d∧q≠s∧G q i=some (b,lo)):=by
  intro q i b lo hq
  by_cases hqd:q=d
  ·subst hqd
   simp only [G',BN] at hq
   split at hq
   ·rename_i hi; exact .inl ⟨rfl,hi,hq⟩
   ·cases hq
  ·simp only [G',BD _ _ _ _ hqd] at hq
   by_cases hqs:q=s
   ·subst hqs; rw [BN] at hq; cases hq
   ·rw [BD _ _ _ _ hqs] at hq
    exact .inr ⟨hqd,hqs,hq⟩
 have hback:∀ q i b lo,G' q i=some (b,lo)->∃ q' i' lo',G q' i'=some (b,lo')∧lo'<=lo:=by
  intro q i b lo hq
  rcases hG' q i b lo hq with ⟨_,_,h1⟩ | ⟨_,_,h1⟩
  ·exact ⟨s,none,lo,h1,Nat.le_refl _⟩
  ·exact ⟨q,i,lo,h1,Nat.le_refl _⟩
 have hag:C7 w w (AV w0.heap.size F0 G) (AV w0.heap.size F0 G'):=fun b o v hc hf=>⟨hc,fun hf'=>hf (AV.mono hback hf')⟩
 refine ⟨G',⟨?_,?_,h.below,by rw [KT]; exact h.defers,?_,?_,?_⟩,hag⟩
 ·intro q i q' i' b lo lo' h1 h2
  rcases hG' _ _ _ _ h1 with ⟨rfl,rfl,e1⟩ | ⟨n1,n2,e1⟩ <;> rcases hG' _ _ _ _ h2 with ⟨rfl,rfl,e2⟩ | ⟨m1,m2,e2⟩
  ·exact ⟨rfl,rfl⟩
  ·exact absurd (h.uniq _ _ _ _ _ _ _ e1 e2).1.symm m2
  ·exact absurd (h.uniq _ _ _ _ _ _ _ e1 e2).1 n2
  ·exact h.uniq _ _ _ _ _ _ _ e1 e2
 ·intro q i b lo h1
  rcases hG' _ _ _ _ h1 with ⟨_,_,e1⟩ | ⟨_,_,e1⟩ <;> exact h.lt _ _ _ _ e1
 ·intro q hq
  rw [ES] at hq
  rw [AC.get_cons,if_neg (by omega)]
  exact (h.strip s).dom q hq
 ·intro q hq
  rw [ES] at hq
  rw [AC.get_cons]
  by_cases hqd:d=q
  ·subst hqd
   rw [if_pos rfl,HO _ _ _ hd]
   simp only [AP,G',BN,if_true]
   exact hown.kept hag (fun _ _ _=>rfl)
  ·rw [if_neg hqd,A5 _ _ _ _ hqd]
   simp only [Go.Sf.strip,AC.get_cons]
   split
   ·trivial
   ·rename_i hsq
    refine AP.kept hag (fun i=>?_) (fun _ _ _ _=>rfl) (fun r off hr ⟨cs,hcs⟩=>?_) (fun r i hr ⟨p,hp⟩=>?_) (h.slots q hq)
    ·simp only [G']
     rw [BD _ _ _ _ (fun e=>hqd e.symm),BD _ _ _ _ (fun e=>hsq e.symm)]
    ·rw [AC.get_cons] at hcs
     by_cases hdr:d=r
     ·rw [if_pos hdr] at hcs; cases hcs
     ·rw [if_neg hdr] at hcs
      simp only [AC.get_cons] at hcs
      split at hcs
      ·cases hcs
      ·exact ⟨⟨cs,hcs⟩,A5 _ _ _ _ hdr⟩
    ·have h1:=AC.xat_drop (by simp) (by simp) hp
     have h2:=AC.xat_drop (by simp) (by simp) h1.2
     exact ⟨⟨p,h2.2⟩,h.xv ⟨p,h2.2⟩ (A5 _ _ _ _ h1.1) (fun _ _=>rfl)⟩
 ·intro q
  rw [AC.get_cons]
  split
  ·exact hwf
  ·exact (h.strip s).wf q
theorem aO (a:Act) (d s:Nat) (v:Value) (h:d<a.tmps.size):slot (a.put (some d) v) s=if d=s then v else slot a s:=by
 split
 ·rename_i e; subst e; exact HO _ _ _ h
 ·rename_i e; exact A5 _ _ _ _ e
theorem AQ.move' (h:AQ F0 w0 env a w G) {s:Nat} {t:TV} (hs:env.get s=.ow t) (hd:d<a.tmps.size) :
  CU F0 w0 ((d,.ow t)::(s,.tv t)::env) (a.put (some d) (slot a s)) w:=by
 obtain ⟨G',h',hag⟩:=h.move hs hd
 have hv:=A9 h (x:=.tmp s) (y:=.s s) (by simp [AK]) (t:=t) (by simp [AE.val,AE.ev,hs,EV.val])
 have hsz:=FM h hs (by simp)
 refine ⟨G',h'.rem s (t:=t) (by rw [ES]; exact hsz) ?_ hv.2 fun n=>?_⟩
 ·have:slot (a.put (some d) (slot a s)) s=slot a s:=by rw [aO _ _ _ _ hd]; split <;> rfl
  rw [this]
  exact CR hag _ _ hv.1
 ·simp only [Go.Sf.strip,AC.get_cons]
  split
  ·exact .inl rfl
  ·split
   ·rename_i e; exact .inr ⟨e.symm,rfl⟩
   ·exact .inl rfl
theorem Wc (hI:AQ F0 w0 env a w G) (hd:d<a.tmps.size) {s:Nat} (hop:o.op=.move (.tmp s)∨o.op=.assign (.tmp s)) (h:(AD.tk s).wp S env (some d) K):BG P F0 w0 a w o d K:=by
 simp only [AD.wp] at h
 have hrun:(execOp a.eval o).run P w=.ok (.value (slot a s)) w:=by
  rcases hop with hop | hop <;> simp [execOp,hop] <;> rfl
 split at h
 ·rename_i t hs
  exact ⟨_,_,hrun,_,_,h,hI.move' hs hd⟩
 ·rename_i t hs
  have:=A9 hI (x:=.tmp s) (y:=.s s) (by simp [AK]) (t:=t) (by simp [AE.val,AE.ev,hs,EV.val])
  exact C6 hI hd hrun this.1 this.2 h
 ·exact h.elim
end
end Go.Sf
