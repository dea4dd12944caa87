/- Zeros behind a list of one's own. -/
import Derived.Test.YtmaobfbhdkafkaaGreatSfY
import Derived.Lib.AppendZerosOnto
namespace Go.Sf
open Go.RowKit (Below)
theorem JO {z z0:Value} (h:z.cells=#[z0]) (k:Nat):Builtin.zeroCells z.cells k=(List.replicate k z0).toArray:=by
 rw [h]
 apply Array.ext
 ·simp [Builtin.zeroCells]
 ·intro i h1 h2
  simp [Builtin.zeroCells,Nat.mod_one]
section
variable {P:Program} {w:World}
theorem Nq (t tn ty e e':TypeId) (i:TypeInfo) (z z0:Value) (kq kn:IntKind) (ht:P.underlying t=some (.slice e)) (htn:P.underlying tn=some (.int kn)) (hi:P.info? e=some i) (hz:i.zero=some z) (hs:i.size=1) (hzc:z.cells=#[z0]) (h1:z0.oneCell'=true)
  (g sLen sCap:Nat) (cur:Array Value) (hg:w.heap[g]?=some (.cells cur e' (0,0)))
  (k:Nat) (h48:k*i.bytes<=281474976710656) (hk63:(k:Int)<=9223372036854775807) (hroom:sLen+k<=sCap) (hfit:sLen+k<=cur.size) :
  (Builtin.append_ #[t,tn] ty #[.slice (some ⟨g,0,none⟩) sLen sCap,.int kq k]).run P w =
   .ok (.slice (some ⟨g,0,none⟩) (sLen+k) sCap) (w.setRow g (cur.toList.take sLen++List.replicate k z0++cur.toList.drop (sLen+k)).toArray):=by
 have hw:IntKind.i64.wrap (k:Int)=k:=by rw [IntKind.wrap_i64]; omega
 have hneg:¬ ((k:Int)<0):=by omega
 have h48i:¬ (281474976710656<(k:Int)*(i.bytes:Int)):=by
  rw [←Int.natCast_mul]
  omega
 have hst:=run_storeCells_at P g sLen e' (List.replicate k z0) 0 cur w hg (by simpa using hfit) (fun u hu=>by rw [List.eq_of_mem_replicate hu]; exact h1)
 simp only [Nat.add_zero,List.length_replicate] at hst
 by_cases hk:k=0
 ·subst hk
  simp only [List.replicate_zero,Nat.add_zero] at hst
  have hw0:IntKind.i64.wrap 0=0:=by decide
  simp [Builtin.append_,run_underlying ht,run_underlying htn,sizeOf,typeInfo,hi,asInt,asIntOf,hw0,hs,show sLen<=sCap from by omega,Addr.add_lit,hst]
 ·simp [Builtin.append_,run_underlying ht,run_underlying htn,sizeOf,typeInfo,zeroValue,hi,hz,asInt,asIntOf,hw,hneg,h48i,hs,hk,hroom,Addr.add_lit,JO hzc,hst]
theorem Ou (t tn ty e:TypeId) (i:TypeInfo) (kq kn:IntKind) (ht:P.underlying t=some (.slice e)) (htn:P.underlying tn=some (.int kn)) (hi:P.info? e=some i) :
  (Builtin.append_ #[t,tn] ty #[.slice none 0 0,.int kq 0]).run P w=.ok (.slice none 0 0) w:=by
 have hw:IntKind.i64.wrap 0=0:=by decide
 simp [Builtin.append_,run_underlying ht,run_underlying htn,sizeOf,typeInfo,hi,asInt,asIntOf,hw]
theorem YE (t tn ty e:TypeId) (i:TypeInfo) (z z0:Value) (kq kn:IntKind) (ht:P.underlying t=some (.slice e)) (htn:P.underlying tn=some (.int kn)) (hi:P.info? e=some i) (hz:i.zero=some z)
  (hs:i.size=1) (hby:i.bytes<=4096) (hzc:z.cells=#[z0]) (h1:z0.oneCell'=true) (v:Value) (len:Nat) (xs:List Value) (zo:Option (Nat × Nat)) (hown:HI w 1 v len xs zo) (k:Nat) (hk:k<=4096) (hmax:len+k<=B0) :
  ∃ v' w' z',(Builtin.append_ #[t,tn] ty #[v,.int kq k]).run P w=.ok v' w'∧HI w' 1 v' (len+k) (xs++List.replicate k z0) z'∧IS w w' zo z':=by
 have hlen:(xs++List.replicate k z0).length=(len+k)*1:=by rw [List.length_append,hown.1,List.length_replicate]; omega
 have hbytes:(len+k)*i.bytes<=140737488355328:=by
  calc (len+k)*i.bytes<=B0*4096:=Nat.mul_le_mul hmax hby
   _<=140737488355328:=by decide
 have hkb:k*i.bytes<=281474976710656:=by
  calc k*i.bytes<=4096*4096:=Nat.mul_le_mul hk hby
   _<=281474976710656:=by decide
 have hml:len+k<=maxLen:=by simp only [maxLen,B0] at *; omega
 have hzlt:∀ b lo,zo=some (b,lo)->b<w.heap.size:=by
  intro b lo hb
  rcases hown.2 with ⟨_,_,h⟩ | ⟨g,cap,cur,e',_,hg,_,_,_,_,h⟩
  ·rw [h] at hb; cases hb
  ·rw [h] at hb
   simp only [Option.some.injEq,Prod.mk.injEq] at hb
   rw [←hb.1]; exact (Array.getElem?_eq_some_iff.1 hg).1
 have grown:∀ (old:Nat),old<len+k ->
   HI (w.drew.alloc (.cells (xs.toArray++Builtin.zeroCells z.cells k++Builtin.zeroCells z.cells (grownCap w (len+k) old e - (len+k))) e)) 1
    (.slice (some ⟨w.heap.size,0,none⟩) (len+k) (grownCap w (len+k) old e)) (len+k) (xs++List.replicate k z0) (some (w.heap.size,(len+k)*1)) ∧
   IS w (w.drew.alloc (.cells (xs.toArray++Builtin.zeroCells z.cells k++Builtin.zeroCells z.cells (grownCap w (len+k) old e - (len+k))) e)) zo (some (w.heap.size,(len+k)*1)):=by
  intro old ho
  have hge:=grownCap_ge w (len+k) old e
  have hcm:grownCap w (len+k) old e<=maxLen:=grownCap_le_maxLen w (len+k) old e hml
  have hxl:xs.length=len:=by simpa using hown.1
  refine ⟨⟨hlen,.inr ⟨w.heap.size,_,_,e,rfl,heap_alloc_new w.drew _,hge,hcm,?_,?_,rfl⟩⟩,⟨rfl,rfl,rfl,by simp,fun k hk _=>Below.heap_alloc w.drew _ k hk,fun b o v hc _=>?_,fun b lo hb=>?_⟩⟩
  ·rw [JO hzc,JO hzc]
   simp only [Array.size_append,List.size_toArray,List.length_replicate,hxl]
   omega
  ·rw [JO hzc,JO hzc]
   simp only [Array.toList_append,List.append_assoc]
   rw [←List.append_assoc,←hlen]
   exact List.take_left
  ·have hb:b<w.heap.size:=World.block_lt_of_cell? w ⟨b,o,none⟩ hc
   rw [World.cell?_alloc_lt _ _ (a:=⟨b,o,none⟩) (by simpa using hb)]
   simpa using hc
  ·simp only [Option.some.injEq,Prod.mk.injEq] at hb
   rw [←hb.1]
   exact ⟨by simp,.inl (Nat.le_refl _)⟩
 rcases hown.2 with ⟨rfl,rfl,rfl⟩ | ⟨g,cap,cur,e',rfl,hg,hnc,hcm,hcs,htake,rfl⟩
 ·have hx:xs=[]:=List.eq_nil_of_length_eq_zero (by simpa using hown.1)
  subst hx
  by_cases hk0:k=0
  ·subst hk0
   exact ⟨_,_,none,Ou t tn ty e i kq kn ht htn hi,⟨by simp,.inl ⟨rfl,rfl,rfl⟩⟩,IS.refl w none (by simp)⟩
  ·have hr:=Lib.run_append_nil_zeros (P:=P) w t tn ty e i z kq kn ht htn hi hz k (by omega) (by omega) (by omega) hkb
   have hgr:=grown 0 (by omega)
   simp only [Nat.zero_add,List.nil_append,Array.empty_append] at hgr hr ⊢
   exact ⟨_,_,_,hr,hgr.1,hgr.2⟩
 ·have hxl:xs.length=len:=by simpa using hown.1
  simp only [Nat.mul_one] at hcs htake
  by_cases hroom:len+k<=cap
  ·have hr:=Nq (P:=P) (w:=w) t tn ty e e' i z z0 kq kn ht htn hi hz hs hzc h1 g len cap cur hg k hkb (by omega) hroom (by omega)
   refine ⟨_,_,some (g,(len+k)*1),hr,⟨hlen,.inr ⟨g,cap,_,e',rfl,setRow_heap w g cur _ e' _ hg,hroom,hcm,?_,?_,rfl⟩⟩,⟨rfl,rfl,rfl,by simp,fun j _ hj=>setRow_other w g j _ (fun e=>hj (len*1) (by rw [e])),fun b o u hc hlo=>?_,fun b lo hb=>?_⟩⟩
   ·simp only [List.size_toArray,List.length_append,List.length_take,List.length_drop,Array.length_toList,List.length_replicate]
    omega
   ·rw [htake,←hlen]
    exact List.take_left
   ·by_cases hbg:b=g
    ·subst hbg
     have ho:=hlo (len*1) rfl
     rw [cell_of_row _ b o _ e' (0,0) (setRow_heap w b cur _ e' _ hg)]
     rw [cell_of_row w b o cur e' (0,0) hg] at hc
     rw [List.getElem?_toArray,List.append_assoc,List.getElem?_append_left (by simp; omega),List.getElem?_take_of_lt (by omega)]
     simpa using hc
    ·rw [World.cell?_of_block (w:=w) (a:=⟨b,o,none⟩) (setRow_other w g b _ (fun e=>hbg e))]
     exact hc
   ·simp only [Option.some.injEq,Prod.mk.injEq] at hb
    obtain ⟨rfl,rfl⟩:=hb
    refine ⟨by simpa using hzlt g (len*1) rfl,.inr ⟨len*1,rfl,Nat.mul_le_mul_right _ (by omega)⟩⟩
  ·have holds:(Builtin.firstCells i.size len (.slice (some ⟨g,0,none⟩) len cap)).run P w.drew=.ok xs.toArray w.drew:=by
    refine run_firstCells_some (P:=P) w.drew i.size len ⟨g,0,none⟩ len cap xs (by rw [hs]; omega) (fun j u hu=>?_)
    rw [Addr.add_lit,Nat.zero_add]
    have:=hown.cell rfl j u hu
    simpa using this
   have hr:=Lib.run_append_grow_zeros (P:=P) w t tn ty e i z kq kn ht htn hi hz (some ⟨g,0,none⟩) len cap xs holds k (by omega) (by omega) (by omega) (by simp only [B0] at hmax; omega) hkb (growslice_fits (by omega) hbytes)
   have hgr:=grown cap (by omega)
   exact ⟨_,_,_,hr,hgr.1,hgr.2⟩
end
def Operand.isTmp2 (n:Nat):Operand->Bool
 | .tmp m=>m==n
 | _=>false
theorem Operand.isTmp_eq' {n:Nat} {x:Operand} (h:Operand.isTmp2 n x=true):x=.tmp n:=by
 cases x <;> simp [Operand.isTmp2] at h
 rw [h]
def WH (P:Program) (n s:Nat) (z:TV) (x:AG) (c:Call):Bool:=
 match c.callee,c.args.toList,c.argTypes.toList with
 | .builtin .append,[p,q],[t,t']=>Operand.isTmp2 s p&&AL q x&&(match P.underlying t,P.underlying t' with
  | some (.slice e),some (.int _)=>(match P.info? e with
   | some i=>(match i.zero with
    | some zz=>(match zz.cells.toList with
     | [z0]=>n==1&&i.size==1&&decide (i.bytes<=4096)&&EM z z0&&z0.oneCell'
     | _=>false)
    | none=>false)
   | none=>false)
  | _,_=>false)
 | _,_,_=>false
section
variable {P:Program} {S:FuncId->List TV->B9->Prop} {F0:Nat->Nat->Prop} {w0:W0} {env:AC} {a:Act} {w:World} {G:C1} {d:Nat} {o:Oper} {K:EV->AC->Prop}
theorem Wt (hI:AT F0 w0 env a w G) (hd:d<a.tmps.size) {s:Nat} {x:Operand} {y:AG} {t t' e:TypeId} {kn:IntKind} {i:TypeInfo} {zz z0:Value} {z:TV} (hop:o.op=.call { callee:=.builtin .append,args:=#[.tmp s,x],argTypes:=#[t,t'] })
  (ht:P.underlying t=some (.slice e)) (ht':P.underlying t'=some (.int kn)) (hi:P.info? e=some i) (hz:i.zero=some zz) (hs1:i.size=1) (hby:i.bytes<=4096) (hzc:zz.cells=#[z0]) (hoz:EM z z0=true) (h1:z0.oneCell'=true)
  (hok:AL x y=true) (h:(AE.appz 1 s z y).wp S env (some d) K):BG P F0 w0 a w o d K:=by
 simp only [AE.wp] at h
 split at h
 ·rename_i d' m es kk j hdd hs hy
  simp only [Option.some.injEq] at hdd
  subst hdd
  obtain ⟨⟨⟨rfl,_⟩,hzz⟩,⟨h0,h4⟩,⟨hmax,hno,hds⟩,hK⟩:=h
  obtain ⟨k,rfl⟩:∃ k:Nat,j=k:=⟨j.toNat,by omega⟩
  simp only [Int.toNat_natCast] at hmax hK
  have hown:=A4 hI hs (by simp)
  have hwf:=hI.wf s
  rw [hs] at hwf
  simp only [AU] at hown
  obtain ⟨xs,⟨zo,k1,hz0⟩,k2,k3,k4⟩:=hown
  have hv:=(BA hI hok hy).1
  simp only [A1] at hv
  obtain ⟨v',w',z',hrun,r1,r2⟩:=YE (P:=P) t t' o.type e i zz z0 kk kn ht ht' hi hz hs1 hby hzc h1 (slot a s) es.length xs zo k1 k (by omega) hmax
  have hnz:∀ k,(∀ lo,G s none≠some (k,lo))->∀ lo,zo≠some (k,lo):=fun k hk lo hz=>hk 0 (by rw [hz0,hz]; rfl)
  have hfm:∀ k,(List.replicate k z).flatMap TV.cells=List.replicate k z:=by
   intro k
   induction k with
   | zero=>rfl
   | succ k ih=>rw [List.replicate_succ,List.flatMap_cons,ih,hzz]; rfl
  refine ⟨v',w',?_,_,_,hK,hI.xgo hs hd hds (z':=z'.map fun p=>(p.1,0)) r2.os r2.tape r2.output r2.size (fun k hk hz=>r2.other k hk (hnz k hz)) (fun b lo hz=>?_) (by simp) (fun _=>hno) (fun F' G' env' a' hag hG=>?_) ?_⟩
  ·simp [execOp,hop,resolve,invoke,builtin,show a.eval (.tmp s)=slot a s from rfl,hv,hrun]
  ·cases z' with
   | none=>simp at hz
   | some p=>
    simp only [Option.map_some,Option.some.injEq,Prod.mk.injEq] at hz
    obtain ⟨q1,q2⟩:=r2.zone p.1 p.2 rfl
    rw [←hz.1]
    refine ⟨q1,?_⟩
    rcases q2 with q2 | ⟨lo',q2,_⟩
    ·exact .inl q2
    ·exact .inr ⟨0,by rw [hz0,q2]; rfl⟩
  ·simp only [AU]
   rw [hG]
   refine ⟨xs++List.replicate k z0,⟨z',by rw [List.length_append,List.length_replicate]; exact r1,rfl⟩,?_,?_,?_⟩
   ·rw [List.flatMap_append,hfm]
    refine JL (A8 hag _ _ k2) ?_
    rw [B4]
    refine ⟨by simp,fun i u v hu hv=>?_⟩
    rw [List.eq_of_mem_replicate (List.mem_of_getElem? hu),List.eq_of_mem_replicate (List.mem_of_getElem? hv)]
    exact (Hd _ F' z z0 hoz).1
   ·intro e he
    rcases List.mem_append.1 he with he | he
    ·exact k3 e he
    ·rw [List.eq_of_mem_replicate he,hzz]; rfl
   ·intro x hx
    rcases List.mem_append.1 hx with hx | hx
    ·exact k4 x hx
    ·rw [List.eq_of_mem_replicate hx]; exact h1
  ·simp only [EV.WF,TV.WF] at hwf ⊢
   refine ⟨by rw [List.length_append,List.length_replicate]; exact Q1 hmax,J9.2 ⟨hwf.2,?_⟩⟩
   rw [B6]
   intro u hu
   rw [List.eq_of_mem_replicate hu]
   exact (Hd w (fun _ _=>False) z z0 hoz).2
 ·exact h.elim
theorem Vh (hI:AT F0 w0 env a w G) (hd:d<a.tmps.size) {f:FuncId} {xs:Array Operand} {ys:List AG} {ats:Array TypeId} (hop:o.op=.call { callee:=.value (.func f),args:=xs,argTypes:=ats }) (hok:CB xs.toList ys=true) (h:(AE.callf f ys).wp (AV P) env (some d) K):BG P F0 w0 a w o d K:=by
 simp only [AE.wp] at h
 cases hts:vals env ys with
 | none=>rw [hts] at h; exact h.elim
 | some ts=>
  rw [hts] at h
  simp only [A2] at h
  obtain ⟨us,hS,hK⟩:=h
  have hv:=Iy hI hok hts
  obtain ⟨⟨h1,h2⟩,h3⟩:=hS hv.2
  obtain ⟨r,h4,h5⟩:=h3 w (xs.map a.eval) (by simpa using A8 RO _ _ hv.1)
  refine ⟨.tuple r,w,by simp [execOp,hop,resolve,Act.eval,Deferred.ofValue,invoke,←h4],_,_,hK,_,hI.quiet (Below.refl _ _) d hd (.tp us) _ (fun _=>none) (by simp) (by simp) (by simp) ?_ h2⟩
  simp only [AU]
  exact ⟨r,rfl,Hv us h1 _ h5⟩
def TL (P:Program) (t:TypeId) (n:Nat):Bool:=
 match P.underlying t with
 | some (.slice e)=>(match P.info? e with
  | some ie=>ie.size==n
  | none=>false)
 | _=>false
def TK (P:Program) (t:TypeId) (cs:List AW):Bool:=
 match P.built t [] with
 | some zs=>Kz cs zs.toList
 | none=>false
theorem W5 (hI:AT F0 w0 env a w G) (hd:d<a.tmps.size) {t:TypeId} {n:Nat} (hop:o.op=.buildSlice t 0 #[]) (hok:TL P t n=true) (h:(AE.lstz n).wp S env (some d) K):BG P F0 w0 a w o d K:=by
 simp only [AE.wp] at h
 obtain ⟨hno,hK⟩:=h
 unfold TL at hok
 split at hok
 ·rename_i e hu
  split at hok
  ·rename_i ie hie
   have hrun:(execOp a.eval o).run P w=.ok (.value (.slice (some ⟨w.heap.size,0,none⟩) 0 0)) (w.alloc (.cells #[] e)):=by
    simp [execOp,hop,Instr.buildSlice,run_underlying hu,sizeOf,typeInfo,hie,Instr.fill,newRow]
    rw [Array.range_zero']; simp
   have hb:Below w.heap.size w (w.alloc (.cells #[] e)):=(Below.refl _ _).alloc (Nat.le_refl _) _
   refine ⟨_,_,hrun,_,_,hK,hI.xnew hb hd hno (z:=some (w.heap.size,0*n)) (xs:=[]) ⟨by simp,.inr ⟨w.heap.size,0,_,e,by simp,heap_alloc_new w _,by simp,by simp [maxLen],by simp,by simp,by simp⟩⟩ (fun b lo hz=>?_) (fun F' _=>rfl) (by simp) (by simp) ⟨by simp,trivial⟩⟩
   simp only [Option.some.injEq,Prod.mk.injEq] at hz
   rw [←hz.1]; exact ⟨Nat.le_refl _,by simp⟩
  ·cases hok
 ·cases hok
theorem Wv (hI:AT F0 w0 env a w G) (hd:d<a.tmps.size) {t:TypeId} {cs:List AW} (hop:o.op=.build t #[]) (hok:TK P t cs=true) (h:(AE.bldz cs).wp S env (some d) K):BG P F0 w0 a w o d K:=by
 simp only [AE.wp] at h
 unfold TK at hok
 split at hok
 ·rename_i zs hz
  have hc:=fun F=>Jp (w:=w) (F:=F) hok
  refine ⟨.agg zs,w,by simp [execOp,hop,run_build w t #[] zs hz],_,_,h,_,hI.quiet (Below.refl _ _) d hd (.oag cs) _ (fun _=>none) (by simp) (by simp) (by simp) ?_ (hc fun _ _=>False).2.2⟩
  simp only [AU]
  refine ⟨zs,rfl,by have:=(hc fun _ _=>False).1; simpa using this,fun i c hi=>?_⟩
  obtain ⟨x,h1,h2⟩:=(hc _).2.1 i c hi
  refine ⟨x,by simpa using h1,?_⟩
  rw [BQ]
  exact h2
 ·cases hok
end
end Go.Sf
