/- Zeros behind a list of one's own. -/
import Derived.Test.YtlbmpkmkmkgniaaGreatDoorSfY
import Derived.Lib.AppendZerosOnto
namespace Go.Sf
open Go.RowKit (Below)
theorem Jb {z z0:Value} (h:z.cells=#[z0]) (k:Nat):Builtin.zeroCells z.cells k=(List.replicate k z0).toArray:=by
 rw [h]
 apply Array.ext
 ·simp [Builtin.zeroCells]
 ·intro i h1 h2
  simp [Builtin.zeroCells,Nat.mod_one]
section
variable {P:Program} {w:World}
theorem OE (t tn ty e e':TypeId) (i:TypeInfo) (z z0:Value) (kq kn:IntKind) (ht:P.underlying t=some (.slice e)) (htn:P.underlying tn=some (.int kn)) (hi:P.info? e=some i) (hz:i.zero=some z) (hs:i.size=1) (hzc:z.cells=#[z0]) (h1:z0.oneCell'=true)
  (g sLen sCap:Nat) (cur:Array Value) (hg:w.heap[g]?=some (.cells cur e' (0,0)))
  (k:Nat) (h48:k*i.bytes<=281474976710656) (hk63:(k:Int)<=9223372036854775807) (hroom:sLen+k<=sCap) (hfit:sLen+k<=cur.size) :
  (Builtin.append_ #[t,tn] ty #[.slice (some ⟨g,0,none⟩) sLen sCap,.int kq k]).run P w =
   .ok (.slice (some ⟨g,0,none⟩) (sLen+k) sCap) (w.setRow g (cur.toList.take sLen++List.replicate k z0++cur.toList.drop (sLen+k)).toArray):=by
 have hw:IntKind.i64.wrap (k:Int)=k:=by rw [IntKind.wrap_i64]; omega
 have hneg:¬ ((k:Int)<0):=by omega
 have h48i:¬ (281474976710656<(k:Int)*(i.bytes:Int)):=by
  rw [←Int.natCast_mul]
  omega
 have hst:=run_storeCells_at P g sLen e' (List.replicate k z0) 0 cur w hg (by simpa using hfit) (fun u hu=>by rw [List.eq_of_mem_replicate hu]; exact h1)
 simp only [Nat.add_zero,List.length_replicate] at hst
 by_cases hk:k=0
 ·subst hk
  simp only [List.replicate_zero,Nat.add_zero] at hst
  have hw0:IntKind.i64.wrap 0=0:=by decide
  simp [Builtin.append_,run_underlying ht,run_underlying htn,sizeOf,typeInfo,hi,asInt,asIntOf,hw0,hs,show sLen<=sCap from by omega,Addr.add_lit,hst]
 ·simp [Builtin.append_,run_underlying ht,run_underlying htn,sizeOf,typeInfo,zeroValue,hi,hz,asInt,asIntOf,hw,hneg,h48i,hs,hk,hroom,Addr.add_lit,Jb hzc,hst]
theorem O7 (t tn ty e:TypeId) (i:TypeInfo) (kq kn:IntKind) (ht:P.underlying t=some (.slice e)) (htn:P.underlying tn=some (.int kn)) (hi:P.info? e=some i) :
  (Builtin.append_ #[t,tn] ty #[.slice none 0 0,.int kq 0]).run P w=.ok (.slice none 0 0) w:=by
 have hw:IntKind.i64.wrap 0=0:=by decide
 simp [Builtin.append_,run_underlying ht,run_underlying htn,sizeOf,typeInfo,hi,asInt,asIntOf,hw]
theorem Zn (t tn ty e:TypeId) (i:TypeInfo) (z z0:Value) (kq kn:IntKind) (ht:P.underlying t=some (.slice e)) (htn:P.underlying tn=some (.int kn)) (hi:P.info? e=some i) (hz:i.zero=some z)
  (hs:i.size=1) (hby:i.bytes<=4096) (hzc:z.cells=#[z0]) (h1:z0.oneCell'=true) (v:Value) (len:Nat) (xs:List Value) (zo:Option (Nat × Nat)) (hown:HF w 1 v len xs zo) (k:Nat) (hk:k<=4096) (hmax:len+k<=B9) :
  ∃ v' w' z',(Builtin.append_ #[t,tn] ty #[v,.int kq k]).run P w=.ok v' w'∧HF w' 1 v' (len+k) (xs++List.replicate k z0) z'∧Ig w w' zo z':=by
 have hlen:(xs++List.replicate k z0).length=(len+k)*1:=by rw [List.length_append,hown.1,List.length_replicate]; omega
 have hbytes:(len+k)*i.bytes<=140737488355328:=by
  calc (len+k)*i.bytes<=B9*4096:=Nat.mul_le_mul hmax hby
   _<=140737488355328:=by decide
 have hkb:k*i.bytes<=281474976710656:=by
  calc k*i.bytes<=4096*4096:=Nat.mul_le_mul hk hby
   _<=281474976710656:=by decide
 have hml:len+k<=maxLen:=by simp only [maxLen,B9] at *; omega
 have hzlt:∀ b lo,zo=some (b,lo)->b<w.heap.size:=by
  intro b lo hb
  rcases hown.2 with ⟨_,_,h⟩ | ⟨g,cap,cur,e',_,hg,_,_,_,_,h⟩
  ·rw [h] at hb; cases hb
  ·rw [h] at hb
   simp only [zzY,Prod.mk.injEq] at hb
   rw [←hb.1]; exact (Array.getElem?_eq_some_iff.1 hg).1
 have grown:∀ (old:Nat),old<len+k ->
   HF (w.drew.alloc (.cells (xs.toArray++Builtin.zeroCells z.cells k++Builtin.zeroCells z.cells (grownCap w (len+k) old e - (len+k))) e)) 1
    (.slice (some ⟨w.heap.size,0,none⟩) (len+k) (grownCap w (len+k) old e)) (len+k) (xs++List.replicate k z0) (some (w.heap.size,(len+k)*1)) ∧
   Ig w (w.drew.alloc (.cells (xs.toArray++Builtin.zeroCells z.cells k++Builtin.zeroCells z.cells (grownCap w (len+k) old e - (len+k))) e)) zo (some (w.heap.size,(len+k)*1)):=by
  intro old ho
  have hge:=grownCap_ge w (len+k) old e
  have hcm:grownCap w (len+k) old e<=maxLen:=grownCap_le_maxLen w (len+k) old e hml
  have hxl:xs.length=len:=by simpa using hown.1
  refine ⟨⟨hlen,.inr ⟨w.heap.size,_,_,e,rfl,heap_alloc_new w.drew _,hge,hcm,?_,?_,rfl⟩⟩,⟨rfl,rfl,rfl,by simp,fun k hk _=>Below.heap_alloc w.drew _ k hk,fun b o v hc _=>?_,fun b lo hb=>?_⟩⟩
  ·rw [Jb hzc,Jb hzc]
   simp only [Array.size_append,List.size_toArray,List.length_replicate,hxl]
   omega
  ·rw [Jb hzc,Jb hzc]
   simp only [Array.toList_append,List.append_assoc]
   rw [←List.append_assoc,←hlen]
   exact List.take_left
  ·have hb:b<w.heap.size:=World.block_lt_of_cell? w ⟨b,o,none⟩ hc
   rw [World.cell?_alloc_lt _ _ (a:=⟨b,o,none⟩) (by simpa using hb)]
   simpa using hc
  ·simp only [zzY,Prod.mk.injEq] at hb
   rw [←hb.1]
   exact ⟨by simp,.inl (Nat.le_refl _)⟩
 rcases hown.2 with ⟨rfl,rfl,rfl⟩ | ⟨g,cap,cur,e',rfl,hg,hnc,hcm,hcs,htake,rfl⟩
 ·have hx:xs=[]:=List.eq_nil_of_length_eq_zero (by simpa using hown.1)
  subst hx
  by_cases hk0:k=0
  ·subst hk0
   exact ⟨_,_,none,O7 t tn ty e i kq kn ht htn hi,⟨by simp,.inl ⟨rfl,rfl,rfl⟩⟩,Ig.refl w none (by simp)⟩
  ·have hr:=Lib.run_append_nil_zeros (P:=P) w t tn ty e i z kq kn ht htn hi hz k (by omega) (by omega) (by omega) hkb
   have hgr:=grown 0 (by omega)
   simp only [Nat.zero_add,List.nil_append,Array.empty_append] at hgr hr ⊢
   exact ⟨_,_,_,hr,hgr.1,hgr.2⟩
 ·have hxl:xs.length=len:=by simpa using hown.1
  simp only [Nat.mul_one] at hcs htake
  by_cases hroom:len+k<=cap
  ·have hr:=OE (P:=P) (w:=w) t tn ty e e' i z z0 kq kn ht htn hi hz hs hzc h1 g len cap cur hg k hkb (by omega) hroom (by omega)
   refine ⟨_,_,some (g,(len+k)*1),hr,⟨hlen,.inr ⟨g,cap,_,e',rfl,setRow_heap w g cur _ e' _ hg,hroom,hcm,?_,?_,rfl⟩⟩,⟨rfl,rfl,rfl,by simp,fun j _ hj=>setRow_other w g j _ (fun e=>hj (len*1) (by rw [e])),fun b o u hc hlo=>?_,fun b lo hb=>?_⟩⟩
   ·simp only [List.size_toArray,List.length_append,List.length_take,List.length_drop,Array.length_toList,List.length_replicate]
    omega
   ·rw [htake,←hlen]
    exact List.take_left
   ·by_cases hbg:b=g
    ·subst hbg
     have ho:=hlo (len*1) rfl
     rw [cell_of_row _ b o _ e' (0,0) (setRow_heap w b cur _ e' _ hg)]
     rw [cell_of_row w b o cur e' (0,0) hg] at hc
     rw [List.getElem?_toArray,List.append_assoc,List.getElem?_append_left (by simp; omega),List.getElem?_take_of_lt (by omega)]
     simpa using hc
    ·rw [World.cell?_of_block (w:=w) (a:=⟨b,o,none⟩) (setRow_other w g b _ (fun e=>hbg e))]
     exact hc
   ·simp only [zzY,Prod.mk.injEq] at hb
    obtain ⟨rfl,rfl⟩:=hb
    refine ⟨by simpa using hzlt g (len*1) rfl,.inr ⟨len*1,rfl,Nat.mul_le_mul_right _ (by omega)⟩⟩
  ·have holds:(Builtin.firstCells i.size len (.slice (some ⟨g,0,none⟩) len cap)).run P w.drew=.ok xs.toArray w.drew:=by
    refine run_firstCells_some (P:=P) w.drew i.size len ⟨g,0,none⟩ len cap xs (by rw [hs]; omega) (fun j u hu=>?_)
    rw [Addr.add_lit,Nat.zero_add]
    have:=hown.cell rfl j u hu
    simpa using this
   have hr:=Lib.run_append_grow_zeros (P:=P) w t tn ty e i z kq kn ht htn hi hz (some ⟨g,0,none⟩) len cap xs holds k (by omega) (by omega) (by omega) (by simp only [B9] at hmax; omega) hkb (growslice_fits (by omega) hbytes)
   have hgr:=grown cap (by omega)
   exact ⟨_,_,_,hr,hgr.1,hgr.2⟩
end
def Operand.isTmp2 (n:Nat):Operand->Bool
 | .tmp m=>m==n
 | _=>false
theorem Operand.isTmp_eq' {n:Nat} {x:Operand} (h:Operand.isTmp2 n x=true):x=.tmp n:=by
 cases x <;> simp [Operand.isTmp2] at h
 rw [h]
def X4 (P:Program) (n s:Nat) (z:TV) (x:AJ) (c:Call):Bool:=
 match c.callee,c.args.toList,c.argTypes.toList with
 | .builtin .append,[p,q],[t,t']=>Operand.isTmp2 s p&&AP q x&&(match P.underlying t,P.underlying t' with
  | some (.slice e),some (.int _)=>(match P.info? e with
   | some i=>(match i.zero with
    | some zz=>(match zz.cells.toList with
     | [z0]=>n==1&&i.size==1&&decide (i.bytes<=4096)&&E2 z z0&&z0.oneCell'
     | _=>false)
    | none=>false)
   | none=>false)
  | _,_=>false)
 | _,_,_=>false
section
variable {P:Program} {S:FuncId->List TV->CH->Prop} {F0:Nat->Nat->Prop} {w0:W0} {env:AC} {a:Act} {w:World} {G:DE} {d:Nat} {o:Oper} {K:EV->AC->Prop}
theorem Yb (hI:AT F0 w0 env a w G) (hd:d<a.tmps.size) {s:Nat} {x:Operand} {y:AJ} {t t' e:TypeId} {kn:IntKind} {i:TypeInfo} {zz z0:Value} {z:TV} (hop:o.op=.call { callee:=.builtin .append,args:=#[.tmp s,x],argTypes:=#[t,t'] })
  (ht:P.underlying t=some (.slice e)) (ht':P.underlying t'=some (.int kn)) (hi:P.info? e=some i) (hz:i.zero=some zz) (hs1:i.size=1) (hby:i.bytes<=4096) (hzc:zz.cells=#[z0]) (hoz:E2 z z0=true) (h1:z0.oneCell'=true)
  (hok:AP x y=true) (h:(AH.appz 1 s z y).wp S env (some d) K):BS P F0 w0 a w o d K:=by
 simp only [AH.wp] at h
 split at h
 ·rename_i d' m es kk j hdd hs hy
  simp only [zzY] at hdd
  subst hdd
  obtain ⟨⟨⟨rfl,_⟩,hzz⟩,⟨h0,h4⟩,⟨hmax,hno,hds⟩,hK⟩:=h
  obtain ⟨k,rfl⟩:∃ k:Nat,j=k:=⟨j.toNat,by omega⟩
  simp only [Int.toNat_natCast] at hmax hK
  have hown:=A4 hI hs (by simp)
  have hwf:=hI.wf s
  rw [hs] at hwf
  simp only [AS] at hown
  obtain ⟨xs,⟨zo,k1,hz0⟩,k2,k3,k4⟩:=hown
  have hv:=(BL hI hok hy).1
  simp only [A1] at hv
  obtain ⟨v',w',z',hrun,r1,r2⟩:=Zn (P:=P) t t' o.type e i zz z0 kk kn ht ht' hi hz hs1 hby hzc h1 (slot a s) es.length xs zo k1 k (by omega) hmax
  have hnz:∀ k,(∀ lo,G s none≠some (k,lo))->∀ lo,zo≠some (k,lo):=fun k hk lo hz=>hk 0 (by rw [hz0,hz]; rfl)
  have hfm:∀ k,(List.replicate k z).flatMap TV.cells=List.replicate k z:=by
   intro k
   induction k with
   | zero=>rfl
   | succ k ih=>rw [List.replicate_succ,List.flatMap_cons,ih,hzz]; rfl
  refine ⟨v',w',?_,_,_,hK,hI.xgo hs hd hds (z':=z'.map fun p=>(p.1,0)) r2.os r2.tape r2.output r2.size (fun k hk hz=>r2.other k hk (hnz k hz)) (fun b lo hz=>?_) (by simp) (fun _=>hno) (fun F' G' env' a' hag hG=>?_) ?_⟩
  ·simp [execOp,hop,resolve,invoke,builtin,show a.eval (.tmp s)=slot a s from rfl,hv,hrun]
  ·cases z' with
   | none=>simp at hz
   | some p=>
    simp only [Option.map_some,zzY,Prod.mk.injEq] at hz
    obtain ⟨q1,q2⟩:=r2.zone p.1 p.2 rfl
    rw [←hz.1]
    refine ⟨q1,?_⟩
    rcases q2 with q2 | ⟨lo',q2,_⟩
    ·exact .inl q2
    ·exact .inr ⟨0,by rw [hz0,q2]; rfl⟩
  ·simp only [AS]
   rw [hG]
   refine ⟨xs++List.replicate k z0,⟨z',by rw [List.length_append,List.length_replicate]; exact r1,rfl⟩,?_,?_,?_⟩
   ·rw [List.flatMap_append,hfm]
    refine JZ (BI hag _ _ k2) ?_
    rw [CD]
    refine ⟨by simp,fun i u v hu hv=>?_⟩
    rw [List.eq_of_mem_replicate (List.mem_of_getElem? hu),List.eq_of_mem_replicate (List.mem_of_getElem? hv)]
    exact (Ho _ F' z z0 hoz).1
   ·intro e he
    rcases List.mem_append.1 he with he | he
    ·exact k3 e he
    ·rw [List.eq_of_mem_replicate he,hzz]; rfl
   ·intro x hx
    rcases List.mem_append.1 hx with hx | hx
    ·exact k4 x hx
    ·rw [List.eq_of_mem_replicate hx]; exact h1
  ·simp only [EV.WF,TV.WF] at hwf ⊢
   refine ⟨by rw [List.length_append,List.length_replicate]; exact Rl hmax,KJ.2 ⟨hwf.2,?_⟩⟩
   rw [CJ]
   intro u hu
   rw [List.eq_of_mem_replicate hu]
   exact (Ho w (fun _ _=>False) z z0 hoz).2
 ·exact h.elim
theorem XK (hI:AT F0 w0 env a w G) (hd:d<a.tmps.size) {f:FuncId} {xs:Array Operand} {ys:List AJ} {ats:Array TypeId} (hop:o.op=.call { callee:=.value (.func f),args:=xs,argTypes:=ats }) (hok:C5 xs.toList ys=true) (h:(AH.callf f ys).wp (AR P) env (some d) K):BS P F0 w0 a w o d K:=by
 simp only [AH.wp] at h
 cases hts:vals env ys with
 | none=>rw [hts] at h; exact h.elim
 | some ts=>
  rw [hts] at h
  simp only [A6] at h
  obtain ⟨us,hS,hK⟩:=h
  have hv:=I9 hI hok hts
  obtain ⟨⟨h1,h2⟩,h3⟩:=hS hv.2
  obtain ⟨r,h4,h5⟩:=h3 w (xs.map a.eval) (by simpa using BI SP _ _ hv.1)
  refine ⟨.tuple r,w,by simp [execOp,hop,resolve,Act.eval,Deferred.ofValue,invoke,←h4],_,_,hK,_,hI.quiet (Below.refl _ _) d hd (.tp us) _ (fun _=>none) (by simp) (by simp) (by simp) ?_ h2⟩
  simp only [AS]
  exact ⟨r,rfl,I5 us h1 _ h5⟩
def UW (P:Program) (t:TypeId) (n:Nat):Bool:=
 match P.underlying t with
 | some (.slice e)=>(match P.info? e with
  | some ie=>ie.size==n
  | none=>false)
 | _=>false
theorem Yi (hI:AT F0 w0 env a w G) (hd:d<a.tmps.size) {t:TypeId} {n:Nat} (hop:o.op=.buildSlice t 0 #[]) (hok:UW P t n=true) (h:(AH.lstz n).wp S env (some d) K):BS P F0 w0 a w o d K:=by
 simp only [AH.wp] at h
 obtain ⟨hno,hK⟩:=h
 unfold UW at hok
 split at hok
 ·rename_i e hu
  split at hok
  ·rename_i ie hie
   have hrun:(execOp a.eval o).run P w=.ok (.value (.slice (some ⟨w.heap.size,0,none⟩) 0 0)) (w.alloc (.cells #[] e)):=by
    simp [execOp,hop,Instr.buildSlice,run_underlying hu,sizeOf,typeInfo,hie,Instr.fill,newRow]
    rw [Array.range_zero']; simp
   have hb:Below w.heap.size w (w.alloc (.cells #[] e)):=(Below.refl _ _).alloc (Nat.le_refl _) _
   refine ⟨_,_,hrun,_,_,hK,hI.xnew hb hd hno (z:=some (w.heap.size,0*n)) (xs:=[]) ⟨by simp,.inr ⟨w.heap.size,0,_,e,by simp,heap_alloc_new w _,by simp,by simp [maxLen],by simp,by simp,by simp⟩⟩ (fun b lo hz=>?_) (fun F' _=>rfl) (by simp) (by simp) ⟨by simp,trivial⟩⟩
   simp only [zzY,Prod.mk.injEq] at hz
   rw [←hz.1]; exact ⟨Nat.le_refl _,by simp⟩
  ·cases hok
 ·cases hok
theorem Jx (e0:AC):∀ (qs:List Nat) (env:AC) (n:Nat),AC.get (MZ e0 qs env) n=if n∈qs then (e0.get n).gave else env.get n
 | [],_,_=>by simp [MZ]
 | q::qs,env,n=>by
  rw [MZ,AC.get_cons,Jx e0 qs env n]
  by_cases h:q=n
  ·rw [if_pos h,if_pos (by rw [h]; exact List.mem_cons_self),h]
  ·have h':¬ n=q:=fun e=>h e.symm
   simp [h,h']
theorem LQ (e:EV):(∃ t,e=.ow t∧e.gave=.tv t)∨e.gave=.undef:=by
 cases e <;> first | exact .inl ⟨_,rfl,rfl⟩ | exact .inr rfl
abbrev Sy:=Value ⊕ (Operand × Nat × Nat)
def Pn:List Sy->Nat->List Sy->List Sy
 | l,_,[]=>l
 | l,i,y::ys=>Pn (l.set i y) (i+1) ys
def OI (place:Nat->Option (Nat × Nat)):List (Nat × Operand)->List Sy->Option (List Sy)
 | [],row=>some row
 | (i,x)::ps,row=>match place i with
  | some (off,n)=>if off+n<=row.length then OI place ps (Pn row off ((List.range n).map fun k=>.inr (x,k,n))) else none
  | none=>none
def Sy.is (a:Act):Sy->Value->Prop
 | .inl u,v=>v=u
 | .inr (x,k,_),v=>(a.eval x).cells[k]?=some v
def NU (a:Act) (row:List Sy) (xs:List Value):Prop:=xs.length=row.length∧∀ (j:Nat) (s:Sy) (v:Value),row[j]?=some s->xs[j]?=some v->s.is a v
theorem YQ {a:Act} {row:List Sy} {xs:List Value} (h:NU a row xs) {s:Sy} {v:Value} (hs:s.is a v) (i:Nat):NU a (row.set i s) (xs.set i v):=by
 refine ⟨by simp [h.1],fun j s' v' h1 h2=>?_⟩
 rw [List.getElem?_set] at h1 h2
 by_cases e:i=j
 ·rw [if_pos e] at h1 h2
  split at h1
  ·split at h2
   ·cases h1; cases h2; exact hs
   ·cases h2
  ·cases h1
 ·rw [if_neg e] at h1 h2
  exact h.2 j s' v' h1 h2
theorem TM {a:Act}:∀ {ss:List Sy} {vs:List Value} {row:List Sy} {xs:List Value} (i:Nat),NU a row xs->NU a ss vs->NU a (Pn row i ss) (Qk xs i vs)
 | [],[],_,_,_,h,_=>h
 | [],_::_,_,_,_,_,h=>by have:=h.1; simp at this
 | _::_,[],_,_,_,_,h=>by have:=h.1; simp at this
 | s::ss,v::vs,row,xs,i,h,hs=>by
  rw [Pn,Qk]
  exact TM (i+1) (YQ h (hs.2 0 s v rfl rfl) i) ⟨by have:=hs.1; simpa using this,fun j s' v' h1 h2=>hs.2 (j+1) s' v' (by simpa using h1) (by simpa using h2)⟩
theorem UB {a:Act} {place:Nat->Option (Nat × Nat)}:∀ {ps:List (Nat × Operand)} {row row':List Sy} {xs:Array Value},NU a row xs.toList->(∀ p∈ps,∀ off n,place p.1=some (off,n)->(a.eval p.2).cells.size=n)->OI place ps row=some row' ->
  ∃ xs',Instr.fill place xs (ps.map fun (i,x)=>(i,a.eval x))=some xs'∧NU a row' xs'.toList
 | [],row,row',xs,h,_,hf=>by
  simp only [OI,zzY] at hf
  subst hf
  exact ⟨xs,rfl,h⟩
 | (i,x)::ps,row,row',xs,h,hz,hf=>by
  rw [OI] at hf
  split at hf
  ·rename_i off n hp
   split at hf
   ·rename_i hle
    have hsz:=hz (i,x) (by simp) off n hp
    simp only at hsz
    have h5:=h.1
    rw [Array.length_toList] at h5
    have hr:NU a (Pn row off ((List.range n).map fun k=>.inr (x,k,n))) (((a.eval x).cells.zipIdx.foldl (fun cs (y:Value × Nat)=>cs.setIfInBounds (off+y.2) y.1) xs)).toList:=by
     rw [←Array.foldl_toList,Array.toList_zipIdx,Nc,Nat.add_zero]
     refine TM off h ⟨by simp [hsz],fun j s v h1 h2=>?_⟩
     rw [List.getElem?_map] at h1
     simp only [Option.map_eq_some_iff] at h1
     obtain ⟨k,hk,rfl⟩:=h1
     have hk2:k=j:=by
      rw [List.getElem?_range] at hk
      ·cases hk; rfl
      ·have:=(List.getElem?_eq_some_iff.1 hk).1; simpa using this
     subst hk2
     show (a.eval x).cells[k]?=some v
     rw [←Array.getElem?_toList]; exact h2
    obtain ⟨xs',h8,h9⟩:=UB hr (fun p hp=>hz p (by simp [hp])) hf
    refine ⟨xs',?_,h9⟩
    simp only [List.map_cons,Instr.fill,hp]
    rw [if_neg (by simp; omega)]
    exact h8
   ·cases hf
  ·cases hf
def OB:GC->Sy->Bool
 | .z c,.inl v=>Pc c v
 | .v y k n,.inr (x,k',n')=>AP x y&&k==k'&&n==n'
 | .w q,.inr (x,k',n')=>AP x (.s q)&&k'==0&&n'==1
 | .g q k n,.inr (x,k',n')=>AP x (.s q)&&k==k'&&n==n'
 | _,_=>false
def Oa:List GC->List Sy->Bool
 | [],[]=>true
 | g::gs,s::ss=>OB g s&&Oa gs ss
 | _,_=>false
def PZ (x:Operand) (n:Nat):GC->Bool
 | .z _=>false
 | .v y _ m=>AP x y&&m==n
 | .w q=>AP x (.s q)&&1==n
 | .g q _ m=>AP x (.s q)&&m==n
def Ok (place:Nat->Option (Nat × Nat)) (z:List Value) (ps:List (Nat × Operand)) (gs:List GC):Bool:=
 (ps.all fun p=>match place p.1 with
  | some (_,n)=>gs.any (PZ p.2 n)
  | none=>false) &&
 match OI place ps (z.map .inl) with
 | some row=>Oa gs row
 | none=>false
def UV (P:Program) (t:TypeId) (ps:List (Nat × Operand)) (gs:List GC):Bool:=
 match P.info? t,P.underlying t with
 | some it,some (.array _ e)=>
  match it.zero,P.info? e with
  | some z,some ie=>Ok (fun i=>some (i*ie.size,ie.size)) z.cells.toList ps gs
  | _,_=>false
 | some it,some (.struct fields)=>
  match it.zero,fields.toList.mapM (fun f=>(P.info? f.type).map fun i=>(f.offset,i.size)) with
  | some z,some places=>Ok (places.toArray[·]?) z.cells.toList ps gs
  | _,_=>false
 | _,_=>false
theorem PY:∀ {gs:List GC} {ss:List Sy},Oa gs ss=true->ss.length=gs.length∧∀ (j:Nat) (g:GC),gs[j]?=some g->∃ s,ss[j]?=some s∧OB g s=true
 | [],[],_=>⟨rfl,fun j g h=>by simp at h⟩
 | [],_::_,h=>by cases h
 | _::_,[],h=>by cases h
 | g::gs,s::ss,h=>by
  rw [Oa,zzZ] at h
  obtain ⟨h1,h2⟩:=PY h.2
  refine ⟨by simp [h1],fun j g' hj=>?_⟩
  cases j with
  | zero=>simp at hj; subst hj; exact ⟨s,rfl,h.1⟩
  | succ j=>simpa using h2 j g' (by simpa using hj)
theorem Rb:∀ {gs:List GC} {cs:List AU},IQ env gs=some cs->cs.length=gs.length∧∀ (j:Nat) (g:GC),gs[j]?=some g->∃ c,cs[j]?=some c∧g.cell env=some c
 | [],cs,h=>by simp only [IQ,zzY] at h; subst h; exact ⟨rfl,fun j g h=>by simp at h⟩
 | g::gs,cs,h=>by
  rw [IQ] at h
  split at h
  ·rename_i c cs' hc hcs
   cases h
   obtain ⟨h1,h2⟩:=Rb hcs
   refine ⟨by simp [h1],fun j g' hj=>?_⟩
   cases j with
   | zero=>simp at hj; subst hj; exact ⟨c,rfl,hc⟩
   | succ j=>simpa using h2 j g' (by simpa using hj)
  ·cases h
theorem OV {x:Operand} {q:Nat} (h:AP x (.s q)=true):a.eval x=slot a q:=by
 cases x <;> simp [AP] at h
 rw [h]; rfl
theorem ZG (hI:AT F0 w0 env a w G) {g:GC} {c:AU} (h:g.cell env=some c) {x:Operand} {n:Nat} (hx:PZ x n g=true):(a.eval x).cells.size=n:=by
 cases g with
 | z c=>cases hx
 | v y k m=>
  simp only [PZ,zzZ,beq_iff_eq] at hx
  obtain ⟨hx,rfl⟩:=hx
  simp only [GC.cell] at h
  split at h
  ·rename_i t ht
   split at h
   ·rename_i e1 e2
    have:=CC (IY (BL hI hx ht).1).1
    rw [Array.length_toList,Nat.eq_of_beq_eq_true e1] at this
    exact this
   ·cases h
  ·cases h
 | w q=>
  simp only [PZ,zzZ,beq_iff_eq] at hx
  obtain ⟨hx,rfl⟩:=hx
  rw [OV hx]
  have:(slot a q).oneCell'=true:=by
   simp only [GC.cell] at h
   split at h
   ·rename_i t e
    have:=A4 hI e (by simp)
    simp only [AS] at this
    exact P1 this
   ·rename_i m es e
    have:=A4 hI e (by simp)
    exact Kv (c:=⟨true,.xl m es⟩) this
   ·cases h
  rw [Nn this]; rfl
 | g q k m=>
  simp only [PZ,zzZ,beq_iff_eq] at hx
  obtain ⟨hx,rfl⟩:=hx
  rw [OV hx]
  simp only [GC.cell] at h
  split at h
  ·rename_i cs e
   split at h
   ·rename_i e1
    have:=A4 hI e (by simp)
    simp only [AS] at this
    obtain ⟨vs,e2,e3,_⟩:=this
    rw [e2]
    show vs.size=m
    rw [e3,Nat.eq_of_beq_eq_true e1]
   ·cases h
  ·cases h
theorem eH (hI:AT F0 w0 env a w G) {g:GC} {c:AU} (h:g.cell env=some c) {s:Sy} {v:Value} (hs:OB g s=true) (hv:s.is a v):CS w (AY w0.heap.size F0 G) (g.src.bind fun p=>G p.1 p.2) c v∧c.t.WF:=by
 cases g with
 | z c'=>
  cases s with
  | inr p=>cases hs
  | inl u=>
   simp only [GC.cell,zzY] at h
   subst h
   have:v=u:=hv
   subst this
   exact QF hs
 | v y k m=>
  cases s with
  | inl u=>cases hs
  | inr p=>
   obtain ⟨x,k',n'⟩:=p
   simp only [OB,zzZ,beq_iff_eq] at hs
   obtain ⟨⟨hx,rfl⟩,_⟩:=hs
   have hv:(a.eval x).cells[k]?=some v:=hv
   simp only [GC.cell] at h
   split at h
   ·rename_i t ht
    split at h
    ·rename_i c' e1 e2
     cases h
     obtain ⟨r1,r2⟩:=BL hI hx ht
     obtain ⟨r3,r4⟩:=IY r1
     rw [←Array.getElem?_toList] at hv
     exact ⟨⟨((CD _ _).1 r3).2 k _ _ e2 hv,r4 v (List.mem_of_getElem? hv)⟩,CJ.1 (JS r2) _ (List.mem_of_getElem? e2)⟩
    ·cases h
   ·cases h
 | w q=>
  cases s with
  | inl u=>cases hs
  | inr p=>
   obtain ⟨x,k',n'⟩:=p
   simp only [OB,zzZ,beq_iff_eq] at hs
   obtain ⟨⟨hx,rfl⟩,_⟩:=hs
   have hv:(a.eval x).cells[0]?=some v:=hv
   rw [OV hx] at hv
   have hwf:=hI.wf q
   simp only [GC.cell] at h
   split at h
   ·rename_i t e
    cases h
    have:=A4 hI e (by simp)
    simp only [AS] at this
    rw [Nn (P1 this)] at hv
    cases hv
    rw [e] at hwf
    exact ⟨this.c,hwf⟩
   ·rename_i m es e
    cases h
    have:=A4 hI e (by simp)
    have h2:CS w (AY w0.heap.size F0 G) (G q none) ⟨true,.xl m es⟩ (slot a q):=this
    rw [Nn (Kv h2)] at hv
    cases hv
    rw [e] at hwf
    exact ⟨h2,hwf⟩
   ·cases h
 | g q k m=>
  cases s with
  | inl u=>cases hs
  | inr p=>
   obtain ⟨x,k',n'⟩:=p
   simp only [OB,zzZ,beq_iff_eq] at hs
   obtain ⟨⟨hx,rfl⟩,_⟩:=hs
   have hv:(a.eval x).cells[k]?=some v:=hv
   rw [OV hx] at hv
   have hwf:=hI.wf q
   simp only [GC.cell] at h
   split at h
   ·rename_i cs e
    split at h
    ·have:=A4 hI e (by simp)
     simp only [AS] at this
     obtain ⟨vs,e2,_,e3⟩:=this
     rw [e2] at hv
     have hv:vs[k]?=some v:=hv
     obtain ⟨x',h1,h2⟩:=e3 k c h
     rw [hv] at h1
     cases h1
     rw [e] at hwf
     exact ⟨h2,hwf c (List.mem_of_getElem? h)⟩
    ·cases h
   ·cases h
theorem AT.regather (h:AT F0 w0 env a w G) (hd:d<a.tmps.size) {qs:List Nat} {cs:List AU} {vs:Array Value} (σ:Nat->Option (Nat × Option Nat)) (hdq:d ∉ qs) (hsz:vs.size=cs.length) (hσ:∀ j q i,σ j=some (q,i)->q∈qs)
  (hinj:∀ j j' p,σ j=some p->σ j'=some p->j=j') (hc:∀ (j:Nat) (c:AU),cs[j]?=some c->∃ x,vs[j]?=some x∧CS w (AY w0.heap.size F0 G) ((σ j).bind fun p=>G p.1 p.2) c x) (hwf:∀ c∈cs,c.t.WF) (hq:∀ q∈qs,q<a.tmps.size) :
  C2 F0 w0 ((d,.oag cs)::MZ env qs env) (a.put (some d) (.agg vs)) w:=by
 let G':DE:=fun p i=>if p=d then i.bind fun j=>(σ j).bind fun p=>G p.1 p.2 else if p∈qs then none else G p i
 have hG':∀ p i b lo,G' p i=some (b,lo)->(∃ j q k,p=d∧i=some j∧σ j=some (q,k)∧G q k=some (b,lo))∨(p≠d∧p ∉ qs∧G p i=some (b,lo)):=by
  intro p i b lo hp
  simp only [G'] at hp
  split at hp
  ·rename_i hpd
   cases i with
   | none=>cases hp
   | some j=>
    simp only [Option.bind_some] at hp
    cases hj:σ j with
    | none=>rw [hj] at hp; cases hp
    | some q=>rw [hj] at hp; exact .inl ⟨j,q.1,q.2,hpd,rfl,hj,hp⟩
  ·rename_i hpd
   split at hp
   ·cases hp
   ·rename_i hn; exact .inr ⟨hpd,hn,hp⟩
 have hF:∀ b o,AY w0.heap.size F0 G' b o->AY w0.heap.size F0 G b o:=fun b o hf=>AY.mono (fun p i b lo hp=>by
  rcases hG' _ _ _ _ hp with ⟨j,q,k,_,_,_,e⟩ | ⟨_,_,e⟩
  ·exact ⟨q,k,lo,e,Nat.le_refl _⟩
  ·exact ⟨p,i,lo,e,Nat.le_refl _⟩) hf
 have hag:DK w w (AY w0.heap.size F0 G) (AY w0.heap.size F0 G'):=fun b o v hc hf=>⟨hc,fun hf'=>hf (hF b o hf')⟩
 refine ⟨G',?_,?_,h.below,by rw [KA]; exact h.defers,?_,?_,?_⟩
 ·intro p i p' i' b lo lo' e1 e2
  rcases hG' _ _ _ _ e1 with ⟨j,q,k,rfl,rfl,f1,f2⟩ | ⟨n1,n2,f1⟩ <;> rcases hG' _ _ _ _ e2 with ⟨j',q',k',rfl,rfl,g1,g2⟩ | ⟨m1,m2,g1⟩
  ·obtain ⟨e3,e4⟩:=h.uniq _ _ _ _ _ _ _ f2 g2
   subst e3; subst e4
   exact ⟨rfl,by rw [hinj j j' _ f1 g1]⟩
  ·obtain ⟨e3,_⟩:=h.uniq _ _ _ _ _ _ _ f2 g1
   exact absurd (e3 ▸ hσ j q k f1) m2
  ·obtain ⟨e3,_⟩:=h.uniq _ _ _ _ _ _ _ g2 f1
   exact absurd (e3 ▸ hσ j' q' k' g1) n2
  ·exact h.uniq _ _ _ _ _ _ _ f1 g1
 ·intro p i b lo e1
  rcases hG' _ _ _ _ e1 with ⟨j,q,k,_,_,_,f⟩ | ⟨_,_,f⟩ <;> exact h.lt _ _ _ _ f
 ·intro p hp
  rw [E9] at hp
  rw [AC.get_cons,if_neg (by omega),Jx]
  split
  ·rename_i hm
   have:=hq p hm
   omega
  ·exact h.dom p hp
 ·intro p hp
  rw [E9] at hp
  rw [AC.get_cons]
  by_cases hpd:d=p
  ·subst hpd
   rw [if_pos rfl,Hf _ _ _ hd]
   simp only [AS]
   refine ⟨_,rfl,hsz,fun i c hci=>?_⟩
   obtain ⟨x,hx,hr⟩:=hc i c hci
   refine ⟨x,hx,?_⟩
   have:G' d (some i)=(σ i).bind fun p=>G p.1 p.2:=by simp only [G',if_true]; rfl
   rw [this]
   exact hr.kept hag (fun _ _ _=>rfl)
  ·rw [if_neg hpd,BD _ _ _ _ hpd,Jx]
   split
   ·rcases LQ (env.get p) with ⟨t,e,e2⟩ | e2
    ·have hown:=A4 h e (by simp)
     rw [e2]
     simp only [AS] at hown ⊢
     exact C1 hag _ _ (CQ.rep hown (fun b lo o hz ho=>NJ h b lo o hz ho))
    ·rw [e2]; simp only [AS]
   ·rename_i hnq
    refine AS.kept hag (fun i=>by simp only [G']; rw [if_neg (fun e=>hpd e.symm),if_neg hnq]) (fun _ _ _ _=>rfl) (fun r off _ ⟨cs',hcs⟩=>?_) (fun r i _ ⟨pp,hpp⟩=>?_) (h.slots p hp)
    ·rw [AC.get_cons] at hcs
     by_cases hdr:d=r
     ·rw [if_pos hdr] at hcs; cases hcs
     ·rw [if_neg hdr,Jx] at hcs
      split at hcs
      ·rcases LQ (env.get r) with ⟨t,_,e2⟩ | e2 <;> (rw [e2] at hcs; cases hcs)
      ·exact ⟨⟨cs',hcs⟩,BD _ _ _ _ hdr⟩
    ·have h1:=AC.xat_drop (by simp) (by simp) hpp
     have h3:=Jx env qs env r
     split at h3
     ·have h2:=h1.2
      rcases LQ (env.get r) with ⟨t,_,e2⟩ | e2 <;> rw [e2] at h3 <;> cases i <;> simp only [AC.xat,h3] at h2 <;> cases h2
     ·have hx:∃ p,env.xat r i=some p:=⟨pp,by rw [←h1.2]; exact (AC.xat_of h3).symm⟩
      exact ⟨hx,h.xv hx (BD _ _ _ _ h1.1) (fun _ _=>rfl)⟩
 ·intro p
  rw [AC.get_cons]
  split
  ·exact hwf
  ·rw [Jx]
   have:=h.wf p
   split
   ·rcases LQ (env.get p) with ⟨t,e,e2⟩ | e2
    ·rw [e] at this; rw [e2]; exact this
    ·rw [e2]; trivial
   ·exact this
theorem TW {α β:Type} {f:α->Option β} {l:List α} (hn:(l.filterMap f).Nodup) {i j:Nat} {p:β} (hi:(l[i]?).bind f=some p) (hj:(l[j]?).bind f=some p):i=j:=by
 have key:∀ (l:List α) (i j:Nat),(l.filterMap f).Nodup->(l[i]?).bind f=some p->(l[j]?).bind f=some p->i<j->False:=by
  intro l
  induction l with
  | nil=>intro i j _ h; simp at h
  | cons x l ih=>
   intro i j hn h1 h2 hij
   obtain ⟨j,rfl⟩:∃ k,j=k+1:=⟨j - 1,by omega⟩
   have h2':(l[j]?).bind f=some p:=by simpa using h2
   cases i with
   | zero=>
    have h1:f x=some p:=by simpa using h1
    rw [List.filterMap_cons,h1] at hn
    rw [List.nodup_cons] at hn
    refine hn.1 (List.mem_filterMap.2 ?_)
    rw [Option.bind_eq_some_iff] at h2'
    obtain ⟨y,hy,e⟩:=h2'
    exact ⟨y,List.mem_of_getElem? hy,e⟩
   | succ i=>
    refine ih i j ?_ (by simpa using h1) h2' (by omega)
    rw [List.filterMap_cons] at hn
    split at hn
    ·exact hn
    ·exact (List.nodup_cons.1 hn).2
 rcases Nat.lt_trichotomy i j with h | h | h
 ·exact (key l i j hn hi hj h).elim
 ·exact h
 ·exact (key l j i hn hj hi h).elim
theorem Yc (hI:AT F0 w0 env a w G) (hd:d<a.tmps.size) {t:TypeId} {ps:Array (Nat × Operand)} {gs:List GC} (hop:o.op=.build t ps) (hok:UV P t ps.toList gs=true) (h:(AH.bldg gs).wp S env (some d) K):BS P F0 w0 a w o d K:=by
 simp only [AH.wp] at h
 obtain ⟨⟨hn,hdq⟩,h⟩:=h
 cases hcs:IQ env gs with
 | none=>rw [hcs] at h; exact h.elim
 | some cs=>
  rw [hcs] at h
  simp only [A6] at h
  obtain ⟨hl,hget⟩:=Rb hcs
  have key:∀ (place:Nat->Option (Nat × Nat)) (z:Array Value),Ok place z.toList ps.toList gs=true->∃ xs',Instr.fill place z (ps.map fun (i,x)=>(i,a.eval x)).toList=some xs'∧xs'.size=cs.length ∧
    ∀ (j:Nat) (c:AU),cs[j]?=some c->(∃ x,xs'[j]?=some x∧CS w (AY w0.heap.size F0 G) (((gs[j]?).bind GC.src).bind fun p=>G p.1 p.2) c x)∧c.t.WF:=by
   intro place z hp
   unfold Ok at hp
   rw [zzZ,List.all_eq_true] at hp
   obtain ⟨hp1,hp2⟩:=hp
   split at hp2
   ·rename_i row hrow
    have h5:(ps.map fun (i,x)=>(i,a.eval x)).toList=ps.toList.map fun (i,x)=>(i,a.eval x):=by simp
    obtain ⟨xs',e1,e2⟩:=UB (a:=a) (xs:=z) (row:=z.toList.map .inl) ⟨by simp,fun j s v h1 h2=>by
     rw [List.getElem?_map] at h1
     simp only [Option.map_eq_some_iff] at h1
     obtain ⟨u,hu,rfl⟩:=h1
     rw [hu] at h2
     cases h2
     rfl⟩ (fun p hm off n hpl=>by
     have:=hp1 p hm
     rw [hpl] at this
     simp only [List.any_eq_true] at this
     obtain ⟨g,hg,hs⟩:=this
     obtain ⟨j,hj⟩:=List.getElem?_of_mem hg
     obtain ⟨c,_,hc⟩:=hget j g hj
     exact ZG hI hc hs) hrow
    obtain ⟨m1,m2⟩:=PY hp2
    have hlen:=e2.1
    rw [Array.length_toList] at hlen
    refine ⟨xs',by rw [h5]; exact e1,by omega,fun j c hc=>?_⟩
    have hj:j<gs.length:=by have:=(List.getElem?_eq_some_iff.1 hc).1; omega
    have hg:gs[j]?=some gs[j]:=List.getElem?_eq_getElem hj
    obtain ⟨c',hc1,hc2⟩:=hget j _ hg
    rw [hc] at hc1
    cases hc1
    obtain ⟨s,hs1,hs2⟩:=m2 j _ hg
    have hx:xs'[j]?=some (xs'[j]'(by omega)):=Array.getElem?_eq_getElem (by omega)
    obtain ⟨r1,r2⟩:=eH hI hc2 hs2 (e2.2 j s _ hs1 (by rw [Array.getElem?_toList]; exact hx))
    rw [hg]
    exact ⟨⟨_,hx,r1⟩,r2⟩
   ·cases hp2
  have built:∃ xs',P.built t (ps.map fun (i,x)=>(i,a.eval x)).toList=some xs'∧xs'.size=cs.length ∧
    ∀ (j:Nat) (c:AU),cs[j]?=some c->(∃ x,xs'[j]?=some x∧CS w (AY w0.heap.size F0 G) (((gs[j]?).bind GC.src).bind fun p=>G p.1 p.2) c x)∧c.t.WF:=by
   unfold UV at hok
   unfold Program.built
   split at hok
   ·rename_i it len e h1 h2
    simp only [h1,h2]
    split at hok
    ·rename_i z ie hz hie
     simp only [hz,hie]
     exact key _ _ hok
    ·cases hok
   ·rename_i it fields h1 h2
    simp only [h1,h2]
    split at hok
    ·rename_i z places hz hpl
     simp only [hz,hpl]
     exact key _ _ hok
    ·cases hok
   ·cases hok
  obtain ⟨xs',h1,h2,h3⟩:=built
  refine ⟨.agg xs',w,by simp [execOp,hop,run_build w t _ _ h1],_,_,h,hI.regather hd (fun j=>(gs[j]?).bind GC.src) hdq h2 (fun j q i e=>?_) (fun j j' p e1 e2=>TW hn e1 e2) (fun j c hc=>(h3 j c hc).1) (fun c hc=>?_) (fun q hq=>?_)⟩
  ·rw [Option.bind_eq_some_iff] at e
   obtain ⟨g,hg,e⟩:=e
   refine List.mem_filterMap.2 ⟨g,List.mem_of_getElem? hg,?_⟩
   cases g <;> simp [GC.src] at e <;> simp [GC.slot,e.1]
  ·obtain ⟨j,hj⟩:=List.getElem?_of_mem hc
   exact (h3 j c hj).2
  ·obtain ⟨g,hg,e⟩:=List.mem_filterMap.1 hq
   obtain ⟨j,hj⟩:=List.getElem?_of_mem hg
   obtain ⟨c,_,hc⟩:=hget j g hj
   cases g with
   | z c=>cases e
   | v y k n=>cases e
   | w q'=>
    cases e
    simp only [GC.cell] at hc
    split at hc
    ·rename_i t e; exact GA hI e (by simp)
    ·rename_i n es e; exact GA hI e (by simp)
    ·cases hc
   | g q' k n=>
    cases e
    simp only [GC.cell] at hc
    split at hc
    ·rename_i cs e; exact GA hI e (by simp)
    ·cases hc
end
end Go.Sf
