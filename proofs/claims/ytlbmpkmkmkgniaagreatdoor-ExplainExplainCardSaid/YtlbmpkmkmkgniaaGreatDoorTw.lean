/- Lemmas. -/
import Derived.Shelf.SlIterI.Sorted
import Derived.Ground.GgzProg
import Derived.Test.YtlbmpkmkmkgniaaGreatDoorTryzShelf
import Derived.Test.YtlbmpkmkmkgniaaGreatDoorSfLib
set_option linter.all false
namespace Go.Sf
open Go.RowKit Go.Maps Go.Sort Go.Shelf Go.Proofs
set_option maxRecDepth 100000 in
set_option maxHeartbeats 2000000 in
theorem gr (n:Nat) (l b blk off cap:Nat) (zs:Ne) (w0:World) (J:Ne->World->Prop) (hbig:zs.length<=9223372036854775807)
  (hB:∀ s W,J s W->Below w0.heap.size w0 W) (hb:b<w0.heap.size) (hblk:blk<w0.heap.size)
  (hv:w0.cell? ⟨b,0,none⟩=some (.slice (some ⟨blk,off,none⟩) zs.length cap)) (hc:∀ j,j<zs.length->w0.cell? ⟨blk,off+j,none⟩=some (.int .i64 (zs.getD j 0)))
  (hY:∀ pre x W,J pre W->pre.length<zs.length->YieldAt Fence.wide n Go.Proofs.Tryz.prog l #[encZ x] W fun e W'=>e=.returned (.bool true)∧J (pre++[x]) W'∧KeepsWalks W W')
  (W:World) (h0:J [] W) :
  CallsIn Fence.wide (n+1) Go.Proofs.Tryz.prog 293 #[.func (.yield l) #[] #[],.pointer (some ⟨b,0,none⟩)] W fun e W'=>(∃ v,e=.returned v)∧J zs W':=by
 refine callsIn_of_wp Tryz.func293 rfl trivial ?_ rfl;simp only [Tryz.ntmps293,List.size_toArray,d6,List.length_nil,Nat.reduceAdd,Nat.reduceSub,Array.replicate_succ,Array.replicate_zero,List.push_toArray,List.append_toArray,List.nil_append,List.cons_append];have hv0:W.cell? ⟨b,0,none⟩=some (.slice (some ⟨blk,off,none⟩) zs.length cap):=((hB _ _ h0).cell (p:=⟨b,0,none⟩) hb).trans hv
 gi_wp2
 gi_loopw [7] (fun vi wr=>∃ i:Nat,vi=.int .i64 i∧i<=zs.length∧J (zs.take i) wr) (fun vi _=>zs.length - (Go.Proofs.intOf vi).toNat)
 case atStart=>exact ⟨0,rfl,Nat.zero_le _,h0⟩
 case round=>
  obtain ⟨i,rfl,hi,hJ⟩:=hrel;have hcw:i<zs.length->wr.cell? ⟨blk,off+i,none⟩=some (.int .i64 (zs.getD i 0)):=fun hlt=>((hB _ _ hJ).cell (p:=⟨blk,off+i,none⟩) hblk).trans (hc i hlt);by_cases hlt:i<zs.length
  ·obtain ⟨fn,tmps,assign,body,hy,hR⟩:=hY (zs.take i) zs[i] wr hJ (by simp only [d5]; omega);have hy:(Instr.yield l #[Value.int .i64 zs[i]]).run Go.Proofs.Tryz.prog wr=.ok (.round l fn tmps assign body) wr:=hy
   gi_wp2
   refine hR.mono ?_;rintro e W3 ⟨rfl,hJ3,hk3⟩
   gi_wp2
   go_roundw
   case rel=>exact ⟨i+1,by go_num,hlt,by rw [List.take_add_one,List.getElem?_eq_getElem hlt]; exact hJ3⟩
   case measure=>simp only [Go.Proofs.intOf]; omega
  ·gi_wp2
   go_end0
   refine ⟨⟨_,rfl⟩,?_⟩
   rwa [List.take_of_length_le (by omega)] at hJ
set_option maxRecDepth 100000 in
set_option maxHeartbeats 2000000 in
theorem gq (n:Nat) (l b cap:Nat) (a:Option Addr) (w0:World) (J:Ne->World->Prop)
  (hB:∀ s W,J s W->Below w0.heap.size w0 W) (hb:b<w0.heap.size) (hv:w0.cell? ⟨b,0,none⟩=some (.slice a 0 cap)) (W:World) (h0:J [] W) :
  CallsIn Fence.wide (n+1) Go.Proofs.Tryz.prog 293 #[.func (.yield l) #[] #[],.pointer (some ⟨b,0,none⟩)] W fun e W'=>(∃ v,e=.returned v)∧J [] W':=by
 refine callsIn_of_wp Tryz.func293 rfl trivial ?_ rfl;simp only [Tryz.ntmps293,List.size_toArray,d6,List.length_nil,Nat.reduceAdd,Nat.reduceSub,Array.replicate_succ,Array.replicate_zero,List.push_toArray,List.append_toArray,List.nil_append,List.cons_append];have hv0:W.cell? ⟨b,0,none⟩=some (.slice a 0 cap):=((hB _ _ h0).cell (p:=⟨b,0,none⟩) hb).trans hv
 gi_wp2
 refine wpIn_loop_rounds 1 ?_;rw [roundsIn_succ]
 gi_wp2
 go_end0
 exact ⟨⟨_,rfl⟩,h0⟩
def Ok (w0:World) (b:Nat) (zs:Ne):Prop:=
 b<w0.heap.size∧∃ a cap,w0.cell? ⟨b,0,none⟩=some (.slice a zs.length cap) ∧
  (zs≠[]->∃ blk off,a=some ⟨blk,off,none⟩∧blk<w0.heap.size∧∀ j,j<zs.length->w0.cell? ⟨blk,off+j,none⟩=some (.int .i64 (zs.getD j 0)))
theorem BQ (n:Nat) (l b:Nat) (zs:Ne) (w0:World) (J:Ne->World->Prop) (hbig:zs.length<=9223372036854775807)
  (hB:∀ s W,J s W->Below w0.heap.size w0 W) (hl:Ok w0 b zs)
  (hY:∀ pre x W,J pre W->pre.length<zs.length->YieldAt Fence.wide n Go.Proofs.Tryz.prog l #[encZ x] W fun e W'=>e=.returned (.bool true)∧J (pre++[x]) W'∧KeepsWalks W W')
  (W:World) (h0:J [] W) :
  CallsIn Fence.wide (n+1) Go.Proofs.Tryz.prog 293 #[.func (.yield l) #[] #[],.pointer (some ⟨b,0,none⟩)] W fun e W'=>(∃ v,e=.returned v)∧J zs W':=by
 obtain ⟨hb,a,cap,hv,h⟩:=hl;by_cases hz:zs=[]
 ·subst hz;exact gq n l b cap a w0 J hB hb hv W h0
 ·obtain ⟨blk,off,rfl,h1,h2⟩:=h hz;exact gr n l b blk off cap zs w0 J hbig hB hb h1 hv h2 hY W h0
set_option maxRecDepth 100000 in
set_option maxHeartbeats 4000000 in
theorem Yw (b:Nat) (zs:Ne) (hN:zs.length<=4096) (w:World) (hl:Ok w b zs) :
  CallsIn Fence.wide 3 Go.Proofs.Tryz.prog 309 #[.slice none 0 0,.func (.func 293) #[] #[.pointer (some ⟨b,0,none⟩)]] w fun e w'=>∃ v,e=.returned v ∧
   w'.ownsRow w.heap.size 3 1 v zs.length (zs.map encZ)∧(v=.slice none 0 0↔zs=[])∧Below w.heap.size w w':=by
 refine callsIn_of_wp_marks Tryz.func309 rfl trivial ?_ rfl;simp only [Tryz.ntmps309,List.size_toArray,d6,List.length_nil,Nat.reduceAdd,Nat.reduceSub,Array.replicate_succ,Array.replicate_zero,List.push_toArray,List.append_toArray,List.nil_append,List.cons_append]
 gi_wp2
 refine wpIn_rangeFunc ?_;intro fn hfn;simp only [Fence.wide_round];obtain ⟨W0,hW0⟩:∃ W0,w.alloc (.cells #[.slice none 0 0] 26)=W0:=⟨_,rfl⟩;have hs0:W0.heap.size=w.heap.size+1:=by rw [←hW0]; simp
 have hv0:W0.heap[w.heap.size]?=some (.cells #[.slice none 0 0] 26 (0,0)):=by rw [←hW0]; exact World.alloc_heap_new w _
 have hb0:Below w.heap.size w W0:=by rw [←hW0]; exact (Below.refl _ w).alloc (d3 _) _
 rw [hW0];obtain ⟨W1,hW1⟩:∃ W1,(W0.alloc (.deferred (some []))).alloc (.loop (AnyZI.apRec Tryz.sortedA_ren fn (.func (.func 293) #[] #[.pointer (some ⟨b,0,none⟩)]) w.heap.size W0.heap.size .ready none))=W1:=⟨_,rfl⟩;have hb1:Below w.heap.size w W1:=by rw [←hW1]; exact (hb0.alloc hb0.size _).alloc (by have:=hb0.size; simp; omega) _
 have hold:∀ k,k<W0.heap.size->W1.heap[k]?=W0.heap[k]?:=fun k hk=>by
  rw [←hW1]; exact (Below.heap_alloc _ _ k (by simp; omega)).trans (Below.heap_alloc _ _ k hk)
 have hM:AnyZI.ApAt Tryz.sortedA_ren w fn (.func (.func 293) #[] #[.pointer (some ⟨b,0,none⟩)]) w.heap.size (W0.heap.size+1) W0.heap.size [] W1:=
  ⟨⟨_,(hold w.heap.size (by omega)).trans hv0,⟨rfl,.inl ⟨rfl,rfl⟩⟩,by simp⟩,
  by rw [←hW1]; have:=World.alloc_heap_new (W0.alloc (.deferred (some []))) (.loop (AnyZI.apRec Tryz.sortedA_ren fn (.func (.func 293) #[] #[.pointer (some ⟨b,0,none⟩)]) w.heap.size W0.heap.size .ready none)); rwa [World.size_alloc] at this,
  by rw [←hW1]; exact (Below.heap_alloc _ _ _ (by simp)).trans (World.alloc_heap_new W0 _),hb1⟩
 refine ⟨W0.heap.size+1,[{ target:=.collected W0.heap.size,args:=#[] }],W1,{ target:=.fn (.func 293) #[.pointer (some ⟨b,0,none⟩)],args:=#[.func (.yield (W0.heap.size+1)) #[] #[]] },W1,293,
  #[.func (.yield (W0.heap.size+1)) #[] #[]]++#[.pointer (some ⟨b,0,none⟩)],W1,?_,?_,?_,?_,fun _=>by omega,?_⟩
 ·rw [←hW1]; exact run_enterLoop_outer _ _ _ _ _
 ·simp [resolve,go_sem]
 ·intro f' hf'; trivial
 ·simp [invoke,go_sem,enters_of Tryz.func293 (by kernel_rfl) rfl]
 ·refine (BQ 1 (W0.heap.size+1) b zs w (AnyZI.ApAt Tryz.sortedA_ren w fn (.func (.func 293) #[] #[.pointer (some ⟨b,0,none⟩)]) w.heap.size (W0.heap.size+1) W0.heap.size) (by omega) (fun s W h=>h.below) hl
   (fun pre x W hJ hlt=>AnyZI.apYield (P:=Go.Proofs.Tryz.prog) (ρ:=Tryz.sortedA_ren) { Tryz.sortedA with } Fence.wide 1 w fn hfn _ w.heap.size (W0.heap.size+1) W0.heap.size (by omega) (by omega) (by omega) (d3 _) (by omega) zs.length (by unfold maxLen; omega) (by omega) pre x W hJ hlt) W1 hM).mono ?_
  rintro e W2 ⟨⟨v0,rfl⟩,h2⟩;obtain ⟨v,hv,hrow,hnil⟩:=h2.box;have hend:=run_endLoop (P:=Go.Proofs.Tryz.prog) h2.L (by simp [AnyZI.apRec]);obtain ⟨W3,hW3⟩:∃ W3,W2.putObj (W0.heap.size+1) (.loop { AnyZI.apRec Tryz.sortedA_ren fn (.func (.func 293) #[] #[.pointer (some ⟨b,0,none⟩)]) w.heap.size W0.heap.size .ready none with state:=.exhausted })=W3:=⟨_,rfl⟩;rw [hW3] at hend;have hne:(26:Nat)≠3:=by decide
  have hg3:W2.grownBy W3 (some (W0.heap.size+1)):=by rw [←hW3]; exact grownBy_putObj_a _ _ _
  have hv3:W3.heap[w.heap.size]?=some (.cells #[v] 26 (0,0)):=by rw [←hW3]; exact (World.putObj_heap_other (by omega)).trans hv
  have hK3:W3.heap[W0.heap.size]?=some (.deferred (some [])):=by rw [←hW3]; exact (World.putObj_heap_other (by omega)).trans h2.K
  have hrow3:=hrow.kept hg3 (ownsRow_ne_a hrow h2.L (fun cur e=>by cases e));have hb3:Below w.heap.size w W3:=h2.below.grown hg3 h2.below.size (fun k e=>by cases e; omega);obtain ⟨hc3,hf3⟩:=cell_of_box_a hv3;clear hW3;refine ⟨none,W3,hend,?_⟩
  gi_wp2
  rw [←hs0];refine ⟨by simp,.inl ⟨_,_,rfl,run_takeDeferred hK3,?_⟩⟩;exact ⟨_,results_tmp rfl _ _ _,v,rfl,hrow3.kept (grownBy_putObj_a _ _ _) (ownsRow_ne_a hrow3 hK3 (fun cur e=>by cases e)),hnil,hb3.grown (grownBy_putObj_a _ _ _) hb3.size (fun k e=>by cases e; omega)⟩
set_option maxRecDepth 100000 in
set_option maxHeartbeats 2000000 in
theorem Xh (b:Nat) (zs:Ne) (hN:zs.length<=4096) (w:World) (hl:Ok w b zs) :
  CallsIn Fence.wide 4 Go.Proofs.Tryz.prog 292 #[.func (.func 293) #[] #[.pointer (some ⟨b,0,none⟩)]] w fun e w'=>∃ v,e=.returned v ∧
   w'.ownsRow w.heap.size 3 1 v zs.length (zs.map encZ)∧(v=.slice none 0 0↔zs=[])∧Below w.heap.size w w':=by
 have hf:Fence.wide.fn 309:=trivial;refine callsIn_of_wp Tryz.func292 rfl trivial ?_ rfl;simp only [Tryz.ntmps292,List.size_toArray,d6,List.length_nil,Nat.reduceAdd,Nat.reduceSub,Array.replicate_succ,Array.replicate_zero,List.push_toArray,List.append_toArray,List.nil_append,List.cons_append]
 gi_wp2_with (gi_at_call 309; refine (Yw b zs hN _ hl).mono ?_; rintro e w' ⟨v,rfl,hrow,hnil,hb⟩)
 go_ret
 exact ⟨v,rfl,hrow,hnil,hb⟩
set_option maxRecDepth 100000 in
set_option maxHeartbeats 2000000 in
theorem Zi (b:Nat) (zs:Ne) (hN:zs.length<=4096) (w:World) (hl:Ok w b zs) :
  CallsIn Fence.wide 5 Go.Proofs.Tryz.prog 246 #[.func (.func 293) #[] #[.pointer (some ⟨b,0,none⟩)]] w fun e w'=>∃ v,e=.returned v ∧
   w'.ownsRow w.heap.size 3 1 v zs.length ((zs.mergeSort fun x y=>decide (x<=y)).map encZ)∧(v=.slice none 0 0↔zs=[])∧Below w.heap.size w w':=by
 have hf:Fence.wide.fn 292:=trivial;have hf:Fence.wide.fn 125:=trivial;refine callsIn_of_wp Tryz.func246 rfl trivial ?_ rfl;simp only [Tryz.ntmps246,List.size_toArray,d6,List.length_nil,Nat.reduceAdd,Nat.reduceSub,Array.replicate_succ,Array.replicate_zero,List.push_toArray,List.append_toArray,List.nil_append,List.cons_append]
 gi_wp2_with (gi_at_call 292; refine (Xh b zs hN _ hl).mono ?_; rintro e W ⟨v,rfl,hrow,hnil,hb⟩)
 rcases hrow.2 with ⟨rfl,hz⟩ | ⟨gb,cap,cur,rfl,hbase,hgb,r1,r2,r3,r4⟩
 ·have hss:zs=[]:=List.eq_nil_of_length_eq_zero hz;subst hss
  gi_wp2_with (gi_at_call 125; refine (callsIn_wide.2 (Tryz.slices_Sort_int_none none 0 W)).mono ?_; rintro e w' ⟨rfl,rfl⟩)
  go_ret
  exact ⟨.slice none 0 0,rfl,by simpa using hrow,by simp,hb⟩
 ·have hH:Holds encZ W gb 0 zs.toArray:=holds_of_block_i hgb (by simpa using r4);have hgl:gb<W.heap.size:=(Array.getElem?_eq_some_iff.1 hgb).1;have cS:=callsIn_wide (n:=4).2 (Tryz.slices_Sort_int gb 0 cap zs W hH hgl (by omega))
  gi_wp2_with (gi_at_call 125; refine cS.mono ?_; rintro e w' ⟨rfl,nn,os,rfl⟩)
  go_ret
  exact ⟨_,rfl,ownsRow_sorted_i (by simp) hbase hgb r1 r2 r3,hnil,hb.grown (grownBy_sorted_i _) hb.size (fun j hj=>by cases hj; exact hbase)⟩
set_option maxRecDepth 100000 in
set_option maxHeartbeats 2000000 in
theorem fG (a:Option Addr) (n cap:Nat) (w:World) :
  CallsIn Fence.wide 5 Go.Proofs.Tryz.prog 247 #[.slice a n cap] w fun e w'=>e=.returned (.func (.func 293) #[] #[.pointer (some ⟨w.heap.size,0,none⟩)])∧w'=w.alloc (.cells #[.slice a n cap] 26):=by
 refine callsIn_of_wp Tryz.func247 rfl trivial ?_ rfl;simp only [Tryz.ntmps247,List.size_toArray,d6,List.length_nil,Nat.reduceAdd,Nat.reduceSub,Array.replicate_succ,Array.replicate_zero,List.push_toArray,List.append_toArray,List.nil_append,List.cons_append]
 gi_wp2
 go_ret
 exact ⟨rfl,rfl⟩
set_option maxRecDepth 100000 in
set_option maxHeartbeats 2000000 in
theorem dl (zs:Ne) (hN:zs.length<=4096) (a:Option Addr) (cap:Nat) (w:World)
  (hl:zs≠[]->∃ blk off,a=some ⟨blk,off,none⟩∧blk<w.heap.size∧∀ j,j<zs.length->w.cell? ⟨blk,off+j,none⟩=some (.int .i64 (zs.getD j 0))) :
  CallsIn Fence.wide 6 Go.Proofs.Tryz.prog 181 #[.slice a zs.length cap] w fun e w'=>e=.returned (.bool (decide ((Go.Lib.compact (zs.mergeSort fun x y=>decide (x<=y))).length<zs.length)))∧Below w.heap.size w w':=by
 have hf1:Fence.wide.fn 247:=trivial;have hf2:Fence.wide.fn 246:=trivial;have hf3:Fence.wide.fn 126:=trivial;have cB:=fG a zs.length cap w;have hb1:Below w.heap.size w (w.alloc (.cells #[.slice a zs.length cap] 26)):=(Below.refl _ w).alloc (d3 _) _;have hL:Ok (w.alloc (.cells #[.slice a zs.length cap] 26)) w.heap.size zs:=by
  refine ⟨by simp,a,cap,by simp,fun hz=>?_⟩;obtain ⟨blk,off,h1,h2,h3⟩:=hl hz;exact ⟨blk,off,h1,by simp; omega,fun j hj=>(hb1.cell (p:=⟨blk,off+j,none⟩) h2).trans (h3 j hj)⟩
 have cS:=Zi w.heap.size zs hN _ hL;obtain ⟨W1,hW1⟩:∃ W1,w.alloc (.cells #[.slice a zs.length cap] 26)=W1:=⟨_,rfl⟩;rw [hW1] at cB cS hb1;have hs1:W1.heap.size=w.heap.size+1:=by rw [←hW1]; simp
 clear hL;refine callsIn_of_wp Tryz.func181 rfl trivial ?_ rfl;simp only [Tryz.ntmps181,List.size_toArray,d6,List.length_nil,Nat.reduceAdd,Nat.reduceSub,Array.replicate_succ,Array.replicate_zero,List.push_toArray,List.append_toArray,List.nil_append,List.cons_append]
 gi_wp2_with (first
  | (gi_at_call 247; refine cB.mono ?_; rintro e w' ⟨rfl,rfl⟩)
  | (gi_at_call 246; refine cS.mono ?_; rintro e W2 ⟨v,rfl,hrow,hnil,hb⟩))
 rcases hrow.2 with ⟨rfl,hz⟩ | ⟨gb,cap',cur,rfl,hbase,hgb,r1,r2,r3,r4⟩
 ·have hss:zs=[]:=List.eq_nil_of_length_eq_zero hz;subst hss;refine (callsIn_wide.2 (Tryz.slices_Compact_int_empty none 0 W2)).mono ?_;rintro _ _ ⟨rfl,rfl⟩
  gi_wp2
  go_ret
  exact ⟨by simp [Go.Lib.compact,Go.Lib.compactUpTo],hb1.trans (hb.mono (by omega))⟩
 ·obtain ⟨ss,hss⟩:∃ ss,(zs.mergeSort fun x y=>decide (x<=y))=ss:=⟨_,rfl⟩;have hlen:ss.length=zs.length:=by rw [←hss]; exact List.length_mergeSort _
  rw [hss] at hrow r4;rw [←hlen] at r1 r4;have hH:Holds encZ W2 gb 0 ss.toArray:=holds_of_block_i hgb (by simpa using r4);have hle:=Go.Lib.compact_length_le ss;have cC:=callsIn_wide (n:=5).2 (Tryz.slices_Compact_int gb 0 cap' ss W2 hH (by omega) r1);rw [hlen] at cC;refine cC.mono ?_;rintro _ _ ⟨rfl,q,rfl⟩
  gi_wp2
  go_ret
  refine ⟨by rw [hss]; simp,?_⟩;refine hb1.trans ((hb.mono (by omega)).trans ?_);refine ⟨rfl,rfl,rfl,?_,fun k hk=>UB _ (by omega)⟩;rw [Ss];simp
theorem fg {w:World} {F:Nat->Nat->Prop} {t:TV} {vs:Array Value} (h:AS w F [t] vs.toList):∃ v,vs=#[v]∧A7 w F t v:=by
 simp only [AS] at h;obtain ⟨v,r,h1,h2,rfl⟩:=h;refine ⟨v,?_,h2⟩;rw [←Array.toArray_toList (xs:=vs),h1]
theorem X7 {w:World} {b o:Nat} {v:Value} (h:w.cell? ⟨b,o,none⟩=some v):b<w.heap.size:=by
 rcases Nat.lt_or_ge b w.heap.size with h1 | h1
 ·exact h1
 ·simp [World.cell?,Array.getElem?_eq_none h1] at h
theorem X0 (zs:Ne) (hN:zs.length<=4096):AU Go.Proofs.Tryz.prog 181 [.list 1 (zs.map (TV.int .i64))] (.sh (.bool (decide ((Go.Lib.compact (zs.mergeSort fun x y=>decide (x<=y))).length<zs.length)))):=by
 refine AU.of0 (fun hw=>⟨by kernel_rfl,fun F0 w vs hrep=>?_⟩) rfl;obtain ⟨v,rfl,h1⟩:=fg hrep;refine ⟨by simp only [CS.WF,TV.WF],?_⟩;have hrun:∃ a cap,v=.slice a zs.length cap∧(zs≠[]->∃ blk off,a=some ⟨blk,off,none⟩∧blk<w.heap.size∧∀ j,j<zs.length->w.cell? ⟨blk,off+j,none⟩=some (.int .i64 (zs.getD j 0))):=by
  rcases XA h1 with ⟨rfl,a0,cap,rfl⟩ | ⟨b,off,cap,rfl,h3,h4⟩
  ·exact ⟨a0,cap,rfl,fun h=>absurd rfl h⟩
  ·refine ⟨_,cap,rfl,fun hz=>⟨b,off,rfl,?_,h4⟩⟩;have hp:0<zs.length:=List.length_pos_iff.2 hz;exact X7 (h4 0 hp)
 obtain ⟨a,cap,rfl,hl⟩:=hrun;refine (callsIn_wide.1 (dl zs hN a cap w hl)).mono ?_;rintro _ w' ⟨rfl,hb⟩;exact ⟨_,rfl,hb,by simp [Ju,A7]⟩
end Go.Sf
