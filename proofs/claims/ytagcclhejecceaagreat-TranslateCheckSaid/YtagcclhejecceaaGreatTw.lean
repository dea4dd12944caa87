/- Lemmas. -/
import Derived.Shelf.SlIterI.Sorted
import Derived.Ground.GgzProg
import Derived.Test.YtagcclhejecceaaGreatTryzShelf
import Derived.Test.YtagcclhejecceaaGreatSfLib
import Derived.Deep.OwnRows
import Derived.Laws.CopyOwn
import Derived.Deep.RegionLaw
import Derived.Sort.AtCall
set_option linter.all false
namespace Go.Sf
open Go.RowKit Go.Maps Go.Sort Go.Shelf Go.Proofs
set_option maxRecDepth 100000 in
set_option maxHeartbeats 2000000 in
theorem nJ(n:Nat)(l b blk off cap:Nat)(zs:Fp)(w0:World)(J:Fp->World->Prop)(hbig:zs.length<=9223372036854775807)
  (hB:∀s W,J s W->Below w0.heap.size w0 W)(hb:b<w0.heap.size)(hblk:blk<w0.heap.size)
  (hv:w0.cell? ⟨b,0,none⟩=some (.slice (some ⟨blk,off,none⟩) zs.length cap))(hc:∀j,j<zs.length->w0.cell? ⟨blk,off+j,none⟩=some (.int .i64 (zs.getD j 0)))
  (hY:∀pre x W,J pre W->pre.length<zs.length->YieldAt Fence.wide n Go.Proofs.Tryz.prog l #[encZ x] W fun e W'=>e=.returned (.bool true)/\J (pre++[x]) W'/\KeepsWalks W W')
  (W:World)(h0:J [] W):
  CallsIn Fence.wide (n+1) Go.Proofs.Tryz.prog 346 #[.func (.yield l) #[] #[],.pointer (some ⟨b,0,none⟩)] W fun e W'=>(∃v,e=.returned v)/\J zs W':=by
 refine callsIn_of_wp Tryz.func346 rfl trivial ?_ rfl;simp only[Tryz.ntmps346,List.size_toArray,cE,List.length_nil,Nat.reduceAdd,Nat.reduceSub,Array.replicate_succ,Array.replicate_zero,List.push_toArray,List.append_toArray,List.nil_append,List.cons_append];have hv0:W.cell? ⟨b,0,none⟩=some (.slice (some ⟨blk,off,none⟩) zs.length cap):=((hB _ _ h0).cell (p:=⟨b,0,none⟩) hb).trans hv
 gi_wp2
 gi_loopw [7] (fun vi wr=>∃i:Nat,vi=.int .i64 i/\i<=zs.length/\J (zs.take i) wr) (fun vi _=>zs.length-(Go.Proofs.intOf vi).toNat)
 case atStart=>exact⟨0,rfl,Nat.zero_le _,h0⟩
 case round=>
  obtain ⟨i,rfl,hi,hJ⟩:=hrel;have hcw:i<zs.length->wr.cell? ⟨blk,off+i,none⟩=some (.int .i64 (zs.getD i 0)):=fun hlt=>((hB _ _ hJ).cell (p:=⟨blk,off+i,none⟩) hblk).trans (hc i hlt);by_cases hlt:i<zs.length
  .obtain⟨fn,tmps,assign,body,hy,hR⟩:=hY (zs.take i) zs[i] wr hJ (by simp only[bq];omega);have hy:(Instr.yield l #[Value.int .i64 zs[i]]).run Go.Proofs.Tryz.prog wr=.ok (.round l fn tmps assign body) wr:=hy
   gi_wp2
   refine hR.mono ?_;rintro e W3 ⟨rfl,hJ3,hk3⟩
   gi_wp2
   go_roundw
   case rel=>exact⟨i+1,by go_num,hlt,by rw[List.take_add_one,List.getElem?_eq_getElem hlt];exact hJ3⟩
   case measure=>simp only[Go.Proofs.intOf];omega
  .gi_wp2
   go_end0
   refine ⟨⟨_,rfl⟩,?_⟩
   rwa [List.take_of_length_le (by omega)]at hJ
set_option maxRecDepth 100000 in
set_option maxHeartbeats 2000000 in
theorem nI(n:Nat)(l b cap:Nat)(a:Option Addr)(w0:World)(J:Fp->World->Prop)
  (hB:∀s W,J s W->Below w0.heap.size w0 W)(hb:b<w0.heap.size)(hv:w0.cell? ⟨b,0,none⟩=some (.slice a 0 cap))(W:World)(h0:J [] W):
  CallsIn Fence.wide (n+1) Go.Proofs.Tryz.prog 346 #[.func (.yield l) #[] #[],.pointer (some ⟨b,0,none⟩)] W fun e W'=>(∃v,e=.returned v)/\J [] W':=by
 refine callsIn_of_wp Tryz.func346 rfl trivial ?_ rfl;simp only[Tryz.ntmps346,List.size_toArray,cE,List.length_nil,Nat.reduceAdd,Nat.reduceSub,Array.replicate_succ,Array.replicate_zero,List.push_toArray,List.append_toArray,List.nil_append,List.cons_append];have hv0:W.cell? ⟨b,0,none⟩=some (.slice a 0 cap):=((hB _ _ h0).cell (p:=⟨b,0,none⟩) hb).trans hv
 gi_wp2
 refine wpIn_loop_rounds 1 ?_;rw[roundsIn_succ]
 gi_wp2
 go_end0
 exact ⟨⟨_,rfl⟩,h0⟩
def SH(w0:World)(b:Nat)(zs:Fp):Prop:=
 b<w0.heap.size/\∃a cap,w0.cell? ⟨b,0,none⟩=some (.slice a zs.length cap)/\
  (zs≠[]->∃blk off,a=some ⟨blk,off,none⟩/\blk<w0.heap.size/\∀j,j<zs.length->w0.cell? ⟨blk,off+j,none⟩=some (.int .i64 (zs.getD j 0)))
theorem Ch(n:Nat)(l b:Nat)(zs:Fp)(w0:World)(J:Fp->World->Prop)(hbig:zs.length<=9223372036854775807)
  (hB:∀s W,J s W->Below w0.heap.size w0 W)(hl:SH w0 b zs)
  (hY:∀pre x W,J pre W->pre.length<zs.length->YieldAt Fence.wide n Go.Proofs.Tryz.prog l #[encZ x] W fun e W'=>e=.returned (.bool true)/\J (pre++[x]) W'/\KeepsWalks W W')
  (W:World)(h0:J [] W):
  CallsIn Fence.wide (n+1) Go.Proofs.Tryz.prog 346 #[.func (.yield l) #[] #[],.pointer (some ⟨b,0,none⟩)] W fun e W'=>(∃v,e=.returned v)/\J zs W':=by
 obtain ⟨hb,a,cap,hv,h⟩:=hl;by_cases hz:zs=[]
 .subst hz;exact nI n l b cap a w0 J hB hb hv W h0
 .obtain⟨blk,off,rfl,h1,h2⟩:=h hz;exact nJ n l b blk off cap zs w0 J hbig hB hb h1 hv h2 hY W h0
set_option maxRecDepth 100000 in
set_option maxHeartbeats 4000000 in
theorem cf(b:Nat)(zs:Fp)(hN:zs.length<=4096)(w:World)(hl:SH w b zs):
  CallsIn Fence.wide 3 Go.Proofs.Tryz.prog 364 #[.slice none 0 0,.func (.func 346) #[] #[.pointer (some ⟨b,0,none⟩)]] w fun e w'=>∃v,e=.returned v/\
   w'.ownsRow w.heap.size 3 1 v zs.length (zs.map encZ)/\(v=.slice none 0 0↔zs=[])/\Below w.heap.size w w':=by
 refine callsIn_of_wp_marks Tryz.func364 rfl trivial ?_ rfl;simp only[Tryz.ntmps364,List.size_toArray,cE,List.length_nil,Nat.reduceAdd,Nat.reduceSub,Array.replicate_succ,Array.replicate_zero,List.push_toArray,List.append_toArray,List.nil_append,List.cons_append]
 gi_wp2
 refine wpIn_rangeFunc ?_;intro fn hfn;simp only[Fence.wide_round];obtain⟨W0,hW0⟩:∃W0,w.alloc (.cells #[.slice none 0 0] 26)=W0:=⟨_,rfl⟩;have hs0:W0.heap.size=w.heap.size+1:=by rw[<-hW0];simp
 have hv0:W0.heap[w.heap.size]?=some (.cells #[.slice none 0 0] 26 (0,0)):=by rw[<-hW0];exact World.alloc_heap_new w _
 have hb0:Below w.heap.size w W0:=by rw[<-hW0];exact(Below.refl _ w).alloc (az _) _
 rw [hW0];obtain⟨W1,hW1⟩:∃W1,(W0.alloc (.deferred (some []))).alloc (.loop (AnyZI.apRec Tryz.sortedA_ren fn (.func (.func 346) #[] #[.pointer (some ⟨b,0,none⟩)]) w.heap.size W0.heap.size .ready none))=W1:=⟨_,rfl⟩;have hb1:Below w.heap.size w W1:=by rw[<-hW1];exact(hb0.alloc hb0.size _).alloc (by have:=hb0.size;simp;omega) _
 have hold:∀k,k<W0.heap.size->W1.heap[k]?=W0.heap[k]?:=fun k hk=>by
  rw [<-hW1];exact(Below.heap_alloc _ _ k (by simp;omega)).trans (Below.heap_alloc _ _ k hk)
 have hM:AnyZI.ApAt Tryz.sortedA_ren w fn (.func (.func 346) #[] #[.pointer (some ⟨b,0,none⟩)]) w.heap.size (W0.heap.size+1) W0.heap.size [] W1:=
  ⟨⟨_,(hold w.heap.size (by omega)).trans hv0,⟨rfl,.inl ⟨rfl,rfl⟩⟩,by simp⟩,
  by rw[<-hW1];have:=World.alloc_heap_new (W0.alloc (.deferred (some []))) (.loop (AnyZI.apRec Tryz.sortedA_ren fn (.func (.func 346) #[] #[.pointer (some ⟨b,0,none⟩)]) w.heap.size W0.heap.size .ready none));rwa[World.size_alloc]at this,
  by rw[<-hW1];exact(Below.heap_alloc _ _ _ (by simp)).trans (World.alloc_heap_new W0 _),hb1⟩
 refine ⟨W0.heap.size+1,[{target:=.collected W0.heap.size,args:=#[]}],W1,{target:=.fn (.func 346) #[.pointer (some ⟨b,0,none⟩)],args:=#[.func (.yield (W0.heap.size+1)) #[] #[]]},W1,346,
  #[.func (.yield (W0.heap.size+1)) #[] #[]]++#[.pointer (some ⟨b,0,none⟩)],W1,?_,?_,?_,?_,fun _=>by omega,?_⟩
 .rw[<-hW1];exact run_enterLoop_outer _ _ _ _ _
 .simp[resolve,go_sem]
 .intro f' hf';trivial
 .simp[invoke,go_sem,enters_of Tryz.func346 (by kernel_rfl) rfl]
 .refine(Ch 1 (W0.heap.size+1) b zs w (AnyZI.ApAt Tryz.sortedA_ren w fn (.func (.func 346) #[] #[.pointer (some ⟨b,0,none⟩)]) w.heap.size (W0.heap.size+1) W0.heap.size) (by omega) (fun s W h=>h.below) hl
   (fun pre x W hJ hlt=>AnyZI.apYield (P:=Go.Proofs.Tryz.prog) (ρ:=Tryz.sortedA_ren) {Tryz.sortedA with} Fence.wide 1 w fn hfn _ w.heap.size (W0.heap.size+1) W0.heap.size (by omega) (by omega) (by omega) (az _) (by omega) zs.length (by unfold maxLen;omega) (by omega) pre x W hJ hlt) W1 hM).mono ?_
  rintro e W2 ⟨⟨v0,rfl⟩,h2⟩;obtain⟨v,hv,hrow,hnil⟩:=h2.box;have hend:=run_endLoop (P:=Go.Proofs.Tryz.prog) h2.L (by simp[AnyZI.apRec]);obtain⟨W3,hW3⟩:∃W3,W2.putObj (W0.heap.size+1) (.loop {AnyZI.apRec Tryz.sortedA_ren fn (.func (.func 346) #[] #[.pointer (some ⟨b,0,none⟩)]) w.heap.size W0.heap.size .ready none with state:=.exhausted})=W3:=⟨_,rfl⟩;rw[hW3]at hend;have hne:(26:Nat)≠3:=by decide
  have hg3:W2.grownBy W3 (some (W0.heap.size+1)):=by rw[<-hW3];exact grownBy_putObj_a _ _ _
  have hv3:W3.heap[w.heap.size]?=some (.cells #[v] 26 (0,0)):=by rw[<-hW3];exact(World.putObj_heap_other (by omega)).trans hv
  have hK3:W3.heap[W0.heap.size]?=some (.deferred (some [])):=by rw[<-hW3];exact(World.putObj_heap_other (by omega)).trans h2.K
  have hrow3:=hrow.kept hg3 (ownsRow_ne_a hrow h2.L (fun cur e=>by cases e));have hb3:Below w.heap.size w W3:=h2.below.grown hg3 h2.below.size (fun k e=>by cases e;omega);obtain⟨hc3,hf3⟩:=cell_of_box_a hv3;clear hW3;refine⟨none,W3,hend,?_⟩
  gi_wp2
  rw [<-hs0];refine⟨by simp,.inl ⟨_,_,rfl,run_takeDeferred hK3,?_⟩⟩;exact⟨_,results_tmp rfl _ _ _,v,rfl,hrow3.kept (grownBy_putObj_a _ _ _) (ownsRow_ne_a hrow3 hK3 (fun cur e=>by cases e)),hnil,hb3.grown (grownBy_putObj_a _ _ _) hb3.size (fun k e=>by cases e;omega)⟩
set_option maxRecDepth 100000 in
set_option maxHeartbeats 2000000 in
theorem aV(b:Nat)(zs:Fp)(hN:zs.length<=4096)(w:World)(hl:SH w b zs):
  CallsIn Fence.wide 4 Go.Proofs.Tryz.prog 345 #[.func (.func 346) #[] #[.pointer (some ⟨b,0,none⟩)]] w fun e w'=>∃v,e=.returned v/\
   w'.ownsRow w.heap.size 3 1 v zs.length (zs.map encZ)/\(v=.slice none 0 0↔zs=[])/\Below w.heap.size w w':=by
 have hf:Fence.wide.fn 364:=trivial;refine callsIn_of_wp Tryz.func345 rfl trivial ?_ rfl;simp only[Tryz.ntmps345,List.size_toArray,cE,List.length_nil,Nat.reduceAdd,Nat.reduceSub,Array.replicate_succ,Array.replicate_zero,List.push_toArray,List.append_toArray,List.nil_append,List.cons_append]
 gi_wp2_with (gi_at_call 364;refine(cf b zs hN _ hl).mono ?_;rintro e w' ⟨v,rfl,hrow,hnil,hb⟩)
 go_ret
 exact ⟨v,rfl,hrow,hnil,hb⟩
set_option maxRecDepth 100000 in
set_option maxHeartbeats 2000000 in
theorem dy(b:Nat)(zs:Fp)(hN:zs.length<=4096)(w:World)(hl:SH w b zs):
  CallsIn Fence.wide 5 Go.Proofs.Tryz.prog 298 #[.func (.func 346) #[] #[.pointer (some ⟨b,0,none⟩)]] w fun e w'=>∃v,e=.returned v/\
   w'.ownsRow w.heap.size 3 1 v zs.length ((zs.mergeSort fun x y=>decide (x<=y)).map encZ)/\(v=.slice none 0 0↔zs=[])/\Below w.heap.size w w':=by
 have hf:Fence.wide.fn 345:=trivial;have hf:Fence.wide.fn 127:=trivial;refine callsIn_of_wp Tryz.func298 rfl trivial ?_ rfl;simp only[Tryz.ntmps298,List.size_toArray,cE,List.length_nil,Nat.reduceAdd,Nat.reduceSub,Array.replicate_succ,Array.replicate_zero,List.push_toArray,List.append_toArray,List.nil_append,List.cons_append]
 gi_wp2_with (gi_at_call 345;refine(aV b zs hN _ hl).mono ?_;rintro e W ⟨v,rfl,hrow,hnil,hb⟩)
 rcases hrow.2 with⟨rfl,hz⟩|⟨gb,cap,cur,rfl,hbase,hgb,r1,r2,r3,r4⟩
 .have hss:zs=[]:=List.eq_nil_of_length_eq_zero hz;subst hss
  gi_wp2_with (gi_at_call 127;refine(callsIn_wide.2 (Tryz.slices_Sort_int_none none 0 W)).mono ?_;rintro e w' ⟨rfl,rfl⟩)
  go_ret
  exact ⟨.slice none 0 0,rfl,by simpa using hrow,by simp,hb⟩
 .have hH:Holds encZ W gb 0 zs.toArray:=holds_of_block_i hgb (by simpa using r4);have hgl:gb<W.heap.size:=(Array.getElem?_eq_some_iff.1 hgb).1;have cS:=callsIn_wide (n:=4).2 (Tryz.slices_Sort_int gb 0 cap zs W hH hgl (by omega))
  gi_wp2_with (gi_at_call 127;refine cS.mono ?_;rintro e w' ⟨rfl,nn,os,rfl⟩)
  go_ret
  exact ⟨_,rfl,ownsRow_sorted_i (by simp) hbase hgb r1 r2 r3,hnil,hb.grown (grownBy_sorted_i _) hb.size (fun j hj=>by cases hj;exact hbase)⟩
set_option maxRecDepth 100000 in
set_option maxHeartbeats 2000000 in
theorem ls(a:Option Addr)(n cap:Nat)(w:World):
  CallsIn Fence.wide 5 Go.Proofs.Tryz.prog 299 #[.slice a n cap] w fun e w'=>e=.returned (.func (.func 346) #[] #[.pointer (some ⟨w.heap.size,0,none⟩)])/\w'=w.alloc (.cells #[.slice a n cap] 26):=by
 refine callsIn_of_wp Tryz.func299 rfl trivial ?_ rfl;simp only[Tryz.ntmps299,List.size_toArray,cE,List.length_nil,Nat.reduceAdd,Nat.reduceSub,Array.replicate_succ,Array.replicate_zero,List.push_toArray,List.append_toArray,List.nil_append,List.cons_append]
 gi_wp2
 go_ret
 exact ⟨rfl,rfl⟩
set_option maxRecDepth 100000 in
set_option maxHeartbeats 2000000 in
theorem kT(zs:Fp)(hN:zs.length<=4096)(a:Option Addr)(cap:Nat)(w:World)
  (hl:zs≠[]->∃blk off,a=some ⟨blk,off,none⟩/\blk<w.heap.size/\∀j,j<zs.length->w.cell? ⟨blk,off+j,none⟩=some (.int .i64 (zs.getD j 0))):
  CallsIn Fence.wide 6 Go.Proofs.Tryz.prog 240 #[.slice a zs.length cap] w fun e w'=>e=.returned (.bool (decide ((Go.Lib.compact (zs.mergeSort fun x y=>decide (x<=y))).length<zs.length)))/\Below w.heap.size w w':=by
 have hf1:Fence.wide.fn 299:=trivial;have hf2:Fence.wide.fn 298:=trivial;have hf3:Fence.wide.fn 128:=trivial;have cB:=ls a zs.length cap w;have hb1:Below w.heap.size w (w.alloc (.cells #[.slice a zs.length cap] 26)):=(Below.refl _ w).alloc (az _) _;have hL:SH (w.alloc (.cells #[.slice a zs.length cap] 26)) w.heap.size zs:=by
  refine ⟨by simp,a,cap,by simp,fun hz=>?_⟩;obtain⟨blk,off,h1,h2,h3⟩:=hl hz;exact⟨blk,off,h1,by simp;omega,fun j hj=>(hb1.cell (p:=⟨blk,off+j,none⟩) h2).trans (h3 j hj)⟩
 have cS:=dy w.heap.size zs hN _ hL;obtain⟨W1,hW1⟩:∃W1,w.alloc (.cells #[.slice a zs.length cap] 26)=W1:=⟨_,rfl⟩;rw[hW1]at cB cS hb1;have hs1:W1.heap.size=w.heap.size+1:=by rw[<-hW1];simp
 clear hL;refine callsIn_of_wp Tryz.func240 rfl trivial ?_ rfl;simp only[Tryz.ntmps240,List.size_toArray,cE,List.length_nil,Nat.reduceAdd,Nat.reduceSub,Array.replicate_succ,Array.replicate_zero,List.push_toArray,List.append_toArray,List.nil_append,List.cons_append]
 gi_wp2_with (first
  |(gi_at_call 299;refine cB.mono ?_;rintro e w' ⟨rfl,rfl⟩)
  |(gi_at_call 298;refine cS.mono ?_;rintro e W2 ⟨v,rfl,hrow,hnil,hb⟩))
 rcases hrow.2 with⟨rfl,hz⟩|⟨gb,cap',cur,rfl,hbase,hgb,r1,r2,r3,r4⟩
 .have hss:zs=[]:=List.eq_nil_of_length_eq_zero hz;subst hss;refine(callsIn_wide.2 (Tryz.slices_Compact_int_empty none 0 W2)).mono ?_;rintro _ _ ⟨rfl,rfl⟩
  gi_wp2
  go_ret
  exact ⟨by simp[Go.Lib.compact,Go.Lib.compactUpTo],hb1.trans (hb.mono (by omega))⟩
 .obtain⟨ss,hss⟩:∃ss,(zs.mergeSort fun x y=>decide (x<=y))=ss:=⟨_,rfl⟩;have hlen:ss.length=zs.length:=by rw[<-hss];exact List.length_mergeSort _
  rw [hss]at hrow r4;rw[<-hlen]at r1 r4;have hH:Holds encZ W2 gb 0 ss.toArray:=holds_of_block_i hgb (by simpa using r4);have hle:=Go.Lib.compact_length_le ss;have cC:=callsIn_wide (n:=5).2 (Tryz.slices_Compact_int gb 0 cap' ss W2 hH (by omega) r1);rw[hlen]at cC;refine cC.mono ?_;rintro _ _ ⟨rfl,q,rfl⟩
  gi_wp2
  go_ret
  refine ⟨by rw[hss];simp,?_⟩;refine hb1.trans ((hb.mono (by omega)).trans ?_);refine⟨rfl,rfl,rfl,?_,fun k hk=>WQ _ (by omega)⟩;rw[Un];simp
theorem mM{w:World}{F:Nat->Nat->Prop}{t:TV}{vs:Array Value}(h:AQ w F [t] vs.toList):∃v,vs=#[v]/\Ah w F t v:=by
 simp only[AQ]at h;obtain⟨v,r,h1,h2,rfl⟩:=h;refine⟨v,?_,h2⟩;rw[<-Array.toArray_toList (xs:=vs),h1]
theorem bF{w:World}{b o:Nat}{v:Value}(h:w.cell? ⟨b,o,none⟩=some v):b<w.heap.size:=by
 rcases Nat.lt_or_ge b w.heap.size with h1|h1
 .exact h1
 .simp[World.cell?,Array.getElem?_eq_none h1]at h
theorem ax(zs:Fp)(hN:zs.length<=4096):AR Go.Proofs.Tryz.prog 240 [.list 1 (zs.map (TV.int .i64))] (.sh (.bool (decide ((Go.Lib.compact (zs.mergeSort fun x y=>decide (x<=y))).length<zs.length)))):=by
 refine AR.of0 (fun hw=>⟨by kernel_rfl,fun F0 w vs hrep _=>?_⟩) rfl;obtain⟨v,rfl,h1⟩:=mM hrep;refine⟨by simp only[Am.WF,TV.WF],?_⟩;have hrun:∃a cap,v=.slice a zs.length cap/\(zs≠[]->∃blk off,a=some ⟨blk,off,none⟩/\blk<w.heap.size/\∀j,j<zs.length->w.cell? ⟨blk,off+j,none⟩=some (.int .i64 (zs.getD j 0))):=by
  rcases VM h1 with⟨rfl,a0,cap,rfl⟩|⟨b,off,cap,rfl,h3,h4⟩
  .exact⟨a0,cap,rfl,fun h=>absurd rfl h⟩
  .refine⟨_,cap,rfl,fun hz=>⟨b,off,rfl,?_,h4⟩⟩;have hp:0<zs.length:=List.length_pos_iff.2 hz;exact bF (h4 0 hp)
 obtain ⟨a,cap,rfl,hl⟩:=hrun;refine(callsIn_wide.1 (kT zs hN a cap w hl)).mono ?_;rintro _ w' ⟨rfl,hb⟩;exact⟨_,rfl,hb,by simp[Ht,Ah]⟩
end Go.Sf
namespace Go.Sf
open Go.RowKit Go.Sort Go.Shelf Go.Proofs
def dr(n:Nat)(x:Int)(m:Nat)(cur:List Value):Prop:=cur.length=n/\cur.take m=List.replicate m (.int .i64 x)
set_option maxRecDepth 100000 in
set_option maxHeartbeats 800000 in
theorem fx(x:Int)(n:Nat)(hn:n<=4096)(b off cap:Nat)(w:World)(hb:b<w.heap.size)(hc:w.cell? ⟨b,off,none⟩=some (.int .i64 x)):
  Calls Tryz.prog 177 #[.slice (some ⟨b,off,none⟩) 1 cap,.int .i64 (n:Int)] w fun e w'=>e=.returned (.slice (some ⟨w.heap.size,0,none⟩) n n)/\
   (∃cur:List Value,w'.heap[w.heap.size]?=some (.cells cur.toArray 3 (0,0))/\dr n x n cur)/\Below w.heap.size w w':=by
 have hw1:IntKind.u64.wrap (n:Int)=n:=by
  have:=IntKind.wrap_u64 (n:Int);rw[this];omega
 have hM:∀W,Calls Tryz.prog 252 #[.int .u64 1,.int .u64 (n:Int)] W fun e w'=>e=.returned (.tuple #[.int .u64 0,.int .u64 (n:Int)])/\w'=W:=fun W=>by
  have:=Tryz.bits_Mul 1 n (by omega) (by omega) W;rw[show(1*n / 18446744073709551616:Nat)=0 by omega,show(1*n % 18446744073709551616:Nat)=n by omega]at this;exact this
 have hmk:∀W:World,(Instr.makeSlice 26 (.int .i64 (n:Int)) (.int .i64 (n:Int))).run Tryz.prog W=.ok (.slice (some ⟨W.heap.size,0,none⟩) n n) (W.alloc (.cells (madeCells #[.int .i64 0] n) 3)):=
  fun W=>run_make_row' 26 3 (.int .i64 0) 8 Tryz.underlying26 (by kernel_rfl) rfl .i64 .i64 n (by omega) (by omega) W
 go_enter Tryz.func177,Tryz.ntmps177
 obtain ⟨Z,hZ⟩:∃Z:List Value,Z=(madeCells #[.int .i64 0] n).toList:=⟨_,rfl⟩;have hZl:Z.length=n:=by rw[hZ];simp[size_madeCells]
 have hZa:madeCells #[.int .i64 0] n=Z.toArray:=by rw[hZ]
 obtain ⟨C,hC⟩:∃C:List Value,C=List.replicate (Nat.min 1 n) (.int .i64 x):=⟨_,rfl⟩;have hCl:C.length=Nat.min 1 n:=by rw[hC];simp
 have hCv:∀j v,C[j]?=some v->j=0/\v=.int .i64 x:=fun j v h=>by
  rw [hC,List.getElem?_replicate]at h;split at h
  .rename_i hj;have:Nat.min 1 n<=1:=Nat.min_le_left _ _;exact⟨by omega,(Option.some.inj h).symm⟩
  .cases h
 have hfit:0+C.length<=Z.length:=by rw[hCl,hZl,Nat.zero_add];exact Nat.min_le_right _ _
 have hone:∀v∈C,v.oneCell'=true:=fun v hv=>by
  rw [hC]at hv;rw[List.eq_of_mem_replicate hv];rfl
 have hw0:Below w.heap.size w (w.alloc (.cells Z.toArray 3)):=(Below.refl _ w).alloc (az _) _;have hg0:(w.alloc (.cells Z.toArray 3)).heap[w.heap.size]?=some (.cells Z.toArray 3 (0,0)):=World.alloc_heap_new w _;have hc0:(w.alloc (.cells Z.toArray 3)).cell? ⟨b,off,none⟩=some (.int .i64 x):=(hw0.cell (p:=⟨b,off,none⟩) hb).trans hc;rw[hZa]at hmk;clear hZ hC hZa
 go_wp2_with (first
  |(go_at_call 252;refine(hM _).mono ?_;rintro e w' ⟨rfl,rfl⟩)
  |(refine wpList_copy_splice rfl (.tmp 31) (.tmp 32) 26 26 rfl 3 Tryz.underlying26 (by kernel_rfl) _ _ _ _ _ _ rfl rfl _ 0 Z 3 hg0 C hCl (fun h=>⟨rfl,_,rfl,fun j v hj=>by obtain⟨rfl,rfl⟩:=hCv j v hj;exact hc0⟩) hfit hone _ _ hw0 (az _) ?_;intro W1 HG hB1))
 go_loopw [8] (fun vm wr=>∃(m:Nat)(cur:List Value),vm=.int .i64 m/\m<=n/\(0<n->0<m)/\Hid (wr.heap[w'.heap.size]?=some (.cells cur.toArray 3 (0,0)))/\dr n x m cur/\Below w'.heap.size w' wr)
  (fun vm _=>n-(Go.Proofs.intOf vm).toNat)
 case atStart=>
  refine ⟨C.length,splice Z 0 C,by rw[hCl],by omega,fun h=>?_,HG,⟨?_,?_⟩,hB1⟩
  .rw[hCl];show 0<Nat.min 1 n;simp only[Nat.min_def];split<;>omega
  .rw[length_splice _ _ _ hfit,hZl]
  .simp only[splice,List.take_zero,List.nil_append,List.take_left];refine List.eq_replicate_iff.2 ⟨rfl,fun v hv=>?_⟩;obtain⟨j,hj⟩:=List.getElem?_of_mem hv;exact(hCv j v hj).2
 case round=>
  obtain ⟨m,cur,rfl,hm,hpos,HR,hrow,hbel⟩:=hrel;by_cases hlt:m<n
  .obtain⟨D,hD⟩:∃D:List Value,D=List.replicate (Nat.min m (n-m)) (.int .i64 x):=⟨_,rfl⟩;have hDl:D.length=Nat.min m (n-m):=by rw[hD];simp
   have hDv:∀j v,D[j]?=some v->j<m/\v=.int .i64 x:=fun j v h=>by
    rw [hD,List.getElem?_replicate]at h;split at h
    .rename_i hj;have:Nat.min m (n-m)<=m:=Nat.min_le_left _ _;exact⟨by omega,(Option.some.inj h).symm⟩
    .cases h
   have hDone:∀v∈D,v.oneCell'=true:=fun v hv=>by
    rw [hD]at hv;rw[List.eq_of_mem_replicate hv];rfl
   have hDfit:m+D.length<=cur.length:=by
    rw [hDl,hrow.1];have:Nat.min m (n-m)<=n-m:=Nat.min_le_right _ _;omega
   have hsrc:∀W:World,W.heap[w'.heap.size]?=some (.cells cur.toArray 3 (0,0))->∀j v,D[j]?=some v->W.cell? ((⟨w'.heap.size,0,none⟩:Addr).add j)=some v:=fun W hW j v hj=>by
    obtain ⟨hjm,rfl⟩:=hDv j v hj;have h2:=congrArg (fun l=>l[j]?) hrow.2;simp only[List.getElem?_take,a6 hjm,List.getElem?_replicate]at h2;simp only[Addr.add_lit,World.cell?,hW,Nat.zero_add];simpa using h2
   have hnm:¬n=m:=by omega
   have mixed:Tryz.prog.follows .mixedOrders=true:=by kernel_rfl
   have HSRC:Hid (∀W:World,W.heap[w'.heap.size]?=some (.cells cur.toArray 3 (0,0))->∀j v,D[j]?=some v->W.cell? ((⟨w'.heap.size,0,none⟩:Addr).add j)=some v):=hsrc;have HDL:Hid (D.length=Nat.min m (n-m)):=hDl;have HDF:Hid (m+D.length<=cur.length):=hDfit;have HD1:Hid (∀v∈D,v.oneCell'=true):=hDone;have HBEL:Hid (Below w'.heap.size w' wr):=hbel;have HROW:Hid (dr n x m cur):=hrow;have HDE:Hid (D=List.replicate (Nat.min m (n-m)) (.int .i64 x)):=hD;clear hM hmk hCv hone hfit hw0 hg0 hc0 hc hb hZl hCl HG hB1 hsrc hDl hDfit hDone hDv hD hrow hbel
   go_wp2
   go_region_law (refine step_copy_splice rfl (.tmp 41) (.tmp 44) 26 26 rfl 3 Tryz.underlying26 (by kernel_rfl) (some ⟨w'.heap.size,m,none⟩) (some ⟨w'.heap.size,0,none⟩) (n-m) (n-m) m n (by simp[Act.eval,Act.put,hnm]) (by simp[Act.eval,Act.put]) w'.heap.size m cur 3 HR.out D HDL.out (fun h=>⟨rfl,_,rfl,HSRC.out _ HR.out⟩) HDF.out HD1.out w'.heap.size w' (by first|exact HBEL.out|exact HBEL.out.drew) (az _) ?_;intro W2 HG2 hB2)
   have hwr:IntKind.i64.wrap ((m:Int)+(D.length:Int))=(m:Int)+(D.length:Int):=by
    have:=HDL.out;have h2:Nat.min m (n-m)<=n-m:=Nat.min_le_right _ _;rw[IntKind.wrap_i64];omega
   simp [Act.put,Oper.dst,hwr,execOp]
   go_roundw
   case rel=>
    refine ⟨_,_,_,_,_,_,_,_,_,_,_,_,_,_,⟨m+D.length,splice cur m D,by rw[Int.natCast_add],?_,fun _=>?_,HG2,⟨?_,?_⟩,hB2⟩,rfl⟩
    .have:=HDF.out;have h2:=HROW.out.1;omega
    .have:=hpos (by omega);omega
    .rw[length_splice _ _ _ HDF.out,HROW.out.1]
    .have h1:=HROW.out.1;have h2:=HROW.out.2;have h3:=HDF.out;have h4:(cur.take m).length=m:=by rw[bq];omega
     unfold splice;rw[List.take_append,h4,Nat.add_sub_cancel_left,List.take_of_length_le (by omega),List.take_left,h2,HDE.out,List.length_replicate,List.replicate_append_replicate]
   case measure=>
    have:=HDL.out;have h2:=hpos (by omega);have h3:0<Nat.min m (n-m):=by show 0<min m (n-m);omega
    have h4:D.length<=n-m:=by rw[this];exact Nat.min_le_right _ _
    show n-((m:Int)+(D.length:Int)).toNat<n-(m:Int).toNat
    omega
  .have hmn:m=n:=by omega
   subst hmn
   go_wp2
   go_ret
   exact ⟨rfl,⟨cur,HR.out,hrow⟩,hbel⟩
theorem Z3(w:World)(F:Nat->Nat->Prop)(x:Int):∀k:Nat,AQ w F (((List.replicate k x).map (TV.int .i64)).flatMap TV.cells) (List.replicate k (Value.int .i64 x))
 |0=>by simp[AQ]|k+1=>by
  have:=Z3 w F x k;simp only[List.replicate_succ,List.map_cons,List.flatMap_cons,TV.cells,List.cons_append,List.nil_append,AQ,Ah];exact⟨_,_,rfl,rfl,this⟩
theorem Z4(x:Int)(n:Nat)(hn:n<=4096):AR Go.Proofs.Tryz.prog 177 [.list 1 ([x].map (TV.int .i64)),.int .i64 (n:Int)] (.own (.list 1 ((List.replicate n x).map (TV.int .i64)))):=by
 refine AR.of0 (fun hw=>⟨by kernel_rfl,fun F0 w vs hrep _=>?_⟩) rfl;obtain⟨v,v',rfl,h1,h2⟩:=Rs hrep;simp only[Ah]at h2;subst h2;have hx:(TV.int .i64 x).WF:=by
  have:=hw.1;simp only[List.map_cons,List.map_nil,TV.WF,TV.tn]at this;exact this.2.1
 refine ⟨?_,?_⟩
 .simp only[Am.WF,TV.WF,c7,List.length_replicate];refine⟨by unfold Im;omega,?_⟩;rw[Bj];intro t ht;obtain⟨y,hy,rfl⟩:=List.mem_map.1 ht;rw[List.eq_of_mem_replicate hy];exact hx
 rcases VM h1 with⟨h0,_⟩|⟨b,off,cap,rfl,h3,h4⟩
 .cases h0
 have hc:w.cell? ⟨b,off,none⟩=some (.int .i64 x):=by simpa using h4 0 (by simp)
 refine (fx x n hn b off cap w (bF hc) hc).mono ?_;rintro _ w' ⟨rfl,⟨cur,hg,hl,hr⟩,hb⟩;have hlt:w.heap.size<w'.heap.size:=(Array.getElem?_eq_some_iff.1 hg).1;obtain⟨es,hes⟩:∃es,es=(List.replicate n x).map (TV.int .i64):=⟨_,rfl⟩;have hel:es.length=n:=by rw[hes];simp
 have hall:∀t∈es,t=TV.int .i64 x:=fun t ht=>by
  rw [hes]at ht;obtain⟨y,hy,rfl⟩:=List.mem_map.1 ht;rw[List.eq_of_mem_replicate hy]
 rw [<-hes];have hrow:AQ w' (fun b o=>(fun b o=>b<w.heap.size/\F0 b o) b o\/∃lo,some (w.heap.size,es.length*1)=some (b,lo)/\lo<=o) (es.flatMap TV.cells) (cur.take n):=by
  rw [hr,hes];exact Z3 _ _ x n
 refine ⟨_,rfl,hb,some (w.heap.size,es.length*1),⟨cur.take n,⟨by simp;omega,.inr ⟨w.heap.size,_,_,3,by rw[hel],hg,by omega,by unfold maxLen;omega,by simp;omega,by simp[hel],rfl⟩⟩,hrow,fun e he=>by rw[hall e he];rfl,fun v hv=>by rw[hr]at hv;rw[List.eq_of_mem_replicate hv];rfl⟩,?_⟩;intro b lo hbl;cases hbl;exact⟨az _,hlt⟩
end Go.Sf
