/- Lemmas. -/
import Derived.Test.YtpagkickoiafkaaGreatTryzShelf
import Derived.Test.YtpagkickoiafkaaGreatSfLib
import Derived.Deep.OwnRows
import Derived.Laws.CopyOwn
import Derived.Deep.RegionLaw
import Derived.Sort.AtCall
set_option linter.all false
open Option renaming some->Y,none->W
open List renaming size_toArray->v?,length_nil->w_,push_toArray->w!,append_toArray->w?,nil_append->x_,cons_append->x!,take_of_length_le->x?,eq_nil_of_length_eq_zero->y_,replicate->y!,getElem?_replicate->y?,eq_of_mem_replicate->z_,take_left->z!,length_replicate->z?,map_cons->A_,mem_map->A'
open Nat renaming reduceAdd->A!,reduceSub->A?,min->B_,min_le_left->B',zero_add->B!,min_le_right->B?
open Array renaming replicate_succ->C_,replicate_zero->C',getElem?_eq_some_iff->C!
namespace Go.Sf
open Go.RowKit Go.Maps Go.Sort Go.Shelf Go.Proofs
set_option maxRecDepth 100000 in
set_option maxHeartbeats 2000000 in
theorem tw(n:Nat)(l b blk off cap:Nat)(zs:Fp)(w0:World)(J:Fp->World->Prop)(hbig:zs.length<=9223372036854775807)
  (hB:∀s η,J s η->Below w0.heap.size w0 η)(hb:b<w0.heap.size)(hblk:blk<w0.heap.size)
  (hv:w0.cell? ⟨b,0,W⟩=Y (.slice (Y ⟨blk,off,W⟩) zs.length cap))(hc:∀j,j<zs.length->w0.cell? ⟨blk,off+j,W⟩=Y (.int .i64 (zs.getD j 0)))
  (hY:∀pre x η,J pre η->pre.length<zs.length->YieldAt Fence.wide n Go.Proofs.Tryz.prog l #[encZ x] η λe W'=>e=.returned (.bool true)/\J (pre++[x]) W'/\KeepsWalks η W')
  (η:World)(h0:J [] η):
  CallsIn Fence.wide (n+1) Go.Proofs.Tryz.prog 345 #[.func (.yield l) #[] #[],.pointer (Y ⟨b,0,W⟩)] η λe W'=>(∃v,e=.returned v)/\J zs W':=by
 refine callsIn_of_wp Tryz.func345 rfl trivial ?_ rfl;simp only[Tryz.ntmps345,v?,ae,w_,A!,A?,C_,C',w!,w?,x_,x!];have hv0:η.cell? ⟨b,0,W⟩=Y (.slice (Y ⟨blk,off,W⟩) zs.length cap):=((hB _ _ h0).cell (p:=⟨b,0,W⟩) hb).trans hv
 gi_wp2
 gi_loopw [7] (λvi wr=>∃i:Nat,vi=.int .i64 i/\i<=zs.length/\J (zs.take i) wr) (λvi _=>zs.length-(Go.Proofs.intOf vi).toNat)
 case atStart=>exact⟨0,rfl,Nat.zero_le _,h0⟩
 case round=>
  obtain ⟨i,rfl,hi,hJ⟩:=hrel;have hcw:i<zs.length->wr.cell? ⟨blk,off+i,W⟩=Y (.int .i64 (zs.getD i 0)):=λhlt=>((hB _ _ hJ).cell (p:=⟨blk,off+i,W⟩) hblk).trans (hc i hlt);by_cases hlt:i<zs.length
  .obtain⟨fn,tmps,assign,body,hy,hR⟩:=hY (zs.take i) zs[i] wr hJ (by simp only[a6];omega);have hy:(Instr.yield l #[Value.int .i64 zs[i]]).run Go.Proofs.Tryz.prog wr=.ok (.round l fn tmps assign body) wr:=hy
   gi_wp2
   refine hR.mono ?_;rintro e W3 ⟨rfl,hJ3,hk3⟩
   gi_wp2
   go_roundw
   case rel=>exact⟨i+1,by go_num,hlt,by rw[List.take_add_one,List.getElem?_eq_getElem hlt];exact hJ3⟩
   case measure=>simp only[Go.Proofs.intOf];omega
  .gi_wp2
   go_end0
   refine ⟨⟨_,rfl⟩,?_⟩
   rwa [x? U]at hJ
set_option maxRecDepth 100000 in
set_option maxHeartbeats 2000000 in
theorem tu(n:Nat)(l b cap:Nat)(a:Option Addr)(w0:World)(J:Fp->World->Prop)
  (hB:∀s η,J s η->Below w0.heap.size w0 η)(hb:b<w0.heap.size)(hv:w0.cell? ⟨b,0,W⟩=Y (.slice a 0 cap))(η:World)(h0:J [] η):
  CallsIn Fence.wide (n+1) Go.Proofs.Tryz.prog 345 #[.func (.yield l) #[] #[],.pointer (Y ⟨b,0,W⟩)] η λe W'=>(∃v,e=.returned v)/\J [] W':=by
 refine callsIn_of_wp Tryz.func345 rfl trivial ?_ rfl;simp only[Tryz.ntmps345,v?,ae,w_,A!,A?,C_,C',w!,w?,x_,x!];have hv0:η.cell? ⟨b,0,W⟩=Y (.slice a 0 cap):=((hB _ _ h0).cell (p:=⟨b,0,W⟩) hb).trans hv
 gi_wp2
 refine wpIn_loop_rounds 1 ?_;rw[roundsIn_succ]
 gi_wp2
 go_end0
 exact ⟨⟨_,rfl⟩,h0⟩
def Ue(w0:World)(b:Nat)(zs:Fp):Prop:=
 b<w0.heap.size/\∃a cap,w0.cell? ⟨b,0,W⟩=Y (.slice a zs.length cap)/\
  (zs≠[]->∃blk off,a=Y ⟨blk,off,W⟩/\blk<w0.heap.size/\∀j,j<zs.length->w0.cell? ⟨blk,off+j,W⟩=Y (.int .i64 (zs.getD j 0)))
theorem Cn(n:Nat)(l b:Nat)(zs:Fp)(w0:World)(J:Fp->World->Prop)(hbig:zs.length<=9223372036854775807)
  (hB:∀s η,J s η->Below w0.heap.size w0 η)(hl:Ue w0 b zs)
  (hY:∀pre x η,J pre η->pre.length<zs.length->YieldAt Fence.wide n Go.Proofs.Tryz.prog l #[encZ x] η λe W'=>e=.returned (.bool true)/\J (pre++[x]) W'/\KeepsWalks η W')
  (η:World)(h0:J [] η):
  CallsIn Fence.wide (n+1) Go.Proofs.Tryz.prog 345 #[.func (.yield l) #[] #[],.pointer (Y ⟨b,0,W⟩)] η λe W'=>(∃v,e=.returned v)/\J zs W':=by
 obtain ⟨hb,a,cap,hv,h⟩:=hl;by_cases hz:zs=[]
 .subst hz;exact tu n l b cap a w0 J hB hb hv η h0
 .obtain⟨blk,off,rfl,h1,h2⟩:=h hz;exact tw n l b blk off cap zs w0 J hbig hB hb h1 hv h2 hY η h0
set_option maxRecDepth 100000 in
set_option maxHeartbeats 4000000 in
theorem ic(b:Nat)(zs:Fp)(hN:zs.length<=4096)(w:World)(hl:Ue w b zs):
  CallsIn Fence.wide 3 Go.Proofs.Tryz.prog 360 #[.slice W 0 0,.func (.func 345) #[] #[.pointer (Y ⟨b,0,W⟩)]] w λe w'=>∃v,e=.returned v/\
   w'.ownsRow w.heap.size 3 1 v zs.length (zs.map encZ)/\(v=.slice W 0 0↔zs=[])/\Below w.heap.size w w':=by
 refine callsIn_of_wp_marks Tryz.func360 rfl trivial ?_ rfl;simp only[Tryz.ntmps360,v?,ae,w_,A!,A?,C_,C',w!,w?,x_,x!]
 gi_wp2
 refine wpIn_rangeFunc ?_;intro fn hfn;simp only[Fence.wide_round];obtain⟨W0,hW0⟩:∃W0,w.alloc (.cells #[.slice W 0 0] 35)=W0:=⟨_,rfl⟩;have hs0:W0.heap.size=w.heap.size+1:=by rw[<-hW0];simp
 have hv0:W0.heap[w.heap.size]?=Y (.cells #[.slice W 0 0] 35 (0,0)):=by rw[<-hW0];exact World.alloc_heap_new w _
 have hb0:Below w.heap.size w W0:=by rw[<-hW0];exact(Below.refl _ w).alloc (aN _) _
 rw [hW0];obtain⟨W1,hW1⟩:∃W1,(W0.alloc (.deferred (Y []))).alloc (.loop (AnyZI.apRec Tryz.sortedA_ren fn (.func (.func 345) #[] #[.pointer (Y ⟨b,0,W⟩)]) w.heap.size W0.heap.size .ready W))=W1:=⟨_,rfl⟩;have hb1:Below w.heap.size w W1:=by rw[<-hW1];exact(hb0.alloc hb0.size _).alloc (by have:=hb0.size;simp;omega) _
 have hold:∀k,k<W0.heap.size->W1.heap[k]?=W0.heap[k]?:=λk hk=>by
  rw [<-hW1];exact(Below.heap_alloc _ _ k an).trans (Below.heap_alloc _ _ k hk)
 have hM:AnyZI.ApAt Tryz.sortedA_ren w fn (.func (.func 345) #[] #[.pointer (Y ⟨b,0,W⟩)]) w.heap.size (W0.heap.size+1) W0.heap.size [] W1:=
  ⟨⟨_,(hold w.heap.size U).trans hv0,⟨rfl,.inl ⟨rfl,rfl⟩⟩,V⟩,
  by rw[<-hW1];have:=World.alloc_heap_new (W0.alloc (.deferred (Y []))) (.loop (AnyZI.apRec Tryz.sortedA_ren fn (.func (.func 345) #[] #[.pointer (Y ⟨b,0,W⟩)]) w.heap.size W0.heap.size .ready W));rwa[World.size_alloc]at this,
  by rw[<-hW1];exact(Below.heap_alloc _ _ _ V).trans (World.alloc_heap_new W0 _),hb1⟩
 refine ⟨W0.heap.size+1,[{target:=.collected W0.heap.size,args:=#[]}],W1,{target:=.fn (.func 345) #[.pointer (Y ⟨b,0,W⟩)],args:=#[.func (.yield (W0.heap.size+1)) #[] #[]]},W1,345,
  #[.func (.yield (W0.heap.size+1)) #[] #[]]++#[.pointer (Y ⟨b,0,W⟩)],W1,?_,?_,?_,?_,λ_=>U,?_⟩
 .rw[<-hW1];exact run_enterLoop_outer _ _ _ _ _
 .simp[resolve,go_sem]
 .intro f' hf';trivial
 .simp[invoke,go_sem,enters_of Tryz.func345 b_ rfl]
 .refine(Cn 1 (W0.heap.size+1) b zs w (AnyZI.ApAt Tryz.sortedA_ren w fn (.func (.func 345) #[] #[.pointer (Y ⟨b,0,W⟩)]) w.heap.size (W0.heap.size+1) W0.heap.size) U (λs η h=>h.below) hl
   (λpre x η hJ hlt=>AnyZI.apYield (P:=Go.Proofs.Tryz.prog) (ρ:=Tryz.sortedA_ren) {Tryz.sortedA with} Fence.wide 1 w fn hfn _ w.heap.size (W0.heap.size+1) W0.heap.size U U U (aN _) U zs.length (by unfold maxLen;omega) U pre x η hJ hlt) W1 hM).mono ?_
  rintro e W2 ⟨⟨v0,rfl⟩,h2⟩;obtain⟨v,hv,hrow,hnil⟩:=h2.box;have hend:=run_endLoop (P:=Go.Proofs.Tryz.prog) h2.L (by simp[AnyZI.apRec]);obtain⟨W3,hW3⟩:∃W3,W2.putObj (W0.heap.size+1) (.loop {AnyZI.apRec Tryz.sortedA_ren fn (.func (.func 345) #[] #[.pointer (Y ⟨b,0,W⟩)]) w.heap.size W0.heap.size .ready W with state:=.exhausted})=W3:=⟨_,rfl⟩;rw[hW3]at hend;have hne:(35:Nat)≠3:=a_
  have hg3:W2.grownBy W3 (Y (W0.heap.size+1)):=by rw[<-hW3];exact grownBy_putObj_a _ _ _
  have hv3:W3.heap[w.heap.size]?=Y (.cells #[v] 35 (0,0)):=by rw[<-hW3];exact(World.putObj_heap_other U).trans hv
  have hK3:W3.heap[W0.heap.size]?=Y (.deferred (Y [])):=by rw[<-hW3];exact(World.putObj_heap_other U).trans h2.K
  have hrow3:=hrow.kept hg3 (ownsRow_ne_a hrow h2.L (λcur e=>r!));have hb3:Below w.heap.size w W3:=h2.below.grown hg3 h2.below.size (λk e=>by cases e;omega);obtain⟨hc3,hf3⟩:=cell_of_box_a hv3;clear hW3;refine⟨W,W3,hend,?_⟩
  gi_wp2
  rw [<-hs0];refine⟨V,.inl ⟨_,_,rfl,run_takeDeferred hK3,?_⟩⟩;exact⟨_,results_tmp rfl _ _ _,v,rfl,hrow3.kept (grownBy_putObj_a _ _ _) (ownsRow_ne_a hrow3 hK3 (λcur e=>r!)),hnil,hb3.grown (grownBy_putObj_a _ _ _) hb3.size (λk e=>by cases e;omega)⟩
set_option maxRecDepth 100000 in
set_option maxHeartbeats 2000000 in
theorem eD(b:Nat)(zs:Fp)(hN:zs.length<=4096)(w:World)(hl:Ue w b zs):
  CallsIn Fence.wide 4 Go.Proofs.Tryz.prog 344 #[.func (.func 345) #[] #[.pointer (Y ⟨b,0,W⟩)]] w λe w'=>∃v,e=.returned v/\
   w'.ownsRow w.heap.size 3 1 v zs.length (zs.map encZ)/\(v=.slice W 0 0↔zs=[])/\Below w.heap.size w w':=by
 have hf:Fence.wide.fn 360:=trivial;refine callsIn_of_wp Tryz.func344 rfl trivial ?_ rfl;simp only[Tryz.ntmps344,v?,ae,w_,A!,A?,C_,C',w!,w?,x_,x!]
 gi_wp2_with (gi_at_call 360;refine(ic b zs hN _ hl).mono ?_;rintro e w' ⟨v,rfl,hrow,hnil,hb⟩)
 go_ret
 exact ⟨v,rfl,hrow,hnil,hb⟩
set_option maxRecDepth 100000 in
set_option maxHeartbeats 2000000 in
theorem jv(b:Nat)(zs:Fp)(hN:zs.length<=4096)(w:World)(hl:Ue w b zs):
  CallsIn Fence.wide 5 Go.Proofs.Tryz.prog 305 #[.func (.func 345) #[] #[.pointer (Y ⟨b,0,W⟩)]] w λe w'=>∃v,e=.returned v/\
   w'.ownsRow w.heap.size 3 1 v zs.length ((zs.mergeSort λx y=>decide (x<=y)).map encZ)/\(v=.slice W 0 0↔zs=[])/\Below w.heap.size w w':=by
 have hf:Fence.wide.fn 344:=trivial;have hf:Fence.wide.fn 339:=trivial;refine callsIn_of_wp Tryz.func305 rfl trivial ?_ rfl;simp only[Tryz.ntmps305,v?,ae,w_,A!,A?,C_,C',w!,w?,x_,x!]
 gi_wp2_with (gi_at_call 344;refine(eD b zs hN _ hl).mono ?_;rintro e η ⟨v,rfl,hrow,hnil,hb⟩)
 rcases hrow.2 with⟨rfl,hz⟩|⟨gb,cap,cur,rfl,hbase,hgb,r1,r2,r3,r4⟩
 .have hss:zs=[]:=y_ hz;subst hss
  gi_wp2_with (gi_at_call 339;refine(callsIn_wide.2 (Tryz.slices_Sort_int_none W 0 η)).mono ?_;rintro e w' ⟨rfl,rfl⟩)
  go_ret
  exact ⟨.slice W 0 0,rfl,by simpa using hrow,V,hb⟩
 .have hH:Holds encZ η gb 0 zs.toArray:=holds_of_block_i hgb (by simpa using r4);have hgl:gb<η.heap.size:=(C!.1 hgb).1;have cS:=callsIn_wide (n:=4).2 (Tryz.slices_Sort_int gb 0 cap zs η hH hgl U)
  gi_wp2_with (gi_at_call 339;refine cS.mono ?_;rintro e w' ⟨rfl,nn,os,rfl⟩)
  go_ret
  exact ⟨_,rfl,ownsRow_sorted_i V hbase hgb r1 r2 r3,hnil,hb.grown (grownBy_sorted_i _) hb.size (λj hj=>by cases hj;exact hbase)⟩
set_option maxRecDepth 100000 in
set_option maxHeartbeats 2000000 in
theorem rk(a:Option Addr)(n cap:Nat)(w:World):
  CallsIn Fence.wide 5 Go.Proofs.Tryz.prog 306 #[.slice a n cap] w λe w'=>e=.returned (.func (.func 345) #[] #[.pointer (Y ⟨w.heap.size,0,W⟩)])/\w'=w.alloc (.cells #[.slice a n cap] 35):=by
 refine callsIn_of_wp Tryz.func306 rfl trivial ?_ rfl;simp only[Tryz.ntmps306,v?,ae,w_,A!,A?,C_,C',w!,w?,x_,x!]
 gi_wp2
 go_ret
 exact ⟨rfl,rfl⟩
set_option maxRecDepth 100000 in
set_option maxHeartbeats 2000000 in
theorem qX(zs:Fp)(hN:zs.length<=4096)(a:Option Addr)(cap:Nat)(w:World)
  (hl:zs≠[]->∃blk off,a=Y ⟨blk,off,W⟩/\blk<w.heap.size/\∀j,j<zs.length->w.cell? ⟨blk,off+j,W⟩=Y (.int .i64 (zs.getD j 0))):
  CallsIn Fence.wide 6 Go.Proofs.Tryz.prog 255 #[.slice a zs.length cap] w λe w'=>e=.returned (.bool (decide ((Go.Lib.compact (zs.mergeSort λx y=>decide (x<=y))).length<zs.length)))/\Below w.heap.size w w':=by
 have hf1:Fence.wide.fn 306:=trivial;have hf2:Fence.wide.fn 305:=trivial;have hf3:Fence.wide.fn 304:=trivial;have cB:=rk a zs.length cap w;have hb1:Below w.heap.size w (w.alloc (.cells #[.slice a zs.length cap] 35)):=(Below.refl _ w).alloc (aN _) _;have hL:Ue (w.alloc (.cells #[.slice a zs.length cap] 35)) w.heap.size zs:=by
  refine ⟨V,a,cap,V,λhz=>?_⟩;obtain⟨blk,off,h1,h2,h3⟩:=hl hz;exact⟨blk,off,h1,an,λj hj=>(hb1.cell (p:=⟨blk,off+j,W⟩) h2).trans (h3 j hj)⟩
 have cS:=jv w.heap.size zs hN _ hL;obtain⟨W1,hW1⟩:∃W1,w.alloc (.cells #[.slice a zs.length cap] 35)=W1:=⟨_,rfl⟩;rw[hW1]at cB cS hb1;have hs1:W1.heap.size=w.heap.size+1:=by rw[<-hW1];simp
 clear hL;refine callsIn_of_wp Tryz.func255 rfl trivial ?_ rfl;simp only[Tryz.ntmps255,v?,ae,w_,A!,A?,C_,C',w!,w?,x_,x!]
 gi_wp2_with (first
  |(gi_at_call 306;refine cB.mono ?_;rintro e w' ⟨rfl,rfl⟩)
  |(gi_at_call 305;refine cS.mono ?_;rintro e W2 ⟨v,rfl,hrow,hnil,hb⟩))
 rcases hrow.2 with⟨rfl,hz⟩|⟨gb,cap',cur,rfl,hbase,hgb,r1,r2,r3,r4⟩
 .have hss:zs=[]:=y_ hz;subst hss;refine(callsIn_wide.2 (Tryz.slices_Compact_int_empty W 0 W2)).mono ?_;rintro _ _ ⟨rfl,rfl⟩
  gi_wp2
  go_ret
  exact ⟨by simp[Go.Lib.compact,Go.Lib.compactUpTo],hb1.trans (hb.mono U)⟩
 .obtain⟨ss,hss⟩:∃ss,(zs.mergeSort λx y=>decide (x<=y))=ss:=⟨_,rfl⟩;have hlen:ss.length=zs.length:=by rw[<-hss];exact List.length_mergeSort _
  rw [hss]at hrow r4;rw[<-hlen]at r1 r4;have hH:Holds encZ W2 gb 0 ss.toArray:=holds_of_block_i hgb (by simpa using r4);have hle:=Go.Lib.compact_length_le ss;have cC:=callsIn_wide (n:=5).2 (Tryz.slices_Compact_int gb 0 cap' ss W2 hH U r1);rw[hlen]at cC;refine cC.mono ?_;rintro _ _ ⟨rfl,q,rfl⟩
  gi_wp2
  go_ret
  refine ⟨by rw[hss];simp,?_⟩;refine hb1.trans ((hb.mono U).trans ?_);refine⟨rfl,rfl,rfl,?_,λk hk=>X4 _ U⟩;rw[WE];simp
theorem sU{w:World}{F:Nat->Nat->Prop}{t:TV}{vs:Array Value}(h:AT w F [t] vs.toList):∃v,vs=#[v]/\Ap w F t v:=by
 simp only[AT]at h;obtain⟨v,r,h1,h2,rfl⟩:=h;refine⟨v,?_,h2⟩;rw[<-Array.toArray_toList (xs:=vs),h1]
theorem fJ{w:World}{b o:Nat}{v:Value}(h:w.cell? ⟨b,o,W⟩=Y v):b<w.heap.size:=by
 rcases Nat.lt_or_ge b w.heap.size with h1|h1
 .exact h1
 .simp[World.cell?,Array.getElem?_eq_none h1]at h
theorem fA(zs:Fp)(hN:zs.length<=4096):AV Go.Proofs.Tryz.prog 255 [.list 1 (zs.map (TV.int .i64))] (.sh (.bool (decide ((Go.Lib.compact (zs.mergeSort λx y=>decide (x<=y))).length<zs.length)))):=by
 refine AV.of0 (λhw=>⟨b_,λF0 w vs hrep _=>?_⟩) rfl;obtain⟨v,rfl,h1⟩:=sU hrep;refine⟨by simp only[At.WF,TV.WF],?_⟩;have hrun:∃a cap,v=.slice a zs.length cap/\(zs≠[]->∃blk off,a=Y ⟨blk,off,W⟩/\blk<w.heap.size/\∀j,j<zs.length->w.cell? ⟨blk,off+j,W⟩=Y (.int .i64 (zs.getD j 0))):=by
  rcases Wp h1 with⟨rfl,a0,cap,rfl⟩|⟨b,off,cap,rfl,h3,h4⟩
  .exact⟨a0,cap,rfl,λh=>absurd rfl h⟩
  .refine⟨_,cap,rfl,λhz=>⟨b,off,rfl,?_,h4⟩⟩;have hp:0<zs.length:=List.length_pos_iff.2 hz;exact fJ (h4 0 hp)
 obtain ⟨a,cap,rfl,hl⟩:=hrun;refine(callsIn_wide.1 (qX zs hN a cap w hl)).mono ?_;rintro _ w' ⟨rfl,hb⟩;exact⟨_,rfl,hb,by simp[IJ,Ap]⟩
end Go.Sf
namespace Go.Sf
open Go.RowKit Go.Sort Go.Shelf Go.Proofs
def jm(n:Nat)(x:Int)(m:Nat)(cur:List Value):Prop:=cur.length=n/\cur.take m=y! m (.int .i64 x)
set_option maxRecDepth 100000 in
set_option maxHeartbeats 800000 in
theorem mV(x:Int)(n:Nat)(hn:n<=4096)(b off cap:Nat)(w:World)(hb:b<w.heap.size)(hc:w.cell? ⟨b,off,W⟩=Y (.int .i64 x)):
  Calls Tryz.prog 197 #[.slice (Y ⟨b,off,W⟩) 1 cap,.int .i64 (n:Int)] w λe w'=>e=.returned (.slice (Y ⟨w.heap.size,0,W⟩) n n)/\
   (∃cur:List Value,w'.heap[w.heap.size]?=Y (.cells cur.toArray 3 (0,0))/\jm n x n cur)/\Below w.heap.size w w':=by
 have hw1:IntKind.u64.wrap (n:Int)=n:=by
  have:=IntKind.wrap_u64 (n:Int);rw[this];omega
 have hM:∀η,Calls Tryz.prog 267 #[.int .u64 1,.int .u64 (n:Int)] η λe w'=>e=.returned (.tuple #[.int .u64 0,.int .u64 (n:Int)])/\w'=η:=λη=>by
  have:=Tryz.bits_Mul 1 n U U η;rw[show(1*n / 18446744073709551616:Nat)=0 by omega,show(1*n % 18446744073709551616:Nat)=n by omega]at this;exact this
 have hmk:∀η:World,(Instr.makeSlice 35 (.int .i64 (n:Int)) (.int .i64 (n:Int))).run Tryz.prog η=.ok (.slice (Y ⟨η.heap.size,0,W⟩) n n) (η.alloc (.cells (madeCells #[.int .i64 0] n) 3)):=
  λη=>run_make_row' 35 3 (.int .i64 0) 8 Tryz.underlying35 b_ rfl .i64 .i64 n U U η
 go_enter Tryz.func197,Tryz.ntmps197
 obtain ⟨Z,hZ⟩:∃Z:List Value,Z=(madeCells #[.int .i64 0] n).toList:=⟨_,rfl⟩;have hZl:Z.length=n:=by rw[hZ];simp[size_madeCells]
 have hZa:madeCells #[.int .i64 0] n=Z.toArray:=by rw[hZ]
 obtain ⟨C,hC⟩:∃C:List Value,C=y! (B_ 1 n) (.int .i64 x):=⟨_,rfl⟩;have hCl:C.length=B_ 1 n:=by rw[hC];simp
 have hCv:∀j v,C[j]?=Y v->j=0/\v=.int .i64 x:=λj v h=>by
  rw [hC,y?]at h;split at h
  next hj=>have:B_ 1 n<=1:=B' _ _;exact⟨U,(Option.some.inj h).symm⟩
  .cases h
 have hfit:0+C.length<=Z.length:=by rw[hCl,hZl,B!];exact B? _ _
 have hone:∀v∈C,v.oneCell'=true:=λv hv=>by
  rw [hC]at hv;rw[z_ hv];rfl
 have hw0:Below w.heap.size w (w.alloc (.cells Z.toArray 3)):=(Below.refl _ w).alloc (aN _) _;have hg0:(w.alloc (.cells Z.toArray 3)).heap[w.heap.size]?=Y (.cells Z.toArray 3 (0,0)):=World.alloc_heap_new w _;have hc0:(w.alloc (.cells Z.toArray 3)).cell? ⟨b,off,W⟩=Y (.int .i64 x):=(hw0.cell (p:=⟨b,off,W⟩) hb).trans hc;rw[hZa]at hmk;clear hZ hC hZa
 go_wp2_with (first
  |(go_at_call 267;refine(hM _).mono ?_;rintro e w' ⟨rfl,rfl⟩)
  |(refine wpList_copy_splice rfl (.tmp 31) (.tmp 32) 35 35 rfl 3 Tryz.underlying35 b_ _ _ _ _ _ _ rfl rfl _ 0 Z 3 hg0 C hCl (λh=>⟨rfl,_,rfl,λj v hj=>by obtain⟨rfl,rfl⟩:=hCv j v hj;exact hc0⟩) hfit hone _ _ hw0 (aN _) ?_;intro W1 HG hB1))
 go_loopw [8] (λvm wr=>∃(m:Nat)(cur:List Value),vm=.int .i64 m/\m<=n/\(0<n->0<m)/\Hid (wr.heap[w'.heap.size]?=Y (.cells cur.toArray 3 (0,0)))/\jm n x m cur/\Below w'.heap.size w' wr)
  (λvm _=>n-(Go.Proofs.intOf vm).toNat)
 case atStart=>
  refine ⟨C.length,splice Z 0 C,by rw[hCl],U,λh=>?_,HG,⟨?_,?_⟩,hB1⟩
  .rw[hCl];show 0<B_ 1 n;simp only[Nat.min_def];split<;>omega
  .rw[length_splice _ _ _ hfit,hZl]
  .simp only[splice,List.take_zero,x_,z!];refine List.eq_replicate_iff.2 ⟨rfl,λv hv=>?_⟩;obtain⟨j,hj⟩:=List.getElem?_of_mem hv;exact(hCv j v hj).2
 case round=>
  obtain ⟨m,cur,rfl,hm,hpos,HR,hrow,hbel⟩:=hrel;by_cases hlt:m<n
  .obtain⟨D,hD⟩:∃D:List Value,D=y! (B_ m (n-m)) (.int .i64 x):=⟨_,rfl⟩;have hDl:D.length=B_ m (n-m):=by rw[hD];simp
   have hDv:∀j v,D[j]?=Y v->j<m/\v=.int .i64 x:=λj v h=>by
    rw [hD,y?]at h;split at h
    next hj=>have:B_ m (n-m)<=m:=B' _ _;exact⟨U,(Option.some.inj h).symm⟩
    .cases h
   have hDone:∀v∈D,v.oneCell'=true:=λv hv=>by
    rw [hD]at hv;rw[z_ hv];rfl
   have hDfit:m+D.length<=cur.length:=by
    rw [hDl,hrow.1];have:B_ m (n-m)<=n-m:=B? _ _;omega
   have hsrc:∀η:World,η.heap[w'.heap.size]?=Y (.cells cur.toArray 3 (0,0))->∀j v,D[j]?=Y v->η.cell? ((⟨w'.heap.size,0,W⟩:Addr).add j)=Y v:=λη hW j v hj=>by
    obtain ⟨hjm,rfl⟩:=hDv j v hj;have h2:=congrArg (λl=>l[j]?) hrow.2;simp only[List.getElem?_take,QQ hjm,y?]at h2;simp only[Addr.add_lit,World.cell?,hW,B!];simpa using h2
   have hnm:¬n=m:=U
   have mixed:Tryz.prog.follows .mixedOrders=true:=b_
   have HSRC:Hid (∀η:World,η.heap[w'.heap.size]?=Y (.cells cur.toArray 3 (0,0))->∀j v,D[j]?=Y v->η.cell? ((⟨w'.heap.size,0,W⟩:Addr).add j)=Y v):=hsrc;have HDL:Hid (D.length=B_ m (n-m)):=hDl;have HDF:Hid (m+D.length<=cur.length):=hDfit;have HD1:Hid (∀v∈D,v.oneCell'=true):=hDone;have HBEL:Hid (Below w'.heap.size w' wr):=hbel;have HROW:Hid (jm n x m cur):=hrow;have HDE:Hid (D=y! (B_ m (n-m)) (.int .i64 x)):=hD;clear hM hmk hCv hone hfit hw0 hg0 hc0 hc hb hZl hCl HG hB1 hsrc hDl hDfit hDone hDv hD hrow hbel
   go_wp2
   go_region_law (refine step_copy_splice rfl (.tmp 41) (.tmp 44) 35 35 rfl 3 Tryz.underlying35 b_ (Y ⟨w'.heap.size,m,W⟩) (Y ⟨w'.heap.size,0,W⟩) (n-m) (n-m) m n (by simp[Act.eval,Act.put,hnm]) (by simp[Act.eval,Act.put]) w'.heap.size m cur 3 HR.out D HDL.out (λh=>⟨rfl,_,rfl,HSRC.out _ HR.out⟩) HDF.out HD1.out w'.heap.size w' (by first|exact HBEL.out|exact HBEL.out.drew) (aN _) ?_;intro W2 HG2 hB2)
   have hwr:IntKind.i64.wrap ((m:Int)+(D.length:Int))=(m:Int)+(D.length:Int):=by
    have:=HDL.out;have h2:B_ m (n-m)<=n-m:=B? _ _;rw[IntKind.wrap_i64];omega
   simp [Act.put,Oper.dst,hwr,execOp]
   go_roundw
   case rel=>
    refine ⟨_,_,_,_,_,_,_,_,_,_,_,_,_,_,⟨m+D.length,splice cur m D,by rw[Int.natCast_add],?_,λ_=>?_,HG2,⟨?_,?_⟩,hB2⟩,rfl⟩
    .have:=HDF.out;have h2:=HROW.out.1;omega
    .have:=hpos U;omega
    .rw[length_splice _ _ _ HDF.out,HROW.out.1]
    .have h1:=HROW.out.1;have h2:=HROW.out.2;have h3:=HDF.out;have h4:(cur.take m).length=m:=v_
     unfold splice;rw[List.take_append,h4,Nat.add_sub_cancel_left,x? U,z!,h2,HDE.out,z?,List.replicate_append_replicate]
   case measure=>
    have:=HDL.out;have h2:=hpos U;have h3:0<B_ m (n-m):=by show 0<min m (n-m);omega
    have h4:D.length<=n-m:=by rw[this];exact B? _ _
    show n-((m:Int)+(D.length:Int)).toNat<n-(m:Int).toNat
    omega
  .have hmn:m=n:=U
   subst hmn
   go_wp2
   go_ret
   exact ⟨rfl,⟨cur,HR.out,hrow⟩,hbel⟩
theorem dQ(w:World)(F:Nat->Nat->Prop)(x:Int):∀k:Nat,AT w F (((y! k x).map (TV.int .i64)).flatMap TV.cells) (y! k (Value.int .i64 x))
 |0=>by simp[AT]|k+1=>by
  have:=dQ w F x k;simp only[List.replicate_succ,A_,List.flatMap_cons,TV.cells,x!,x_,AT,Ap];exact⟨_,_,rfl,rfl,this⟩
theorem dR(x:Int)(n:Nat)(hn:n<=4096):AV Go.Proofs.Tryz.prog 197 [.list 1 ([x].map (TV.int .i64)),.int .i64 (n:Int)] (.own (.list 1 ((y! n x).map (TV.int .i64)))):=by
 refine AV.of0 (λhw=>⟨b_,λF0 w vs hrep _=>?_⟩) rfl;obtain⟨v,v',rfl,h1,h2⟩:=UN hrep;simp only[Ap]at h2;subst h2;have hx:(TV.int .i64 x).WF:=by
  have:=hw.1;simp only[A_,List.map_nil,TV.WF,TV.k7]at this;exact this.2.1
 refine ⟨?_,?_⟩
 .simp only[At.WF,TV.WF,az,z?];refine⟨by unfold J3;omega,?_⟩;rw[Bn];intro t ht;obtain⟨y,hy,rfl⟩:=A'.1 ht;rw[z_ hy];exact hx
 rcases Wp h1 with⟨h0,_⟩|⟨b,off,cap,rfl,h3,h4⟩
 .cases h0
 have hc:w.cell? ⟨b,off,W⟩=Y (.int .i64 x):=by simpa using h4 0 V
 refine (mV x n hn b off cap w (fJ hc) hc).mono ?_;rintro _ w' ⟨rfl,⟨cur,hg,hl,hr⟩,hb⟩;have hlt:w.heap.size<w'.heap.size:=(C!.1 hg).1;obtain⟨es,hes⟩:∃es,es=(y! n x).map (TV.int .i64):=⟨_,rfl⟩;have hel:es.length=n:=by rw[hes];simp
 have hall:∀t∈es,t=TV.int .i64 x:=λt ht=>by
  rw [hes]at ht;obtain⟨y,hy,rfl⟩:=A'.1 ht;rw[z_ hy]
 rw [<-hes];have hrow:AT w' (λb o=>(λb o=>b<w.heap.size/\F0 b o) b o\/∃lo,Y (w.heap.size,es.length*1)=Y (b,lo)/\lo<=o) (es.flatMap TV.cells) (cur.take n):=by
  rw [hr,hes];exact dQ _ _ x n
 refine ⟨_,rfl,hb,Y (w.heap.size,es.length*1),⟨cur.take n,⟨an,.inr ⟨w.heap.size,_,_,3,by rw[hel],hg,U,by unfold maxLen;omega,an,by simp[hel],rfl⟩⟩,hrow,λe he=>by rw[hall e he];rfl,λv hv=>by rw[hr]at hv;rw[z_ hv];rfl⟩,?_⟩;intro b lo hbl;cases hbl;exact⟨aN _,hlt⟩
end Go.Sf
