/- Lemmas. -/
import Derived.Test.YtlbmpkmkmkgniaaGreatDoorTw
import Derived.Deep.OwnRows
import Derived.Laws.CopyOwn
import Derived.Deep.RegionLaw
import Derived.Sort.AtCall
set_option linter.all false
namespace Go.Sf
open Go.RowKit Go.Sort Go.Shelf Go.Proofs
def ZZ (n:Nat) (x:Int) (m:Nat) (cur:List Value):Prop:=cur.length=n∧cur.take m=List.replicate m (.int .i64 x)
set_option maxRecDepth 100000 in
set_option maxHeartbeats 800000 in
theorem bE (x:Int) (n:Nat) (hn:n<=4096) (b off cap:Nat) (w:World) (hb:b<w.heap.size) (hc:w.cell? ⟨b,off,none⟩=some (.int .i64 x)) :
  Calls Tryz.prog 26 #[.slice (some ⟨b,off,none⟩) 1 cap,.int .i64 (n:Int)] w fun e w'=>e=.returned (.slice (some ⟨w.heap.size,0,none⟩) n n) ∧
   (∃ cur:List Value,w'.heap[w.heap.size]?=some (.cells cur.toArray 3 (0,0))∧ZZ n x n cur)∧Below w.heap.size w w':=by
 have hw1:IntKind.u64.wrap (n:Int)=n:=by
  have:=IntKind.wrap_u64 (n:Int);rw [this]; omega
 have hM:∀ W,Calls Tryz.prog 47 #[.int .u64 1,.int .u64 (n:Int)] W fun e w'=>e=.returned (.tuple #[.int .u64 0,.int .u64 (n:Int)])∧w'=W:=fun W=>by
  have:=Tryz.bits_Mul 1 n (by omega) (by omega) W;rw [show (1*n / 18446744073709551616:Nat)=0 by omega,show (1*n % 18446744073709551616:Nat)=n by omega] at this;exact this
 have hmk:∀ W:World,(Instr.makeSlice 26 (.int .i64 (n:Int)) (.int .i64 (n:Int))).run Tryz.prog W=.ok (.slice (some ⟨W.heap.size,0,none⟩) n n) (W.alloc (.cells (madeCells #[.int .i64 0] n) 3)):=
  fun W=>run_make_row' 26 3 (.int .i64 0) 8 Tryz.underlying26 (by kernel_rfl) rfl .i64 .i64 n (by omega) (by omega) W
 go_enter Tryz.func26,Tryz.ntmps26
 obtain ⟨Z,hZ⟩:∃ Z:List Value,Z=(madeCells #[.int .i64 0] n).toList:=⟨_,rfl⟩;have hZl:Z.length=n:=by rw [hZ]; simp [size_madeCells]
 have hZa:madeCells #[.int .i64 0] n=Z.toArray:=by rw [hZ]
 obtain ⟨C,hC⟩:∃ C:List Value,C=List.replicate (Nat.min 1 n) (.int .i64 x):=⟨_,rfl⟩;have hCl:C.length=Nat.min 1 n:=by rw [hC]; simp
 have hCv:∀ j v,C[j]?=some v->j=0∧v=.int .i64 x:=fun j v h=>by
  rw [hC,List.getElem?_replicate] at h;split at h
  ·rename_i hj;have:Nat.min 1 n<=1:=Nat.min_le_left _ _;exact ⟨by omega,(Option.some.inj h).symm⟩
  ·cases h
 have hfit:0+C.length<=Z.length:=by rw [hCl,hZl,Nat.zero_add]; exact Nat.min_le_right _ _
 have hone:∀ v∈C,v.oneCell'=true:=fun v hv=>by
  rw [hC] at hv;rw [List.eq_of_mem_replicate hv]; rfl
 have hw0:Below w.heap.size w (w.alloc (.cells Z.toArray 3)):=(Below.refl _ w).alloc (d3 _) _;have hg0:(w.alloc (.cells Z.toArray 3)).heap[w.heap.size]?=some (.cells Z.toArray 3 (0,0)):=World.alloc_heap_new w _;have hc0:(w.alloc (.cells Z.toArray 3)).cell? ⟨b,off,none⟩=some (.int .i64 x):=(hw0.cell (p:=⟨b,off,none⟩) hb).trans hc;rw [hZa] at hmk;clear hZ hC hZa
 go_wp2_with (first
  | (go_at_call 47; refine (hM _).mono ?_; rintro e w' ⟨rfl,rfl⟩)
  | (refine wpList_copy_splice rfl (.tmp 31) (.tmp 32) 26 26 rfl 3 Tryz.underlying26 (by kernel_rfl) _ _ _ _ _ _ rfl rfl _ 0 Z 3 hg0 C hCl (fun h=>⟨rfl,_,rfl,fun j v hj=>by obtain ⟨rfl,rfl⟩:=hCv j v hj; exact hc0⟩) hfit hone _ _ hw0 (d3 _) ?_; intro W1 HG hB1))
 go_loopw [8] (fun vm wr=>∃ (m:Nat) (cur:List Value),vm=.int .i64 m∧m<=n∧(0<n->0<m)∧Hid (wr.heap[w'.heap.size]?=some (.cells cur.toArray 3 (0,0)))∧ZZ n x m cur∧Below w'.heap.size w' wr)
  (fun vm _=>n - (Go.Proofs.intOf vm).toNat)
 case atStart=>
  refine ⟨C.length,splice Z 0 C,by rw [hCl],by omega,fun h=>?_,HG,⟨?_,?_⟩,hB1⟩
  ·rw [hCl];show 0<Nat.min 1 n;simp only [Nat.min_def]; split <;> omega
  ·rw [length_splice _ _ _ hfit,hZl]
  ·simp only [splice,List.take_zero,List.nil_append,List.take_left];refine List.eq_replicate_iff.2 ⟨rfl,fun v hv=>?_⟩;obtain ⟨j,hj⟩:=List.getElem?_of_mem hv;exact (hCv j v hj).2
 case round=>
  obtain ⟨m,cur,rfl,hm,hpos,HR,hrow,hbel⟩:=hrel;by_cases hlt:m<n
  ·obtain ⟨D,hD⟩:∃ D:List Value,D=List.replicate (Nat.min m (n - m)) (.int .i64 x):=⟨_,rfl⟩;have hDl:D.length=Nat.min m (n - m):=by rw [hD]; simp
   have hDv:∀ j v,D[j]?=some v->j<m∧v=.int .i64 x:=fun j v h=>by
    rw [hD,List.getElem?_replicate] at h;split at h
    ·rename_i hj;have:Nat.min m (n - m)<=m:=Nat.min_le_left _ _;exact ⟨by omega,(Option.some.inj h).symm⟩
    ·cases h
   have hDone:∀ v∈D,v.oneCell'=true:=fun v hv=>by
    rw [hD] at hv;rw [List.eq_of_mem_replicate hv]; rfl
   have hDfit:m+D.length<=cur.length:=by
    rw [hDl,hrow.1];have:Nat.min m (n - m)<=n - m:=Nat.min_le_right _ _;omega
   have hsrc:∀ W:World,W.heap[w'.heap.size]?=some (.cells cur.toArray 3 (0,0))->∀ j v,D[j]?=some v->W.cell? ((⟨w'.heap.size,0,none⟩:Addr).add j)=some v:=fun W hW j v hj=>by
    obtain ⟨hjm,rfl⟩:=hDv j v hj;have h2:=congrArg (fun l=>l[j]?) hrow.2;simp only [List.getElem?_take,d1 hjm,List.getElem?_replicate] at h2;simp only [Addr.add_lit,World.cell?,hW,Nat.zero_add];simpa using h2
   have hnm:¬ n=m:=by omega
   have mixed:Tryz.prog.follows .mixedOrders=true:=by kernel_rfl
   have HSRC:Hid (∀ W:World,W.heap[w'.heap.size]?=some (.cells cur.toArray 3 (0,0))->∀ j v,D[j]?=some v->W.cell? ((⟨w'.heap.size,0,none⟩:Addr).add j)=some v):=hsrc;have HDL:Hid (D.length=Nat.min m (n - m)):=hDl;have HDF:Hid (m+D.length<=cur.length):=hDfit;have HD1:Hid (∀ v∈D,v.oneCell'=true):=hDone;have HBEL:Hid (Below w'.heap.size w' wr):=hbel;have HROW:Hid (ZZ n x m cur):=hrow;have HDE:Hid (D=List.replicate (Nat.min m (n - m)) (.int .i64 x)):=hD;clear hM hmk hCv hone hfit hw0 hg0 hc0 hc hb hZl hCl HG hB1 hsrc hDl hDfit hDone hDv hD hrow hbel
   go_wp2
   go_region_law (refine step_copy_splice rfl (.tmp 41) (.tmp 44) 26 26 rfl 3 Tryz.underlying26 (by kernel_rfl) (some ⟨w'.heap.size,m,none⟩) (some ⟨w'.heap.size,0,none⟩) (n - m) (n - m) m n (by simp [Act.eval,Act.put,hnm]) (by simp [Act.eval,Act.put]) w'.heap.size m cur 3 HR.out D HDL.out (fun h=>⟨rfl,_,rfl,HSRC.out _ HR.out⟩) HDF.out HD1.out w'.heap.size w' (by first | exact HBEL.out | exact HBEL.out.drew) (d3 _) ?_; intro W2 HG2 hB2)
   have hwr:IntKind.i64.wrap ((m:Int)+(D.length:Int))=(m:Int)+(D.length:Int):=by
    have:=HDL.out;have h2:Nat.min m (n - m)<=n - m:=Nat.min_le_right _ _;rw [IntKind.wrap_i64]; omega
   simp [Act.put,Oper.dst,hwr,execOp]
   go_roundw
   case rel=>
    refine ⟨_,_,_,_,_,_,_,_,_,_,_,_,_,_,⟨m+D.length,splice cur m D,by rw [Int.natCast_add],?_,fun _=>?_,HG2,⟨?_,?_⟩,hB2⟩,rfl⟩
    ·have:=HDF.out;have h2:=HROW.out.1;omega
    ·have:=hpos (by omega);omega
    ·rw [length_splice _ _ _ HDF.out,HROW.out.1]
    ·have h1:=HROW.out.1;have h2:=HROW.out.2;have h3:=HDF.out;have h4:(cur.take m).length=m:=by rw [d5]; omega
     unfold splice;rw [List.take_append,h4,Nat.add_sub_cancel_left,List.take_of_length_le (by omega),List.take_left,h2,HDE.out,List.length_replicate,List.replicate_append_replicate]
   case measure=>
    have:=HDL.out;have h2:=hpos (by omega);have h3:0<Nat.min m (n - m):=by show 0<min m (n - m); omega
    have h4:D.length<=n - m:=by rw [this]; exact Nat.min_le_right _ _
    show n - ((m:Int)+(D.length:Int)).toNat<n - (m:Int).toNat
    omega
  ·have hmn:m=n:=by omega
   subst hmn
   go_wp2
   go_ret
   exact ⟨rfl,⟨cur,HR.out,hrow⟩,hbel⟩
theorem XB (w:World) (F:Nat->Nat->Prop) (x:Int):∀ k:Nat,AS w F (((List.replicate k x).map (TV.int .i64)).flatMap TV.cells) (List.replicate k (Value.int .i64 x))
 | 0=>by simp [AS]
 | k+1=>by
  have:=XB w F x k;simp only [List.replicate_succ,List.map_cons,List.flatMap_cons,TV.cells,List.cons_append,List.nil_append,AS,A7];exact ⟨_,_,rfl,rfl,this⟩
theorem XC (x:Int) (n:Nat) (hn:n<=4096):AU Go.Proofs.Tryz.prog 26 [.list 1 ([x].map (TV.int .i64)),.int .i64 (n:Int)] (.own (.list 1 ((List.replicate n x).map (TV.int .i64)))):=by
 refine AU.of0 (fun hw=>⟨by kernel_rfl,fun F0 w vs hrep=>?_⟩) rfl;obtain ⟨v,v',rfl,h1,h2⟩:=Qw hrep;simp only [A7] at h2;subst h2;have hx:(TV.int .i64 x).WF:=by
  have:=hw.1;simp only [List.map_cons,List.map_nil,TV.WF,TV.WFs] at this;exact this.2.1
 refine ⟨?_,?_⟩
 ·simp only [CS.WF,TV.WF,d7,List.length_replicate];refine ⟨by unfold I0; omega,?_⟩;rw [CW];intro t ht;obtain ⟨y,hy,rfl⟩:=List.mem_map.1 ht;rw [List.eq_of_mem_replicate hy];exact hx
 rcases XA h1 with ⟨h0,_⟩ | ⟨b,off,cap,rfl,h3,h4⟩
 ·cases h0
 have hc:w.cell? ⟨b,off,none⟩=some (.int .i64 x):=by simpa using h4 0 (by simp)
 refine (bE x n hn b off cap w (X7 hc) hc).mono ?_;rintro _ w' ⟨rfl,⟨cur,hg,hl,hr⟩,hb⟩;have hlt:w.heap.size<w'.heap.size:=(Array.getElem?_eq_some_iff.1 hg).1;obtain ⟨es,hes⟩:∃ es,es=(List.replicate n x).map (TV.int .i64):=⟨_,rfl⟩;have hel:es.length=n:=by rw [hes]; simp
 have hall:∀ t∈es,t=TV.int .i64 x:=fun t ht=>by
  rw [hes] at ht;obtain ⟨y,hy,rfl⟩:=List.mem_map.1 ht;rw [List.eq_of_mem_replicate hy]
 rw [←hes];have hrow:AS w' (fun b o=>(fun b o=>b<w.heap.size∧F0 b o) b o∨∃ lo,some (w.heap.size,es.length*1)=some (b,lo)∧lo<=o) (es.flatMap TV.cells) (cur.take n):=by
  rw [hr,hes];exact XB _ _ x n
 refine ⟨_,rfl,hb,some (w.heap.size,es.length*1),⟨cur.take n,⟨by simp; omega,.inr ⟨w.heap.size,_,_,3,by rw [hel],hg,by omega,by unfold maxLen; omega,by simp; omega,by simp [hel],rfl⟩⟩,hrow,fun e he=>by rw [hall e he]; rfl,fun v hv=>by rw [hr] at hv; rw [List.eq_of_mem_replicate hv]; rfl⟩,?_⟩;intro b lo hbl;cases hbl;exact ⟨d3 _,hlt⟩
end Go.Sf
