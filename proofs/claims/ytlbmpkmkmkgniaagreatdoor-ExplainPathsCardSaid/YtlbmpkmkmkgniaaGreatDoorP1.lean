/- Plain lemmas: what the functions of the program and of the reference compute. -/
import Derived.Test.YtlbmpkmkmkgniaaGreatDoorSfRead
import Derived.Test.YtlbmpkmkmkgniaaGreatDoorFns
import Derived.Test.YtlbmpkmkmkgniaaGreatDoorSfPl
set_option maxRecDepth 100000
namespace Go.Sf
theorem S3 {ρ τ:Type} {d:Int->Option ρ} {g:ρ->τ}:∀ (n:Nat) (a:Int),GA (fun i=>(d i).map g) n a=(GA d n a).map g
 | 0,_=>rfl
 | n+1,a=>by
  rw [GA,GA]
  cases d a with
  | some r=>rfl
  | none=>exact S3 n (a+1)
theorem P1 {ρ τ:Type} {d:Int->Option ρ} {g:ρ->τ} {a b:Int}:fst (fun i=>(d i).map g) a b=(fst d a b).map g:=S3 _ _
theorem Rh {ρ:Type} {d:Int->Option ρ} {r:ρ}:∀ {n:Nat} {a:Int},GA d n a=some r->∃ i,a<=i∧i<a+n∧d i=some r∧∀ j,a<=j->j<i->d j=none
 | 0,_,h=>by cases h
 | n+1,a,h=>by
  rw [GA] at h
  cases hd:d a with
  | some r'=>
   rw [hd] at h
   exact ⟨a,Int.le_refl _,by omega,by rw [hd]; exact h,fun j h1 h2=>by omega⟩
  | none=>
   rw [hd] at h
   obtain ⟨i,h1,h2,h3,h4⟩:=Rh h
   refine ⟨i,by omega,by omega,h3,fun j k1 k2=>?_⟩
   by_cases hj:j=a
   ·subst hj; exact hd
   ·exact h4 j (by omega) k2
theorem CT {ρ:Type} {d:Int->Option ρ} {r:ρ} {a b:Int} (h:fst d a b=some r):∃ i,a<=i∧i<b∧d i=some r∧∀ j,a<=j->j<i->d j=none:=by
 obtain ⟨i,h1,h2,h3,h4⟩:=Rh h
 exact ⟨i,h1,by omega,h3,h4⟩
def KN (p:Int->Bool) (s:ByteArray):Int:=(fst (fun i=>if p (bt s i) then none else some i) 0 s.size).getD s.size
theorem Ps (p:Int->Bool) (s:ByteArray):0<=KN p s∧KN p s<=s.size∧(∀ j,0<=j->j<KN p s->p (bt s j)=true)∧(KN p s<s.size->p (bt s (KN p s))=false):=by
 unfold KN
 cases h:fst (fun i=>if p (bt s i) then none else some i) 0 s.size with
 | none=>
  rw [C2] at h
  simp only [Option.getD]
  refine ⟨by omega,by omega,fun j h1 h2=>?_,fun h1=>by omega⟩
  have:=h j h1 h2
  cases hp:p (bt s j)
  ·simp [hp] at this
  ·rfl
 | some r=>
  obtain ⟨i,h1,h2,h3,h4⟩:=CT h
  have hi:p (bt s i)=false∧i=r:=by
   cases hp:p (bt s i) <;> simp [hp] at h3
   exact ⟨rfl,h3⟩
  obtain ⟨hi,rfl⟩:=hi
  simp only [Option.getD]
  refine ⟨h1,by omega,fun j k1 k2=>?_,fun _=>hi⟩
  have:=h4 j k1 k2
  cases hp:p (bt s j)
  ·simp [hp] at this
  ·rfl
theorem Uu {s:ByteArray} (h:s≠⟨#[]⟩):0<s.size:=by
 rcases Nat.eq_zero_or_pos s.size with h0 | h0
 ·exfalso; apply h
  cases s with | mk d=>congr 1; exact Array.eq_empty_of_size_eq_zero h0
 ·exact h0
end Go.Sf
namespace Go.Sf.Sc
open Go Go.Sf
def GQ (c:Int):Bool:=((decide (97<=c))&&(decide (c<=122)))||((decide (65<=c))&&(decide (c<=90)))
def digitB (c:Int):Bool:=(decide (48<=c))&&(decide (c<=57))
def Nw (c:Int):Bool:=GQ c||digitB c||decide (c=95)
theorem Uc (c:Int):J7 c=some (GQ c):=rfl
theorem SX (c:Int):Ji c=some (digitB c):=rfl
theorem Uh (c:Int):J3 c=some (GQ c):=rfl
theorem V4 (c:Int):Ik c=some (digitB c):=rfl
theorem et (c:Int):Lj c=some (Nw c):=by
 unfold Lj Nw
 rw [Uc,bs,SX]
 cases GQ c <;> cases digitB c <;> rfl
theorem Ww {s:ByteArray} (hs:(s.size:Int)<=4611686018427387904) {ok:Int->Option Bool} {p:Int->Bool} (h:∀ c,ok c=some (p c)):Ht s ok=some (KN p s):=by
 unfold Ht
 rw [OQ (c:=fun i=>(if p (bt s i) then none else some i).map .inl) (a:=0) (b:=s.size) (by omega)]
 ·rw [P1]
  unfold KN
  cases fst (fun i=>if p (bt s i)=true then none else some i) 0 s.size <;> rfl
 ·intro i h1 h2 _
  simp only [h2,decide_true,if_true,M2 h1 h2,bs,h]
  cases p (bt s i)
  ·simp [cnt]
  ·simp [cnt,BO (show -9223372036854775808<=i+1 by omega) (by omega)]
 ·simp
def GK (s:ByteArray):Bool:=decide (0<s.size)&&GQ (bt s 0)&&decide (s.size<=20)&&decide (KN Nw s=s.size)
theorem SW (l:List ByteArray) (v:ByteArray):∃ k,slices_Index_string l v=some k∧(0<=k↔v∈l):=by
 unfold slices_Index_string
 rw [DN (fun i=>if (v==AB l i)=true then some i else none)]
 ·cases h:fst (fun i=>if (v==AB l i)=true then some i else none) 0 l.length with
  | none=>
   rw [C2] at h
   refine ⟨-1,rfl,by omega,fun hm=>?_⟩
   obtain ⟨i,h1,h2,h3⟩:=D8 hm
   have:=h i h1 h2
   rw [h3,if_pos (beq_self_eq_true v)] at this
   cases this
  | some k=>
   obtain ⟨i,h1,h2,h3,_⟩:=CT h
   have h4:(v==AB l i)=true∧i=k:=by
    by_cases hv:(v==AB l i)=true
    ·rw [if_pos hv] at h3; exact ⟨hv,by simpa using h3⟩
    ·rw [if_neg hv] at h3; cases h3
   obtain ⟨h4,rfl⟩:=h4
   refine ⟨i,rfl,fun _=>?_,fun _=>h1⟩
   rw [eq_of_beq h4]; exact AS h1 h2
 ·intro i h1 h2 _
  simp only [AL h1 h2,bs]
  split <;> rfl
theorem Mg (l:List ByteArray) (v:ByteArray):slices_Contains_string l v=some (l.contains v):=by
 unfold slices_Contains_string
 obtain ⟨k,h1,h2⟩:=SW l v
 rw [h1,bs]
 congr 1
 rw [Bool.eq_iff_iff,zzX,h2,List.contains_iff_mem]
theorem en {s:ByteArray} (h0:0<s.size) (hs:(s.size:Int)<=4611686018427387904):∃ k n e,Ie s=some (k,n,e)∧(((decide (e=0))&&(decide (k=1)))&&(decide (n=(s.size:Int))))=GK s:=by
 have hr:=Ps Nw s
 unfold Ie GK
 simp only [M2 (Int.le_refl 0) (show (0:Int)<s.size by omega),bs,Uc,SX,Ww hs et,Ww hs SX,h0,decide_true,Bool.true_and]
 by_cases hl:GQ (bt s 0)=true
 ·rw [if_pos hl]
  by_cases h20:20<KN Nw s
  ·refine ⟨0,0,3,by simp [h20],?_⟩
   simp [hl]
   intro h1 h2
   omega
  ·refine ⟨1,_,0,by rw [if_neg (by simpa using h20)],?_⟩
   simp only [hl,decide_true,Bool.true_and]
   rw [Bool.eq_iff_iff]
   simp only [zzX,zzZ]
   omega
 ·rw [if_neg hl]
  have hl':GQ (bt s 0)=false:=by simpa using hl
  rw [hl',Bool.false_and,Bool.false_and]
  by_cases hd:digitB (bt s 0)=true
  ·rw [if_pos hd]
   by_cases h9:9<KN digitB s
   ·exact ⟨0,0,3,by simp [h9],by simp⟩
   ·exact ⟨2,_,0,by rw [if_neg (by simpa using h9)],by simp⟩
  ·rw [if_neg hd]
   by_cases hq:bt s 0=34
   ·have hsz:=Tb (s:=s) (a:=1) (b:=s.size) (by omega) (by omega) (by omega)
    have hq2:∀ c,KH c=some (((decide (32<=c))&&(decide (c<=126)))&&(!decide (c=34))):=fun _=>rfl
    have hr2:=Ps (fun c=>((decide (32<=c))&&(decide (c<=126)))&&(!decide (c=34))) (s.extract (1:Int).toNat (s.size:Int).toNat)
    have hqq:∃ n e,HQ s=some (n,e):=by
     unfold HQ
     rw [LC (by omega) (by omega) (by omega),bs,Ww (by omega) hq2,bs]
     rw [BO (by omega) (by omega)]
     by_cases he:1+KN (fun c=>((decide (32<=c))&&(decide (c<=126)))&&(!decide (c=34))) (s.extract (1:Int).toNat (s.size:Int).toNat)=s.size
     ·refine ⟨0,2,?_⟩
      simp only [he,decide_true,if_true,bs]
     ·simp only [he,decide_false,Bool.false_eq_true,if_false]
      rw [M2 (by omega) (by omega)]
      simp only [bs]
      split
      ·exact ⟨_,_,rfl⟩
      ·split
       ·exact ⟨_,_,rfl⟩
       ·exact ⟨_,_,rfl⟩
    obtain ⟨n,e,hne⟩:=hqq
    refine ⟨3,n,e,by rw [if_pos (by simpa using hq),hne]; rfl,by simp⟩
   ·rw [if_neg (by simpa using hq)]
    have hp:∃ b,Li s=some b:=by
     unfold Li
     by_cases h2:2<=(s.size:Int)
     ·rw [if_pos (by simpa using h2),LC (by omega) (by omega) h2]
      simp only [bs,Mg]
      exact ⟨_,rfl⟩
     ·rw [if_neg (by simpa using h2)]
      exact ⟨_,rfl⟩
    obtain ⟨b,hb⟩:=hp
    rw [hb,bs]
    cases b
    ·simp only [Bool.false_eq_true,if_false,strings_IndexByte,bs]
     split
     ·exact ⟨_,_,_,rfl,rfl⟩
     ·exact ⟨_,_,_,rfl,rfl⟩
    ·exact ⟨_,_,_,rfl,rfl⟩
theorem Ot {s:ByteArray} (hs:(s.size:Int)<=4611686018427387904):EX s=some (GK s):=by
 unfold EX Io
 simp only [show decide ((1:Int)=3)=false from rfl,Bool.false_eq_true,if_false,bs]
 by_cases he:s=⟨#[]⟩
 ·subst he; rfl
 ·rw [if_neg (by simpa using he)]
  obtain ⟨k,n,e,h1,h2⟩:=en (Uu he) hs
  rw [h1]
  simp only [bs]
  rw [h2]
theorem fC {s:ByteArray} (hs:(s.size:Int)<=4611686018427387904) (digits:Bool):∃ n,MN s 0 digits=some n∧0<=n∧n<=s.size∧(digits=false->n=KN Nw s):=by
 have hr:=Ps (fun c=>digitB c||(!digits&&(GQ c||decide (c=95)))) s
 refine ⟨KN (fun c=>digitB c||(!digits&&(GQ c||decide (c=95)))) s,?_,hr.1,hr.2.1,fun hd=>?_⟩
 ·unfold MN
  rw [OQ (c:=fun i=>(if (digitB (bt s i)||(!digits&&(GQ (bt s i)||decide (bt s i=95)))) then none else some i).map .inl) (a:=0) (b:=s.size) (by omega)]
  ·rw [P1]
   unfold KN
   cases fst (fun i=>if (digitB (bt s i)||(!digits&&(GQ (bt s i)||decide (bt s i=95))))=true then none else some i) 0 s.size <;> rfl
  ·intro i h1 h2 _
   have hw:A8 (0+i)=i:=by rw [BO (by omega) (by omega)]; omega
   simp only [hw,h2,decide_true,if_true,M2 h1 h2,bs,V4,Uh]
   cases digitB (bt s i) <;> cases digits <;> cases GQ (bt s i) <;> cases (decide (bt s i=95)) <;> simp [cnt,BO (show -9223372036854775808<=i+1 by omega) (by omega)]
  ·have hw:A8 (0+(s.size:Int))=s.size:=by rw [BO (by omega) (by omega)]; omega
   simp only [hw,Int.lt_irrefl,decide_false,Bool.false_eq_true,if_false,bs]
 ·subst hd
  congr 1
  funext c
  unfold Nw
  cases GQ c <;> cases digitB c <;> cases decide (c=95) <;> rfl
theorem Zg {s:ByteArray} (h0:0<s.size) (hs:(s.size:Int)<=4611686018427387904):∃ n,J4 s 0=some n∧(n=0∨(2<=n∧n<=s.size)):=by
 unfold J4
 rw [OQ (c:=fun i=>if decide (bt s i=34)=true then some (Sum.inr (i+1):Int ⊕ Int) else if (decide (bt s i<32)||decide (126<bt s i))=true then some (Sum.inr 0) else none) (a:=1) (b:=s.size) (by omega)]
 ·cases h:fst (fun i=>if decide (bt s i=34)=true then some (Sum.inr (i+1):Int ⊕ Int) else if (decide (bt s i<32)||decide (126<bt s i))=true then some (Sum.inr 0) else none) 1 s.size with
  | none=>exact ⟨0,rfl,.inl rfl⟩
  | some r=>
   obtain ⟨i,h1,h2,h3,_⟩:=CT h
   split at h3
   ·cases h3; exact ⟨_,rfl,.inr (by omega)⟩
   ·split at h3
    ·cases h3; exact ⟨_,rfl,.inl rfl⟩
    ·cases h3
 ·intro i h1 h2 _
  have hw:A8 (0+i)=i:=by rw [BO (by omega) (by omega)]; omega
  simp only [hw,h2,decide_true,if_true,M2 (show 0<=i by omega) h2,bs,BO (show -9223372036854775808<=i+1 by omega) (by omega)]
  split
  ·rfl
  ·split <;> rfl
 ·have hw:A8 (0+(s.size:Int))=s.size:=by rw [BO (by omega) (by omega)]; omega
  simp only [hw,Int.lt_irrefl,decide_false,Bool.false_eq_true,if_false]
theorem mJ {s:ByteArray} (h0:0<s.size) (hs:(s.size:Int)<=4611686018427387904):∃ t n e,MM s 0=some (t,n,e)∧(((decide (e=0))&&(decide (n=(s.size:Int))))&&(decide (t.Kind=1)))=GK s:=by
 obtain ⟨m,hm1,hm2,hm3,hm4⟩:=fC hs (digitB (bt s 0))
 unfold MM GK
 simp only [M2 (Int.le_refl 0) (show (0:Int)<s.size by omega),bs,Uh,V4,h0,decide_true,Bool.true_and,hm1]
 have hw:A8 (0+m)=m:=by rw [BO (by omega) (by omega)]; omega
 by_cases hl:GQ (bt s 0)=true
 ·have hd:digitB (bt s 0)=false:=by
   unfold GQ at hl; unfold digitB
   simp only [Bool.or_eq_true,zzZ,zzX] at hl
   rw [Bool.and_eq_false_iff]
   simp only [decide_eq_false_iff_not]
   omega
  have hm:=hm4 hd
  subst hm
  simp only [hl,if_true,hd,Bool.false_eq_true,if_false,bs,hw]
  by_cases h20:20<KN Nw s
  ·refine ⟨_,_,_,by rw [if_pos (by simpa using h20)],?_⟩
   rw [Bool.eq_iff_iff]
   simp only [zzX,zzZ]
   omega
  ·rw [if_neg (by simpa using h20),LC (Int.le_refl _) hm2 hm3]
   refine ⟨_,_,_,rfl,?_⟩
   rw [Bool.eq_iff_iff]
   simp only [zzX,zzZ,true_and,and_true]
   omega
 ·have hl':GQ (bt s 0)=false:=by simpa using hl
  simp only [hl',Bool.false_eq_true,if_false,bs,Bool.false_and,hw]
  by_cases hd:digitB (bt s 0)=true
  ·simp only [hd,if_true,bs]
   by_cases h9:9<m
   ·exact ⟨_,_,_,by rw [if_pos (by simpa using h9)],by simp⟩
   ·rw [if_neg (by simpa using h9),LC (Int.le_refl _) hm2 hm3]
    exact ⟨_,_,_,rfl,by simp⟩
  ·have hd':digitB (bt s 0)=false:=by simpa using hd
   simp only [hd',Bool.false_eq_true,if_false,bs]
   by_cases hq:bt s 0=34
   ·obtain ⟨n,hn,hn2⟩:=Zg h0 hs
    rw [if_pos (by simpa using hq),hn,bs]
    rcases hn2 with rfl | hn2
    ·exact ⟨_,_,_,rfl,by simp⟩
    ·rw [if_neg (by simp; omega)]
     split
     ·exact ⟨_,_,_,rfl,by simp⟩
     ·have e1:A8 (0+1)=1:=by decide
      have e2:A8 (0+n)=n:=by rw [BO (by omega) (by omega)]; omega
      rw [e1,e2,BO (show -9223372036854775808<=n - 1 by omega) (by omega),LC (by omega) (by omega) (by omega)]
      exact ⟨_,_,_,rfl,by simp⟩
   ·rw [if_neg (by simpa using hq)]
    unfold ME
    rw [bs]
    generalize hL:([(⟨#[45,62]⟩:ByteArray),(⟨#[60,61]⟩:ByteArray),(⟨#[62,61]⟩:ByteArray),(⟨#[61,61]⟩:ByteArray),(⟨#[33,61]⟩:ByteArray),(⟨#[123]⟩:ByteArray),(⟨#[125]⟩:ByteArray),(⟨#[40]⟩:ByteArray),(⟨#[41]⟩:ByteArray),(⟨#[91]⟩:ByteArray),(⟨#[93]⟩:ByteArray),(⟨#[44]⟩:ByteArray),(⟨#[59]⟩:ByteArray),(⟨#[58]⟩:ByteArray),(⟨#[61]⟩:ByteArray),(⟨#[43]⟩:ByteArray),(⟨#[45]⟩:ByteArray),(⟨#[42]⟩:ByteArray),(⟨#[60]⟩:ByteArray),(⟨#[62]⟩:ByteArray),(⟨#[33]⟩:ByteArray),(⟨#[38]⟩:ByteArray),(⟨#[124]⟩:ByteArray),(⟨#[46]⟩:ByteArray),(⟨#[63]⟩:ByteArray)]:List ByteArray)=L
    have hsz:∀ x∈L,x.size<=2:=by subst hL; decide
    rcases UE (f:=(fun (i0:Int) (s0:FS)=>
      (AM L i0).bind fun x75=>
      (if (decide ((A8 (0+(x75.size:Int)))<=(s.size:Int)))=true then ((AM L i0).bind fun x88=>
      (sslc s 0 (A8 (0+(x88.size:Int)))).bind fun x92=>
      (AM L i0).bind fun x95=>
      some (x92==x95)) else some false).bind fun x98=>
      if x98=true then
      (AM L i0).bind fun x101=>
      (AM L i0).bind fun x106=>
      some (CY.ret (FS.mk 4 x101 0,(x106.size:Int),(0:Int)))
      else
      some (CY.next s0))) (fun _ s=>True) (fun _=>True) (fun r=>r.1.Kind=4) (a:=0) (b:=L.length) (s:=FS.mk 0 (⟨#[]⟩:ByteArray) 0) (by omega) trivial (fun i t h1 h2 _=>by
      have hx:=hsz _ (AS h1 h2)
      have hw2:A8 (0+((AB L i).size:Int))=(AB L i).size:=by rw [BO (by omega) (by omega)]; omega
      simp only [AL h1 h2,bs,hw2]
      by_cases hc:((AB L i).size:Int)<=s.size
      ·rw [if_pos (by simpa using hc),LC (by omega) (by omega) hc]
       simp only [bs]
       split
       ·exact .inr (.inr ⟨_,rfl,rfl⟩)
       ·exact .inl ⟨_,rfl,trivial⟩
      ·rw [if_neg (by simpa using hc)]
       simp only [bs]
       exact .inl ⟨_,rfl,trivial⟩) with ⟨s',h1,_⟩ | ⟨r,h1,h2⟩
    ·rw [h1]; exact ⟨_,_,_,rfl,by simp⟩
    ·rw [h1]; exact ⟨_,_,_,rfl,by simp [h2]⟩
theorem Ov {s:ByteArray} (hs:(s.size:Int)<=4611686018427387904):HL s=some (GK s):=by
 unfold HL MD Mt
 simp only [show decide ((1:Int)=3)=false from rfl,Bool.false_eq_true,if_false,bs]
 by_cases he:s=⟨#[]⟩
 ·subst he; rfl
 ·rw [if_neg (by simpa using he)]
  obtain ⟨t,n,e,h1,h2⟩:=mJ (Uu he) hs
  rw [h1]
  simp only [bs]
  rw [h2]
end Go.Sf.Sc
namespace Go.Sf
variable {ρ β:Type}
def nz (e:Int):Option Int:=if e=0 then none else some e
theorem OH (e:Int):(if (!decide (e=0))=true then some (CY.ret e) else some (CY.next ()))=some (N5 (nz e)):=by
 unfold nz
 by_cases h:e=0 <;> simp [h,N5]
theorem dx (b:Bool) (r:ρ):(if b=true then some (CY.ret r) else some (CY.next ()))=some (N5 (if b=true then some r else none)):=by
 cases b <;> rfl
theorem EW {σ:Type} {s:σ} {k:σ->Option β} {kr:ρ->Option β}:thenR (some (.inl s)) k kr=k s:=rfl
theorem TS {σ:Type} {r:ρ} {k:σ->Option β} {kr:ρ->Option β}:thenR (some (.inr r)) k kr=kr r:=rfl
theorem Hr (o:Option ρ) (k:Unit->Option β) (kr:ρ->Option β):thenR (some (aW o)) k kr=match o with | none=>k () | some r=>kr r:=by
 cases o <;> rfl
theorem GP (o:Option Int):thenR (some (aW o)) (fun _=>some 0) (fun v=>some v)=some (o.getD 0):=by
 cases o <;> rfl
theorem Ri {c:Int->Int} {a b:Int} (h:(fst (fun i=>nz (c i)) a b).getD 0=0):∀ i,a<=i->i<b->c i=0:=by
 have:fst (fun i=>nz (c i)) a b=none:=by
  cases hf:fst (fun i=>nz (c i)) a b with
  | none=>rfl
  | some r=>
   rw [hf] at h
   simp only [Option.getD] at h
   subst h
   obtain ⟨i,_,_,h3,_⟩:=CT hf
   unfold nz at h3
   split at h3
   ·cases h3
   ·rename_i hn; simp at h3; exact (hn h3).elim
 rw [C2] at this
 intro i h1 h2
 have:=this i h1 h2
 unfold nz at this
 split at this
 ·assumption
 ·cases this
theorem Mz {e:Int}:nz e=none↔e=0:=by
 unfold nz
 by_cases h:e=0 <;> simp [h]
theorem UI {α:Type} [Inhabited α] {l:List α} {f:α->Option Bool} {p:α->Bool} (h:∀ x∈l,f x=some (p x)) :
  (thenR (forR (ρ:=Int) (fun (i0:Int) (_:Unit)=>(AM l i0).bind fun x14=>(f x14).bind fun x16=>if x16=true then some (.ret i0) else some (.next ())) 0 (l.length:Int) ()) (fun _=>some (-1)) (fun v0=>some v0)) =
   some ((fst (fun i=>if p (AB l i)=true then some i else none) 0 l.length).getD (-1)):=by
 rw [DN (fun i=>if p (AB l i)=true then some i else none)]
 ·rw [Hr]; cases fst (fun i=>if p (AB l i)=true then some i else none) 0 l.length <;> rfl
 ·intro i h1 h2 _
  rw [AL h1 h2,bs,h _ (AS h1 h2),bs,dx]
theorem S9 {α:Type} [Inhabited α] {l:List α} {p:α->Bool}:decide (0<=(fst (fun i=>if p (AB l i)=true then some i else none) 0 l.length).getD (-1))=l.any p:=by
 rw [JX,anyR]
 cases h:fst (fun i=>if p (AB l i)=true then some i else none) 0 l.length with
 | none=>
  rw [C2] at h
  symm
  show Option.isSome _=false
  rw [Option.isSome_eq_false_iff,Option.isNone_iff_eq_none,C2]
  intro i h1 h2
  have:=h i h1 h2
  by_cases hp:p (AB l i)=true
  ·rw [if_pos hp] at this; cases this
  ·rw [if_neg hp]
 | some k=>
  obtain ⟨i,h1,h2,h3,_⟩:=CT h
  have h4:p (AB l i)=true∧i=k:=by
   by_cases hv:p (AB l i)=true
   ·rw [if_pos hv] at h3; exact ⟨hv,by simpa using h3⟩
   ·rw [if_neg hv] at h3; cases h3
  simp only [Option.getD]
  rw [decide_eq_true (show (0:Int)<=k by omega)]
  symm
  show Option.isSome _=true
  rw [Option.isSome_iff_ne_none,ne_eq,C2]
  intro hn
  have:=hn i h1 h2
  rw [if_pos h4.1] at this
  cases this
theorem FL {α:Type} [Inhabited α] {l:List α} {f:α->Option Bool} {p:α->Bool} (h:∀ x∈l,f x=some (p x)) :
  ((thenR (forR (ρ:=Int) (fun (i0:Int) (_:Unit)=>(AM l i0).bind fun x14=>(f x14).bind fun x16=>if x16=true then some (.ret i0) else some (.next ())) 0 (l.length:Int) ()) (fun _=>some (-1)) (fun v0=>some v0)).bind fun x7=>some (decide (0<=x7)))=some (l.any p):=by
 rw [UI h,bs,S9]
end Go.Sf
namespace Go.Sf.Sc
open Go Go.Sf
instance:Inhabited Attr:=⟨⟨⟨#[]⟩,0,0,[]⟩⟩
instance:Inhabited CJ:=⟨⟨⟨#[]⟩,0,false,[]⟩⟩
instance:Inhabited CZ:=⟨⟨⟨#[]⟩,0,0,0,0,0,0⟩⟩
instance:Inhabited DQ:=⟨⟨0,0,0⟩⟩
instance:Inhabited D4:=⟨⟨0,0,⟨0,0⟩⟩⟩
instance:Inhabited Test:=⟨⟨0,⟨0,0⟩,⟨0,0⟩⟩⟩
instance:Inhabited AA:=⟨⟨0,[],⟨[],[]⟩,⟨⟨[],[]⟩,[],0,[]⟩⟩⟩
theorem RQ {l:List Int} {f:Int->Option Bool} {p:Int->Bool} (h:∀ x∈l,f x=some (p x)):BN l f=some (l.any p):=FL h
theorem Vi {l:List DQ} {f:DQ->Option Bool} {p:DQ->Bool} (h:∀ x∈l,f x=some (p x)):B7 l f=some (l.any p):=FL h
theorem NC {l:List AA} {f:AA->Option Bool} {p:AA->Bool} (h:∀ x∈l,f x=some (p x)):BV l f=some (l.any p):=FL h
theorem VG {l:List CJ} {p:CJ->Bool}:CW l (fun x=>some (p x))=some (l.any p):=FL (fun _ _=>rfl)
theorem VF {l:List CZ} {p:CZ->Bool}:CU l (fun x=>some (p x))=some (l.any p):=FL (fun _ _=>rfl)
theorem be {l:List Attr} {p:Attr->Bool}:DO l (fun x=>some (p x))=some (l.any p):=FL (fun _ _=>rfl)
theorem Xl {l:List Int} {p:Int->Bool}:BN l (fun x=>some (p x))=some (l.any p):=FL (fun _ _=>rfl)
theorem bf {l:List DQ} {p:DQ->Bool}:B7 l (fun x=>some (p x))=some (l.any p):=FL (fun _ _=>rfl)
theorem bg {l:List D4} {p:D4->Bool}:DP l (fun x=>some (p x))=some (l.any p):=FL (fun _ _=>rfl)
theorem eM (l:List Int) (v:Int):slices_Index_int l v=some ((fst (fun i=>if decide (v=AB l i)=true then some i else none) 0 l.length).getD (-1)):=by
 have:=UI (l:=l) (f:=fun x=>some (decide (v=x))) (p:=fun x=>decide (v=x)) (fun _ _=>rfl)
 unfold slices_Index_int
 simpa only [bs] using this
theorem T1 (l:List Int) (v:Int):slices_Contains_int l v=some (l.any fun x=>decide (v=x)):=by
 unfold slices_Contains_int
 rw [eM,bs,S9 (p:=fun x=>decide (v=x))]
theorem bj (l:List Bool) (v:Bool):GO l v=some (l.any fun x=>v==x):=by
 have:=FL (l:=l) (f:=fun x=>some (v==x)) (p:=fun x=>v==x) (fun _ _=>rfl)
 unfold GO Iu
 simpa only [bs] using this
structure PE (a:Attr):Prop where
 name:(a.Name.size:Int)<=40
 names:a.Names.length<=25
 each:∀ x∈a.Names,(x.size:Int)<=40
structure CA (t:AD):Prop where
 nodes:t.Nodes.length<=20
 edges:t.Edges.length<=30
 name:∀ n∈t.Nodes,(n.Name.size:Int)<=40
 attrs:∀ n∈t.Nodes,n.Attrs.length<=30
 each:∀ n∈t.Nodes,∀ a∈n.Attrs,PE a
 ename:∀ e∈t.Edges,(e.Name.size:Int)<=40
def par (t:AD) (i:Int):Int:=(AB t.Nodes i).Parent
def GG (t:AD) (k:Int):Prop:=∀ i,0<=i->i<k->-1<=par t i∧par t i<i
def CP (t:AD):Nat->Int->List Attr
 | 0,_=>[]
 | n+1,a=>if a<0 then [] else CP t n (par t a)++(AB t.Nodes a).Attrs
def BR (t:AD) (a:Int):List Attr:=CP t (a+1).toNat a
theorem IM {t:AD} {n:Nat} {a:Int} (h:a<0):CP t n a=[]:=by
 cases n with
 | zero=>rfl
 | succ n=>rw [CP,if_pos h]
theorem K3 {t:AD} {k:Int} (hp:GG t k):∀ (n m:Nat) (a:Int),a<k->a<n->a<m->CP t n a=CP t m a
 | n,m,a,hk,hn,hm=>by
  by_cases h0:a<0
  ·rw [IM h0,IM h0]
  ·cases n with
   | zero=>omega
   | succ n=>
    cases m with
    | zero=>omega
    | succ m=>
     rw [CP,CP,if_neg h0,if_neg h0]
     have:=hp a (by omega) hk
     rw [K3 hp n m (par t a) (by omega) (by omega) (by omega)]
theorem LG {t:AD} (hf:CA t) {k:Int} (hk:k<=t.Nodes.length) (hp:GG t k):∀ (n:Nat) (a:Int),a<k->((CP t n a).length:Int)<=30*n
 | 0,_,_=>by simp [CP]
 | n+1,a,ha=>by
  rw [CP]
  split
  ·simp; omega
  ·rename_i h0
   have h1:=hp a (by omega) ha
   have h2:=LG hf hk hp n (par t a) (by omega)
   have h3:=hf.attrs _ (AS (l:=t.Nodes) (show 0<=a by omega) (by omega))
   rw [List.length_append]
   omega
theorem RK {t:AD} (hf:CA t) {k:Int} (hk:k<=t.Nodes.length) (hp:GG t k):∀ (n:Nat) (a:Int),a<k->∀ x∈CP t n a,PE x
 | 0,_,_=>by simp [CP]
 | n+1,a,ha=>by
  rw [CP]
  split
  ·simp
  ·rename_i h0
   have h1:=hp a (by omega) ha
   intro x hx
   rcases List.mem_append.1 hx with hx | hx
   ·exact RK hf hk hp n (par t a) (by omega) x hx
   ·exact hf.each _ (AS (l:=t.Nodes) (show 0<=a by omega) (by omega)) x hx
theorem LI {t:AD} (hf:CA t) {k a:Int} (hk:k<=t.Nodes.length) (hp:GG t k) (ha:a<k):(BR t a).length<=600:=by
 have:=LG hf hk hp (a+1).toNat a ha
 have:=hf.nodes
 unfold BR
 omega
theorem LH {t:AD} (hf:CA t) {k a:Int} (hk:k<=t.Nodes.length) (hp:GG t k) (ha:a<k):∀ x∈BR t a,PE x:=RK hf hk hp _ a ha
theorem UY {t:AD} (hf:CA t) {k:Int} (hk:k<=t.Nodes.length) (hp:GG t k):∀ (n:Nat) (a:Int),0<=a->a<k->a<n->D5 n t a=some (CP t n a)
 | 0,_,_,_,_=>by omega
 | n+1,a,h0,ha,hn=>by
  have h1:=hp a (by omega) ha
  have h2:=LG hf hk hp n (par t a) (by omega)
  have h3:=hf.attrs _ (AS (l:=t.Nodes) h0 (by omega))
  have h4:=hf.nodes
  rw [D5,CP,if_neg (by omega),AL h0 (by omega)]
  simp only [bs]
  show ((if decide (0<=par t a)=true then (D5 n t (par t a)).bind fun x17=>some x17 else some []).bind _)=_
  have e:(if decide (0<=par t a)=true then (D5 n t (par t a)).bind fun x17=>some x17 else some [])=some (CP t n (par t a)):=by
   by_cases hq:0<=par t a
   ·rw [if_pos (by simpa using hq),UY hf hk hp n (par t a) hq (by omega) (by omega)]; rfl
   ·rw [if_neg (by simpa using hq),IM (by omega)]
  have hb:(CP t n (par t a)).length+(AB t.Nodes a).Attrs.length<=B9:=by
   unfold B9
   have:((CP t n (par t a)).length:Int)<=30*n:=h2
   have h5:CP t n (par t a)=CP t 20 (par t a):=by
    by_cases hneg:par t a<0
    ·rw [IM hneg,IM hneg]
    ·exact K3 hp n 20 (par t a) (by omega) (by omega) (by omega)
   have h6:=LG hf hk hp 20 (par t a) (by omega)
   rw [←h5] at h6
   omega
  rw [e,bs,DU hb]
  rfl
theorem Vz {t:AD} (hf:CA t) {k:Int} (hk:k<=t.Nodes.length) (hp:GG t k) {a:Int} (h0:0<=a) (ha:a<k):Jj t a=some (BR t a):=
 HK (a+1).toNat fun n hn=>by
  rw [UY hf hk hp n a h0 ha (by omega),BR,K3 hp n (a+1).toNat a ha (by omega) (by omega)]
theorem Uf {t:AD} (hf:CA t) {k:Int} (hk:k<=t.Nodes.length) (hp:GG t k):∀ (n:Nat) (a:Int),-1<=a->a<k->a+1<n->HM n t a=some (CP t n a)
 | 0,_,_,_,_=>by omega
 | n+1,a,h0,ha,hn=>by
  rw [HM,CP]
  by_cases hneg:a<0
  ·rw [if_pos (by simpa using hneg),if_pos hneg]
  ·have h1:=hp a (by omega) ha
   have h3:=hf.attrs _ (AS (l:=t.Nodes) (show 0<=a by omega) (by omega))
   have h4:=hf.nodes
   rw [if_neg (by simpa using hneg),if_neg hneg,AL (by omega) (by omega)]
   simp only [bs]
   have h5:CP t n (par t a)=CP t 20 (par t a):=by
    by_cases hneg:par t a<0
    ·rw [IM hneg,IM hneg]
    ·exact K3 hp n 20 (par t a) (by omega) (by omega) (by omega)
   have h6:=LG hf hk hp 20 (par t a) (by omega)
   rw [←h5] at h6
   have hb:(CP t n (par t a)).length+(AB t.Nodes a).Attrs.length<=B9:=by unfold B9; omega
   rw [show (AB t.Nodes a).Parent=par t a from rfl,Uf hf hk hp n (par t a) (by omega) (by omega) (by omega),bs,DU (by simp; unfold B9; omega)]
   simp only [bs,List.nil_append]
   rw [DU hb]; rfl
theorem V3 {t:AD} (hf:CA t) {k:Int} (hk:k<=t.Nodes.length) (hp:GG t k) {a:Int} (h0:0<=a) (ha:a<k):MF t a=some (BR t a):=
 HK (a+2).toNat fun n hn=>by
  rw [Uf hf hk hp n a (by omega) ha (by omega),BR,K3 hp n (a+1).toNat a ha (by omega) (by omega)]
end Go.Sf.Sc
namespace Go.Sf.Sc
open Go Go.Sf
def I3 (l:List ByteArray):Int:=
 if (20:Int)<l.length then 3 else (fst (fun i=>if GK (AB l i)=false then some 2 else if anyR (fun j=>AB l j==AB l i) 0 i=true then some 5 else none) 0 l.length).getD 0
theorem Tz {l:List ByteArray} {x:ByteArray} {b:Int} (h0:0<=b) (h1:b<=l.length):(l.take b.toNat).contains x=anyR (fun j=>AB l j==x) 0 b:=by
 rw [List.contains_eq_any_beq,OU h0 h1]
 exact RJ (fun i _ _=>by rw [Bool.beq_comm])
theorem cR {l:List ByteArray} (hl:∀ x∈l,(x.size:Int)<=40):Hv l=some (I3 l):=by
 unfold Hv I3
 by_cases h20:(20:Int)<l.length
 ·rw [if_pos (by simpa using h20),if_pos h20]
 ·rw [if_neg (by simpa using h20),if_neg h20]
  rw [DN (fun i=>if GK (AB l i)=false then some 2 else if anyR (fun j=>AB l j==AB l i) 0 i=true then some 5 else none),GP]
  intro i h1 h2 _
  have hx:=hl _ (AS h1 h2)
  rw [AL h1 h2,bs,Ot (by omega),bs,L7 h1 (by omega)]
  simp only [bs,Mg,Tz h1 (show i<=l.length by omega)]
  cases GK (AB l i) <;> cases anyR (fun j=>AB l j==AB l i) 0 i <;> rfl
theorem cd {l:List ByteArray} (hl:∀ x∈l,(x.size:Int)<=40):Kd l=some (I3 l):=by
 unfold Kd I3
 by_cases h20:(20:Int)<l.length
 ·rw [if_pos (by simpa using h20),if_pos h20]
 ·rw [if_neg (by simpa using h20),if_neg h20]
  rw [DN (fun i=>if GK (AB l i)=false then some 2 else if anyR (fun j=>AB l j==AB l i) 0 i=true then some 5 else none),GP]
  intro i h1 h2 _
  have hx:=hl _ (AS h1 h2)
  rw [AL h1 h2,bs,Ov (by omega),bs,C1 (fun j=>AB l j==AB l i) 5]
  ·cases GK (AB l i) <;> cases anyR (fun j=>AB l j==AB l i) 0 i <;> rfl
  ·intro j k1 k2 _
   rw [AL k1 (by omega),bs,bs]
   split <;> rfl
def Kl (all:List Attr) (k:Int):Int:=
 let x:=AB all k
 if GK x.Name=false then 2 else if anyR (fun j=>(AB all j).Name==x.Name) 0 k=true then 5 else
 if x.Names.length=0 then (if -1000000<=x.Low∧x.Low<=x.High∧x.High<=1000000 then 0 else 6) else
 if I3 x.Names≠0 then I3 x.Names else if x.Low=0∧x.High=x.Names.length - 1 then 0 else 6
theorem VT {all:List Attr} (hl:∀ x∈all,PE x) {k:Int} (h0:0<=k) (h1:k<all.length):FJ (AB all k) (all.take k.toNat)=some (Kl all k):=by
 have hx:=hl _ (AS h0 h1)
 have hn:=hx.name
 unfold FJ Kl
 dsimp only
 rw [Ot (by omega),bs,show (fun y0=>Iw y0 (AB all k))=(fun y0=>some (y0.Name==(AB all k).Name)) from rfl,be,bs,OU h0 (by omega),cR hx.each,bs]
 have hl2:=hx.names
 have hw:A8 ((AB all k).Names.length - 1)=(AB all k).Names.length - 1:=BO (by omega) (by omega)
 rw [hw]
 have hz:(AB all k).Names.length=0->I3 (AB all k).Names=0:=fun h=>by rw [List.eq_nil_of_length_eq_zero h]; rfl
 generalize I3 (AB all k).Names=e at hz ⊢
 simp only [bs,zzX,Bool.or_eq_true,zzZ,Bool.not_eq_true',decide_eq_false_iff_not,Bool.not_eq_false',Bool.or_eq_false_iff,Bool.and_eq_false_iff,ne_eq]
 repeat' (first | rfl | (exfalso; omega; done) | split)
 all_goals (first | rfl | (exfalso; omega) | omega | simp_all | (simp_all; omega))
theorem VW {x:Attr} (hx:PE x):IZ x=some (
 if x.Names.length=0 then (if -1000000<=x.Low∧x.Low<=x.High∧x.High<=1000000 then 0 else 6) else
 if I3 x.Names≠0 then I3 x.Names else if x.Low=0∧x.High=x.Names.length - 1 then 0 else 6):=by
 have hl2:=hx.names
 have hw:A8 (x.Names.length - 1)=x.Names.length - 1:=BO (by omega) (by omega)
 unfold IZ E7
 simp only [bs,hw,cd hx.each]
 generalize I3 x.Names=e
 simp only [bs,zzX,Bool.or_eq_true,zzZ,Bool.not_eq_true',decide_eq_false_iff_not,Bool.not_eq_false',Bool.or_eq_false_iff,Bool.and_eq_false_iff,ne_eq]
 repeat' (first | rfl | (exfalso; omega; done) | split)
 all_goals (first | rfl | (exfalso; omega) | omega | simp_all | (simp_all; omega))
def ID (t:AD) (i:Int):Int:=
 let n:=AB t.Nodes i
 if GK n.Name=false then 2 else if anyR (fun j=>(AB t.Nodes j).Name==n.Name) 0 i=true then 5 else
 if n.Parent < -1∨i<=n.Parent then 6 else if 4<n.Attrs.length∨8<(BR t i).length then 3 else
 (fst (fun k=>nz (Kl (BR t i) k)) ((BR t i).length - n.Attrs.length) (BR t i).length).getD 0
theorem RN {t:AD} {i:Int} (h0:0<=i):(AB t.Nodes i).Attrs.length<=(BR t i).length:=by
 unfold BR
 rw [show (i+1).toNat=i.toNat+1 by omega,CP,if_neg (by omega),List.length_append]
 omega
theorem GG.next {t:AD} {i:Int} (h:GG t i) (h1:-1<=par t i) (h2:par t i<i):GG t (i+1):=by
 intro j k1 k2
 by_cases hj:j=i
 ·subst hj; exact ⟨h1,h2⟩
 ·exact h j k1 (by omega)
theorem eo {t:AD} (hf:CA t) {i:Int} (h0:0<=i) (h1:i<t.Nodes.length) (hp:GG t i):Ih t i=some (ID t i):=by
 have hn:=hf.name _ (AS h0 h1)
 unfold Ih ID
 dsimp only
 rw [AL h0 h1,bs,Ot (by omega),bs,L7 h0 (by omega),bs,show (fun y0=>Ll y0 (AB t.Nodes i))=(fun y0=>some (y0.Name==(AB t.Nodes i).Name)) from rfl,VG,bs,OU h0 (by omega)]
 cases GK (AB t.Nodes i).Name
 ·rfl
 ·cases anyR (fun j=>(AB t.Nodes j).Name==(AB t.Nodes i).Name) 0 i
  ·by_cases hr:(AB t.Nodes i).Parent < -1∨i<=(AB t.Nodes i).Parent
   ·rcases hr with hr | hr <;> simp [hr]
   ·have hp':GG t (i+1):=hp.next (by unfold par; omega) (by unfold par; omega)
    have hr2:(decide ((AB t.Nodes i).Parent < -1)||decide (i<=(AB t.Nodes i).Parent))=false:=by
     rw [Bool.eq_false_iff]; simpa using hr
    rw [Vz hf (k:=i+1) (by omega) hp' h0 (by omega),bs]
    have hlen:=LI hf (k:=i+1) (a:=i) (by omega) hp' (by omega)
    have hsub:=RN (t:=t) h0
    have hfew:=LH hf (k:=i+1) (a:=i) (by omega) hp' (by omega)
    rw [BO (by omega) (by omega),DN (fun k=>nz (Kl (BR t i) k)),GP]
    ·simp only [hr2,hr,Bool.not_true,Bool.false_eq_true,if_false]
     simp only [bs,zzX,Bool.or_eq_true,zzZ,Bool.not_eq_true',decide_eq_false_iff_not,Bool.not_eq_false',Bool.or_eq_false_iff,Bool.and_eq_false_iff,ne_eq]
     repeat' (first | rfl | (exfalso; omega; done) | split)
     all_goals (first | rfl | (exfalso; omega) | omega | simp_all | (simp_all; omega))
    ·intro k k1 k2 _
     rw [AL (by omega) k2,bs,L7 (by omega) (by omega),bs,VT hfew (by omega) k2,bs,OH]
  ·rfl
theorem fB {t:AD} (hf:CA t) {i:Int} (h0:0<=i) (h1:i<t.Nodes.length) (hp:GG t i):LZ t i=some (ID t i):=by
 have hn:=hf.name _ (AS h0 h1)
 have hl:=hf.nodes
 unfold LZ ID E7
 dsimp only
 rw [AL h0 h1,bs,Ov (by omega),bs,C1 (fun j=>(AB t.Nodes j).Name==(AB t.Nodes i).Name) 5]
 ·cases GK (AB t.Nodes i).Name
  ·rfl
  ·cases anyR (fun j=>(AB t.Nodes j).Name==(AB t.Nodes i).Name) 0 i
   ·simp only [Bool.not_true,Bool.false_eq_true,if_false,EW,bs]
    rw [BO (by omega) (by omega)]
    by_cases hr:(AB t.Nodes i).Parent < -1∨i<=(AB t.Nodes i).Parent
    ·rw [if_pos,if_neg (by decide),if_pos hr]
     simp; omega
    ·have hp':GG t (i+1):=hp.next (by unfold par; omega) (by unfold par; omega)
     rw [if_neg (by simp; omega),if_neg (by decide),if_neg hr]
     rw [V3 hf (k:=i+1) (by omega) hp' h0 (by omega),bs]
     have hlen:=LI hf (k:=i+1) (a:=i) (by omega) hp' (by omega)
     have hsub:=RN (t:=t) h0
     have hfew:=LH hf (k:=i+1) (a:=i) (by omega) hp' (by omega)
     rw [BO (by omega) (by omega)]
     rw [DN (fun k=>nz (Kl (BR t i) k)),GP]
     ·simp only [bs,zzX,Bool.or_eq_true,zzZ,Bool.not_eq_true',decide_eq_false_iff_not,Bool.not_eq_false',Bool.or_eq_false_iff,Bool.and_eq_false_iff,ne_eq]
      repeat' (first | rfl | (exfalso; omega; done) | split)
      all_goals (first | rfl | (exfalso; omega) | omega | simp_all | (simp_all; omega))
     ·intro k k1 k2 _
      have hx:=hfew _ (AS (show 0<=k by omega) k2)
      have hxn:=hx.name
      simp only [AL (show 0<=k by omega) k2,bs]
      rw [Ov (by omega),bs,C1 (fun j=>(AB (BR t i) j).Name==(AB (BR t i) k).Name) 5]
      ·rw [VW hx]
       simp only [bs,OH]
       unfold Kl
       dsimp only
       cases GK (AB (BR t i) k).Name
       ·rfl
       ·cases anyR (fun j=>(AB (BR t i) j).Name==(AB (BR t i) k).Name) 0 k <;> rfl
      ·intro j j1 j2 _
       rw [AL j1 (by omega),bs]
       split <;> rfl
   ·rfl
 ·intro j k1 k2 _
  rw [AL k1 (by omega),bs]
  split <;> rfl
def LJ (low high:Int):Bool:=((decide (0<=low))&&(decide (low<=40)))&&((decide (high=(-1)))||((decide (low<=high))&&(decide (high<=40))))
theorem cb (low high:Int):Jf low high=some (LJ low high):=by
 unfold Jf LJ E7
 simp only [bs]
 cases (decide (0<=low)&&decide (low<=40)) <;> cases decide (high=-1) <;> rfl
def It (t:AD) (i:Int):Int:=
 let x:=AB t.Edges i
 if GK x.Name=false then 2 else if anyR (fun j=>(AB t.Edges j).Name==x.Name) 0 i=true then 5 else
 if (0<=x.From∧x.From<t.Nodes.length)∧(0<=x.To∧x.To<t.Nodes.length)∧LJ x.OutLow x.OutHigh=true∧LJ x.InLow x.InHigh=true then 0 else 6
theorem eg {t:AD} (hf:CA t) {i:Int} (h0:0<=i) (h1:i<t.Edges.length):Ig t i=some (It t i):=by
 have hn:=hf.ename _ (AS h0 h1)
 unfold Ig It J8
 dsimp only
 rw [AL h0 h1,bs,Ot (by omega),bs,L7 h0 (by omega),bs,show (fun y0=>Lk y0 (AB t.Edges i))=(fun y0=>some (y0.Name==(AB t.Edges i).Name)) from rfl,VF,bs,OU h0 (by omega)]
 simp only [show ∀ a b,Jb a b=some (LJ a b) from fun _ _=>rfl,bs]
 generalize GK (AB t.Edges i).Name=b1
 generalize anyR (fun j=>(AB t.Edges j).Name==(AB t.Edges i).Name) 0 i=b2
 generalize LJ (AB t.Edges i).OutLow (AB t.Edges i).OutHigh=b3
 generalize LJ (AB t.Edges i).InLow (AB t.Edges i).InHigh=b4
 cases b1
 ·rfl
 ·cases b2
  ·cases b3 <;> cases b4
   all_goals
    by_cases ha:0<=(AB t.Edges i).From∧(AB t.Edges i).From<t.Nodes.length
    ·by_cases hb:0<=(AB t.Edges i).To∧(AB t.Edges i).To<t.Nodes.length
     ·simp [ha,hb]
     ·have:(decide (0<=(AB t.Edges i).To)&&decide ((AB t.Edges i).To<t.Nodes.length))=false:=by rw [Bool.eq_false_iff]; simpa using hb
      simp [ha,hb,this]
    ·have:(decide (0<=(AB t.Edges i).From)&&decide ((AB t.Edges i).From<t.Nodes.length))=false:=by rw [Bool.eq_false_iff]; simpa using ha
     simp [ha,this]
  ·rfl
theorem e9 {t:AD} (hf:CA t) {i:Int} (h0:0<=i) (h1:i<t.Edges.length):LY t i=some (It t i):=by
 have hn:=hf.ename _ (AS h0 h1)
 have hl:=hf.nodes
 unfold LY It E7
 dsimp only
 rw [AL h0 h1,bs,Ov (by omega),bs,C1 (fun j=>(AB t.Edges j).Name==(AB t.Edges i).Name) 5]
 ·simp only [BO (show -9223372036854775808<=(t.Nodes.length:Int) - 1 by omega) (by omega),cb,bs]
  generalize GK (AB t.Edges i).Name=b1
  generalize anyR (fun j=>(AB t.Edges j).Name==(AB t.Edges i).Name) 0 i=b2
  generalize LJ (AB t.Edges i).OutLow (AB t.Edges i).OutHigh=b3
  generalize LJ (AB t.Edges i).InLow (AB t.Edges i).InHigh=b4
  cases b1
  ·rfl
  ·cases b2
   ·cases b3 <;> cases b4
    all_goals
     by_cases ha:0<=(AB t.Edges i).From∧(AB t.Edges i).From<t.Nodes.length
     ·have ha':(AB t.Edges i).From<=(t.Nodes.length:Int) - 1:=by omega
      by_cases hb:0<=(AB t.Edges i).To∧(AB t.Edges i).To<t.Nodes.length
      ·have hb':(AB t.Edges i).To<=(t.Nodes.length:Int) - 1:=by omega
       simp [ha,hb,ha',hb',EW]
      ·have:(decide (0<=(AB t.Edges i).To)&&decide ((AB t.Edges i).To<=(t.Nodes.length:Int) - 1))=false:=by rw [Bool.eq_false_iff]; simp; omega
       simp [ha,hb,ha',this,EW]
     ·have:(decide (0<=(AB t.Edges i).From)&&decide ((AB t.Edges i).From<=(t.Nodes.length:Int) - 1))=false:=by rw [Bool.eq_false_iff]; simp; omega
      simp [ha,this,EW]
   ·rfl
 ·intro j k1 k2 _
  rw [AL k1 (by omega),bs]
  split <;> rfl
def BJ (t:AD):ByteArray × Int:=
 if t.Nodes.length=0 then (⟨#[]⟩,7) else if 12<t.Nodes.length∨20<t.Edges.length then (⟨#[]⟩,3) else
 match fst (fun i=>(nz (ID t i)).map fun e=>((AB t.Nodes i).Name,e)) 0 t.Nodes.length with
 | some r=>r
 | none=>(fst (fun i=>(nz (It t i)).map fun e=>((AB t.Edges i).Name,e)) 0 t.Edges.length).getD (⟨#[]⟩,0)
theorem X2 {t:AD} {i:Int} (h:ID t i=0):-1<=par t i∧par t i<i:=by
 unfold ID at h
 dsimp only at h
 unfold par
 by_cases hr:(AB t.Nodes i).Parent < -1∨i<=(AB t.Nodes i).Parent
 ·rw [if_pos hr] at h
  split at h
  ·cases h
  ·split at h <;> cases h
 ·omega
theorem L0 {α β:Type} {o:Option α} {g:α->β}:o.map g=none↔o=none:=by cases o <;> simp
theorem Q8 {t:AD} {i:Int} (h:∀ j,0<=j->j<i->ID t j=0):GG t i:=fun j h1 h2=>X2 (h j h1 h2)
theorem P3 {ρ:Type} (e:Int) (n:ByteArray):(if (!decide (e=0))=true then some (CY.ret (n,e)) else some (CY.next ()))=some (N5 ((nz e).map fun e=>(n,e))):=by
 unfold nz
 by_cases h:e=0 <;> simp [h,N5]
theorem P7 {t:AD} (hf:CA t):FR t=some (BJ t):=by
 unfold FR BJ
 rw [DN (fun i=>(nz (ID t i)).map fun e=>((AB t.Nodes i).Name,e)),Hr]
 ·rw [DN (fun i=>(nz (It t i)).map fun e=>((AB t.Edges i).Name,e)),Hr]
  ·cases fst (fun i=>(nz (ID t i)).map fun e=>((AB t.Nodes i).Name,e)) 0 t.Nodes.length <;> cases fst (fun i=>(nz (It t i)).map fun e=>((AB t.Edges i).Name,e)) 0 t.Edges.length
   all_goals dsimp only
   all_goals try simp only [Option.getD]
   all_goals
    simp only [bs,zzX,Bool.or_eq_true,zzZ,Bool.not_eq_true',decide_eq_false_iff_not,Bool.not_eq_false',Bool.or_eq_false_iff,Bool.and_eq_false_iff,ne_eq]
    repeat' (first | rfl | (exfalso; omega; done) | split)
    all_goals (first | rfl | (exfalso; omega) | omega | simp_all | (simp_all; omega))
  ·intro i h1 h2 _
   rw [AL h1 h2,bs,eg hf h1 h2,bs]
   exact P3 (ρ:=Unit) _ _
 ·intro i h1 h2 h3
  have hp:GG t i:=Q8 fun j k1 k2=>Mz.1 (L0.1 (h3 j k1 k2))
  rw [AL h1 h2,bs,eo hf h1 h2 hp,bs]
  exact P3 (ρ:=Unit) _ _
theorem SZ {t:AD} (hf:CA t):Il t=some (BJ t):=by
 unfold Il BJ
 rw [DN (fun i=>(nz (ID t i)).map fun e=>((AB t.Nodes i).Name,e)),Hr]
 ·rw [DN (fun i=>(nz (It t i)).map fun e=>((AB t.Edges i).Name,e)),Hr]
  ·cases fst (fun i=>(nz (ID t i)).map fun e=>((AB t.Nodes i).Name,e)) 0 t.Nodes.length <;> cases fst (fun i=>(nz (It t i)).map fun e=>((AB t.Edges i).Name,e)) 0 t.Edges.length
   all_goals dsimp only
   all_goals try simp only [Option.getD]
   all_goals
    simp only [bs,zzX,Bool.or_eq_true,zzZ,Bool.not_eq_true',decide_eq_false_iff_not,Bool.not_eq_false',Bool.or_eq_false_iff,Bool.and_eq_false_iff,ne_eq]
    repeat' (first | rfl | (exfalso; omega; done) | split)
    all_goals (first | rfl | (exfalso; omega) | omega | simp_all | (simp_all; omega))
  ·intro i h1 h2 _
   simp only [e9 hf h1 h2,AL h1 h2,bs]
   exact P3 (ρ:=Unit) _ _
 ·intro i h1 h2 h3
  have hp:GG t i:=Q8 fun j k1 k2=>Mz.1 (L0.1 (h3 j k1 k2))
  simp only [fB hf h1 h2 hp,AL h1 h2,bs]
  exact P3 (ρ:=Unit) _ _
end Go.Sf.Sc
namespace Go.Sf.Sc
open Go Go.Sf
theorem Jx {α:Type} {c:Bool} {a b:α}:(if c=true then some a else some b)=some (if c=true then a else b):=by cases c <;> rfl
def KD (n:Int):Bool:=(decide (0<=n))&&(decide (n<=99))
def Od (e:DQ) (n:Int):Bool:=KD e.Type'&&(decide (0<=e.From)&&decide (e.From<n))&&(decide (0<=e.To)&&decide (e.To<n))
def C5 (g:Graph):Int:=
 if 40<g.Nodes.length∨80<g.Edges.length then 3 else if (g.Nodes.any fun n=>!KD n)=true then 6 else if (g.Edges.any fun e=>!Od e g.Nodes.length)=true then 6 else 0
structure Jd (g:Graph):Prop where
 nodes:g.Nodes.length<=40
 edges:g.Edges.length<=80
 kind:∀ n∈g.Nodes,0<=n∧n<=99
 fit:∀ e∈g.Edges,(0<=e.Type'∧e.Type'<=99)∧(0<=e.From∧e.From<g.Nodes.length)∧(0<=e.To∧e.To<g.Nodes.length)
theorem F7 {g:Graph} (h:C5 g=0):Jd g:=by
 unfold C5 at h
 split at h
 ·cases h
 ·split at h
  ·cases h
  ·split at h
   ·cases h
   ·rename_i h1 h2 h3
    refine ⟨by omega,by omega,fun n hn=>?_,fun e he=>?_⟩
    ·rw [Bool.not_eq_true,List.any_eq_false] at h2
     have:=h2 n hn
     simp [KD] at this
     exact this
    ·rw [Bool.not_eq_true,List.any_eq_false] at h3
     have:=h3 e he
     simp only [Od,KD,Bool.not_eq_true',Bool.not_eq_false,zzZ,zzX] at this
     omega
theorem ej {e:DQ} {n:Nat} (h:n<=40):LT e n=some (Od e n):=by
 unfold LT H5 Od KD
 simp only [bs,BO (show -9223372036854775808<=(n:Int) - 1 by omega) (by omega)]
 have e1:decide (e.From<=(n:Int) - 1)=decide (e.From<n):=by rw [decide_eq_decide]; omega
 have e2:decide (e.To<=(n:Int) - 1)=decide (e.To<n):=by rw [decide_eq_decide]; omega
 rw [e1,e2]
 generalize (decide (0<=e.Type')&&decide (e.Type'<=99))=b1
 generalize (decide (0<=e.From)&&decide (e.From<n))=b2
 cases b1 <;> cases b2 <;> simp
theorem M0 (g:Graph):EE g=some (C5 g):=by
 unfold EE C5
 by_cases h:40<g.Nodes.length∨80<g.Edges.length
 ·rw [if_pos (by simp; omega),if_pos h]
 ·rw [if_neg (by simp; omega),if_neg h,show Kn=(fun n=>some (!KD n)) from rfl,Xl,Vi (p:=fun e=>!Od e g.Nodes.length) (fun e _=>by
   unfold Ko
   rw [ej (by omega)]; rfl)]
  simp only [bs]
  cases g.Nodes.any fun n=>!KD n
  ·cases g.Edges.any fun e=>!Od e g.Nodes.length <;> rfl
  ·rfl
theorem OI (g:Graph):G7 g=some (C5 g):=by
 unfold G7 C5
 by_cases h:40<g.Nodes.length∨80<g.Edges.length
 ·rw [if_pos (by simp; omega),if_pos h]
 ·rw [if_neg (by simp; omega),if_neg h,JX,JX,C1 (fun i=>!KD (AB g.Nodes i)) 6]
  ·rw [C1 (fun i=>!Od (AB g.Edges i) g.Nodes.length) 6]
   ·cases anyR (fun i=>!KD (AB g.Nodes i)) 0 g.Nodes.length
    ·cases anyR (fun i=>!Od (AB g.Edges i) g.Nodes.length) 0 g.Edges.length <;> rfl
    ·rfl
   ·intro i h1 h2 _
    rw [AL h1 h2,bs]
    unfold MG Od
    simp only [show ∀ n,KF n=some (KD n) from fun _=>rfl,bs]
    generalize KD (AB g.Edges i).Type'=b1
    cases b1 <;> cases decide (0<=(AB g.Edges i).From) <;> cases decide ((AB g.Edges i).From<g.Nodes.length) <;> cases decide (0<=(AB g.Edges i).To) <;> cases decide ((AB g.Edges i).To<g.Nodes.length) <;> rfl
  ·intro i h1 h2 _
   rw [AL h1 h2,bs,show KF (AB g.Nodes i)=some (KD (AB g.Nodes i)) from rfl,bs]
   cases KD (AB g.Nodes i) <;> rfl
def FQ (t:AD) (g:Graph):Bool:=!(g.Nodes.any fun n=>decide (t.Nodes.length<=n))&&!(g.Edges.any fun e=>decide (t.Edges.length<=e.Type'))
theorem L8 {t:AD} {g:Graph} (hg:Jd g) (h:FQ t g=true):(∀ n∈g.Nodes,0<=n∧n<t.Nodes.length)∧∀ e∈g.Edges,0<=e.Type'∧e.Type'<t.Edges.length:=by
 unfold FQ at h
 simp only [zzZ,Bool.not_eq_true',List.any_eq_false,zzX] at h
 refine ⟨fun n hn=>?_,fun e he=>?_⟩
 ·have:=h.1 n hn
  have:=hg.kind n hn
  omega
 ·have:=h.2 e he
  have:=hg.fit e he
  omega
theorem Sa {t:AD} {g:Graph} (hg:Jd g):Im t g=some (FQ t g):=by
 unfold Im FQ
 rw [JX,JX,C1 (fun i=>decide (t.Nodes.length<=AB g.Nodes i)) false]
 ·rw [C1 (fun i=>decide (t.Edges.length<=(AB g.Edges i).Type')) false]
  ·cases anyR (fun i=>decide (t.Nodes.length<=AB g.Nodes i)) 0 g.Nodes.length
   ·cases anyR (fun i=>decide (t.Edges.length<=(AB g.Edges i).Type')) 0 g.Edges.length <;> rfl
   ·rfl
  ·intro i h1 h2 _
   have:=(hg.fit _ (AS h1 h2)).1.1
   simp only [AL h1 h2,bs]
   rw [if_neg (by simp; omega),bs,Jx]
 ·intro i h1 h2 _
  have:=(hg.kind _ (AS h1 h2)).1
  simp only [AL h1 h2,bs]
  rw [if_neg (by simp; omega),bs,Jx]
structure IH (t:AD):Prop where
 nodes:t.Nodes.length<=12
 edges:t.Edges.length<=20
 node:∀ i:Int,0<=i->i<t.Nodes.length->ID t i=0
 edge:∀ i:Int,0<=i->i<t.Edges.length->It t i=0
theorem IK {t:AD} (h:(BJ t).2=0):IH t:=by
 unfold BJ at h
 split at h
 ·cases h
 ·split at h
  ·cases h
  ·rename_i h1 h2
   have hn:∀ i:Int,0<=i->i<t.Nodes.length->ID t i=0:=by
    split at h
    ·rename_i r hr
     obtain ⟨i,_,_,k3,_⟩:=CT hr
     unfold nz at k3
     split at k3
     ·cases k3
     ·rename_i hne
      cases k3; exact absurd h hne
    ·rename_i hr
     intro i k1 k2
     exact Mz.1 (L0.1 (C2.1 hr i k1 k2))
   have he:∀ i:Int,0<=i->i<t.Edges.length->It t i=0:=by
    split at h
    ·rename_i r hr
     obtain ⟨i,k1,k2,k3,_⟩:=CT hr
     rw [hn i k1 k2] at k3
     cases k3
    ·cases hr:fst (fun i=>(nz (It t i)).map fun e=>((AB t.Edges i).Name,e)) 0 t.Edges.length with
     | some r=>
      rw [hr] at h
      obtain ⟨i,_,_,k3,_⟩:=CT hr
      unfold nz at k3
      split at k3
      ·cases k3
      ·rename_i hne
       cases k3; exact absurd h hne
     | none=>
      intro i k1 k2
      exact Mz.1 (L0.1 (C2.1 hr i k1 k2))
   exact ⟨by omega,by omega,hn,he⟩
theorem IH.par {t:AD} (h:IH t):GG t t.Nodes.length:=Q8 h.node
theorem IH.ends {t:AD} (h:IH t) {i:Int} (h0:0<=i) (h1:i<t.Edges.length):(0<=(AB t.Edges i).From∧(AB t.Edges i).From<t.Nodes.length)∧(0<=(AB t.Edges i).To∧(AB t.Edges i).To<t.Nodes.length):=by
 have:=h.edge i h0 h1
 unfold It at this
 dsimp only at this
 split at this
 ·cases this
 ·split at this
  ·cases this
  ·split at this
   ·rename_i hc; exact ⟨hc.1,hc.2.1⟩
   ·cases this
def Ir (t:AD) (a:Int):Bool:=decide (0<=a)&&decide (a<t.Nodes.length)
theorem Mx {t:AD} {a:Int}:Ir t a=true↔0<=a∧a<t.Nodes.length:=by unfold Ir; simp
theorem SY {t:AD} (hf:CA t) (l:List Int):GF t l=some (if (BJ t).2≠0 then (BJ t).2 else if (l.all (Ir t))=true then 0 else 6):=by
 unfold GF
 rw [P7 hf,bs,RQ (p:=fun a=>!Ir t a) (fun a _=>by unfold Kt Ir; rw [show decide (a<0)=!decide (0<=a) from by rw [←decide_not,decide_eq_decide]; omega,show decide ((t.Nodes.length:Int)<=a)=!decide (a<t.Nodes.length) from by rw [←decide_not,decide_eq_decide]; omega,Bool.not_and]),bs]
 rw [show (l.any fun a=>!Ir t a)=!(l.all (Ir t)) from by rw [List.all_eq_not_any_not,Bool.not_not]]
 cases l.all (Ir t) <;> by_cases h:(BJ t).2=0 <;> simp [h]
theorem cc {t:AD} (hf:CA t) (a b:Int):Kc t a b=some (if (BJ t).2≠0 then (BJ t).2 else if (Ir t a&&Ir t b)=true then 0 else 6):=by
 have hl:=hf.nodes
 have e:∀ a,decide (a<=(t.Nodes.length:Int) - 1)=decide (a<(t.Nodes.length:Int)):=fun a=>by rw [decide_eq_decide]; omega
 unfold Kc E7
 rw [SZ hf,bs]
 simp only [BO (show -9223372036854775808<=(t.Nodes.length:Int) - 1 by omega) (by omega),bs,e]
 change (if (!decide ((BJ t).snd=0))=true then some (BJ t).snd else (if (!Ir t a)=true then some true else some (!Ir t b)).bind fun x32=>if x32=true then some 6 else some 0)=_
 cases Ir t a <;> cases Ir t b <;> by_cases h:(BJ t).2=0 <;> simp [h]
theorem YU {α:Type} [Inhabited α] {l:List α} {i:Int} (h0:0<=i) (h1:i<l.length):CB l i (AB l i)=l:=by
 unfold CB AB
 rw [List.getD_eq_getElem?_getD,List.getElem?_eq_getElem (by omega)]
 exact List.set_getElem_self _
theorem HP {α:Type} [Inhabited α] {l:List α} {i:Int} (h0:0<=i) (h1:i<l.length):l.take (i+1).toNat=l.take i.toNat++[AB l i]:=by
 unfold AB
 rw [show (i+1).toNat=i.toNat+1 by omega,List.take_add_one,List.getD_eq_getElem?_getD,List.getElem?_eq_getElem (by omega)]
 rfl
theorem JI {α:Type} {l:List α} (h:l.length<=B9):CX [] l=some l:=by rw [DU (by simpa using h)]; rfl
def IN (t:AD) (a:Int):List Attr × Int:=if (BJ t).2≠0 then ([],(BJ t).2) else if Ir t a=true then (BR t a,0) else ([],6)
theorem Vy {t:AD} (hf:CA t) (a:Int):HC t a=some (IN t a):=by
 unfold HC IN
 rw [SY hf,bs]
 by_cases h:(BJ t).2=0
 ·have hok:=IK h
  have e:[a].all (Ir t)=Ir t a:=by simp
  rw [e]
  simp only [h,ne_eq,not_true_eq_false,if_false]
  cases hi:Ir t a
  ·rfl
  ·rw [if_pos rfl,if_pos rfl]
   have hr:=Mx.1 hi
   have hl:=LI hf (Int.le_refl _) hok.par hr.2
   have hw:=LH hf (Int.le_refl _) hok.par hr.2
   rw [if_neg (by decide),Vz hf (Int.le_refl _) hok.par hr.1 hr.2,bs]
   obtain ⟨s',h1,rfl⟩:=UC (f:=(fun (i0:Int) (s0:List Attr)=>
 (AM s0 i0).bind fun x28=>
 (slices_Clone_string x28.Names).bind fun x31=>
 (AM s0 i0).bind fun x32=>
 some (CB s0 i0 (Attr.mk x32.Name x32.Low x32.High x31)))) (fun _ s=>s=BR t a) (a:=0) (b:=(BR t a).length) (s:=BR t a) (by omega) rfl (fun i s k1 k2 hs=>by
     subst hs
     have:=(hw _ (AS k1 k2)).names
     refine ⟨BR t a,?_,rfl⟩
     unfold slices_Clone_string
     rw [AL k1 k2,bs,JI (by unfold B9; omega),bs,bs]
     congr 1
     exact YU k1 k2)
   rw [h1]; rfl
 ·simp only [h,ne_eq,not_false_eq_true,if_true,decide_false,Bool.not_false]
theorem cY {t:AD} (hf:CA t) (a:Int):Kb t a=some (IN t a):=by
 unfold Kb IN
 rw [cc hf,bs]
 by_cases h:(BJ t).2=0
 ·have hok:=IK h
  rw [Bool.and_self]
  simp only [h,ne_eq,not_true_eq_false,if_false]
  cases hi:Ir t a
  ·rfl
  ·rw [if_pos rfl,if_pos rfl]
   have hr:=Mx.1 hi
   have hl:=LI hf (Int.le_refl _) hok.par hr.2
   have hw:=LH hf (Int.le_refl _) hok.par hr.2
   rw [if_neg (by decide),V3 hf (Int.le_refl _) hok.par hr.1 hr.2,bs]
   rw [Hz (fun i=>(BR t a).take i.toNat) (by omega) (by simp)]
   ·rw [bs,Int.toNat_natCast,List.take_length]
   ·intro i k1 k2
    have:=(hw _ (AS k1 k2)).names
    rw [AL k1 k2,bs,JI (by unfold B9; omega),bs,DU (by rw [List.length_take]; simp; unfold B9; omega),HP k1 k2]
    rfl
 ·simp only [h,ne_eq,not_false_eq_true,if_true,decide_false,Bool.not_false]
end Go.Sf.Sc
namespace Go.Sf.Sc
open Go Go.Sf
def N2 (t:AD):Nat->Int->List Int
 | 0,_=>[]
 | n+1,a=>if a<0 then [] else a::N2 t n (par t a)
theorem WH (t:AD):∀ (n:Nat) (a:Int),(N2 t n a).length<=n
 | 0,_=>by simp [N2]
 | n+1,a=>by
  rw [N2]
  split
  ·simp
  ·have:=WH t n (par t a); simp; omega
def Jy (t:AD) (a b:Int):Bool:=(N2 t (a+1).toNat a).any fun x=>decide (b=x)
theorem Vu {t:AD} (h12:t.Nodes.length<=12) (hp:GG t t.Nodes.length):∀ (n:Nat) (a:Int) (l:List Int),a<t.Nodes.length->a<n->l.length+n<=1000 ->
  ∃ x,Lt (ρ:=List Int) (fun (s0:Int × List Int)=>
 if (decide (0<=s0.1))=true then
 (CX s0.2 [s0.1]).bind fun x17=>
 (AM t.Nodes s0.1).bind fun x11=>
 some (.next (x11.Parent,x17))
 else
 some (.brk (s0.1,s0.2))) (a,l) (.inl (x,l++N2 t n a))
 | 0,a,l,h1,h2,_=>by
  refine ⟨a,.brk ?_⟩
  rw [if_neg (by simp; omega)]
  simp [N2]
 | n+1,a,l,h1,h2,h3=>by
  by_cases h0:a<0
  ·refine ⟨a,.brk ?_⟩
   rw [if_neg (by simp; omega)]
   simp [N2,h0]
  ·have hq:=hp a (by omega) h1
   obtain ⟨x,hx⟩:=Vu h12 hp n (par t a) (l++[a]) (by omega) (by omega) (by simp; omega)
   refine ⟨x,.next (s':=(par t a,l++[a])) ?_ ?_⟩
   ·rw [if_pos (by simp; omega),DU (by simp; unfold B9; omega),bs,AL (by omega) h1]; rfl
   ·rw [N2,if_neg h0,show l++a::N2 t n (par t a)=(l++[a])++N2 t n (par t a) by simp]
    exact hx
theorem Ze {t:AD} (h:IH t) {a b:Int} (ha:0<=a) (ha2:a<t.Nodes.length):Ip t a b=some (Jy t a b):=by
 have h12:=h.nodes
 obtain ⟨x,hx⟩:=Vu h12 h.par (a+1).toNat a [] ha2 (by omega) (by simp; omega)
 have hl:=WH t (a+1).toNat a
 unfold Ip JR
 rw [hx.eq,EW]
 simp only [List.nil_append]
 unfold slices_Reverse_int
 rw [if_pos (by unfold B9; omega)]
 simp only [bs]
 rw [T1,bs]
 unfold Jy
 rw [List.any_reverse]
def Tg (t:AD) (e f g:Int):Bool:=
 decide ((BJ t).2=0)&&(Ir t f&&Ir t g)&&(decide (0<=e)&&decide (e<t.Edges.length))&&(Jy t f (AB t.Edges e).From&&Jy t g (AB t.Edges e).To)
theorem ed {t:AD} (hf:CA t) (e f g:Int):If t e f g=some (Tg t e f g):=by
 unfold If Tg
 rw [SY hf,bs,show [f,g].all (Ir t)=(Ir t f&&Ir t g) by simp]
 by_cases h:(BJ t).2=0
 ·simp only [h,ne_eq,not_true_eq_false,if_false]
  have hok:=IK h
  cases hi:(Ir t f&&Ir t g)
  ·rfl
  ·rw [zzZ,Mx,Mx] at hi
   by_cases he:0<=e∧e<t.Edges.length
   ·rw [if_neg (by simp; omega),AL he.1 he.2]
    simp only [bs,Ze hok hi.1.1 hi.1.2,Ze hok hi.2.1 hi.2.2,he.1,he.2,decide_true,Bool.true_and]
    cases Jy t f (AB t.Edges e).From <;> rfl
   ·rw [if_pos (by simp; omega)]
    have:(decide (0<=e)&&decide (e<t.Edges.length))=false:=by rw [Bool.eq_false_iff]; simpa using he
    rw [this]; simp
 ·simp [h]
def Lh (n:Int) (x:Term):Bool:=(((decide ((-1)<=x.Var))&&(decide (x.Var<n)))&&(decide ((-1000000)<=x.Add)))&&(decide (x.Add<=1000000))
def Ks (n:Int) (x:Test):Int:=if ¬ x.Kind=1∧¬ x.Kind=2 then 1 else if (Lh n x.Left&&Lh n x.Right)=true then 0 else 6
def Ic (n:Int) (l:List Test):Int:=if n<0∨12<n then 6 else if 40<l.length then 3 else (fst (fun i=>nz (Ks n (AB l i))) 0 l.length).getD 0
theorem eu (n:Int) (x:Test):I0 n x=some (Ks n x):=by
 unfold I0 Ks
 simp only [show ∀ n x,IQ n x=some (Lh n x) from fun _ _=>rfl,bs]
 generalize Lh n x.Left=b1
 generalize Lh n x.Right=b2
 cases b1 <;> cases b2
 all_goals
  simp only [bs,zzX,Bool.or_eq_true,zzZ,Bool.not_eq_true',decide_eq_false_iff_not,Bool.not_eq_false',Bool.or_eq_false_iff,Bool.and_eq_false_iff,ne_eq]
  repeat' (first | rfl | (exfalso; omega; done) | split)
  all_goals (first | rfl | (exfalso; omega) | omega | simp_all | (simp_all; omega))
theorem Zj (n:Int) (x:Term):I5 n x=some (if Lh n x=true then 0 else 6):=by
 unfold I5 Lh
 simp only [bs,zzX,Bool.or_eq_true,zzZ,Bool.not_eq_true',decide_eq_false_iff_not,Bool.not_eq_false',Bool.or_eq_false_iff,Bool.and_eq_false_iff,ne_eq]
 repeat' (first | rfl | (exfalso; omega; done) | split)
 all_goals (first | rfl | (exfalso; omega) | omega | simp_all | (simp_all; omega))
theorem fD (n:Int) (x:Test):MO n x=some (Ks n x):=by
 unfold MO Ks
 simp only [Zj,bs]
 generalize Lh n x.Left=b1
 generalize Lh n x.Right=b2
 cases b1 <;> cases b2
 all_goals
  simp only [bs,zzX,Bool.or_eq_true,zzZ,Bool.not_eq_true',decide_eq_false_iff_not,Bool.not_eq_false',Bool.or_eq_false_iff,Bool.and_eq_false_iff,ne_eq]
  repeat' (first | rfl | (exfalso; omega; done) | split)
  all_goals (first | rfl | (exfalso; omega) | omega | simp_all | (simp_all; omega))
theorem cV (n:Int) (l:List Test):H3 n l=some (Ic n l):=by
 unfold H3 Ic
 rw [DN (fun i=>nz (Ks n (AB l i))),GP]
 ·simp only [bs,zzX,Bool.or_eq_true,zzZ,Bool.not_eq_true',decide_eq_false_iff_not,Bool.not_eq_false',Bool.or_eq_false_iff,Bool.and_eq_false_iff,ne_eq]
  repeat' (first | rfl | (exfalso; omega; done) | split)
  all_goals (first | rfl | (exfalso; omega) | omega | simp_all | (simp_all; omega))
 ·intro i h1 h2 _
  rw [AL h1 h2,bs,eu,bs,OH]
theorem cg (n:Int) (l:List Test):Ka n l=some (Ic n l):=by
 unfold Ka Ic
 rw [DN (fun i=>nz (Ks n (AB l i))),GP]
 ·simp only [bs,zzX,Bool.or_eq_true,zzZ,Bool.not_eq_true',decide_eq_false_iff_not,Bool.not_eq_false',Bool.or_eq_false_iff,Bool.and_eq_false_iff,ne_eq]
  repeat' (first | rfl | (exfalso; omega; done) | split)
  all_goals (first | rfl | (exfalso; omega) | omega | simp_all | (simp_all; omega))
 ·intro i h1 h2 _
  rw [AL h1 h2,bs,fD,bs,OH]
def NZ (t:AD) (p:Pattern) (node ix:Int):Attr × Bool:=
 if node<0∨p.Graph.Nodes.length<=node then (default,false) else
 let l:=(IN t (AB p.Graph.Nodes node)).1
 if ix<0∨l.length<=ix then (default,false) else (AB l ix,true)
theorem RM {t:AD} (hf:CA t) (a:Int):(IN t a).1.length<=600∧((IN t a).2≠0->(IN t a).1=[]):=by
 unfold IN
 split
 ·simp
 ·rename_i h
  have hok:=IK (t:=t) (by omega)
  split
  ·rename_i hi
   exact ⟨LI hf (Int.le_refl _) hok.par (Mx.1 hi).2,by simp⟩
  ·simp
theorem cN {t:AD} (hf:CA t) {p:Pattern} (hg:Jd p.Graph) (s:D4):F4 t p s=some (NZ t p s.Node s.Attr):=by
 have hn:=hg.nodes
 unfold F4 NZ DL
 dsimp only
 rw [BO (by omega) (by omega),bs]
 by_cases h:s.Node<0∨p.Graph.Nodes.length<=s.Node
 ·rw [if_pos (by simp; omega),if_pos h]; rfl
 ·rw [if_neg (by simp; omega),if_neg h,AL (by omega) (by omega),bs,Vy hf,bs]
  have hl:=(RM hf (AB p.Graph.Nodes s.Node)).1
  rw [BO (by omega) (by omega),bs]
  by_cases h2:s.Attr<0∨(IN t (AB p.Graph.Nodes s.Node)).1.length<=s.Attr
  ·rw [if_pos (by simp; omega),if_pos h2]; rfl
  ·rw [if_neg (by simp; omega),if_neg h2,AL (by omega) (by omega)]; rfl
theorem cZ {t:AD} (hf:CA t) {p:Pattern} (node ix:Int):La t p node ix=some (NZ t p node ix):=by
 unfold La NZ
 dsimp only
 by_cases h:node<0∨p.Graph.Nodes.length<=node
 ·rw [if_pos (by simp; omega),if_pos h]; rfl
 ·rw [if_neg (by simp; omega),if_neg h,AL (by omega) (by omega),bs,cY hf,bs]
  have hl:=(RM hf (AB p.Graph.Nodes node)).2
  by_cases h2:ix<0∨(IN t (AB p.Graph.Nodes node)).1.length<=ix
  ·rw [if_pos (by simp; omega),if_pos h2]; rfl
  ·by_cases he:(IN t (AB p.Graph.Nodes node)).2=0
   ·rw [if_neg (by simp [he]; omega),if_neg h2,AL (by omega) (by omega)]; rfl
   ·rw [hl he] at h2; simp at h2; omega
end Go.Sf.Sc
namespace Go.Sf
variable {σ ρ:Type}
def fj (s:σ) (o:Option ρ):CY σ ρ:=match o with
 | none=>.next s
 | some r=>.ret r
def bG (s:σ) (o:Option ρ):σ ⊕ ρ:=match o with
 | none=>.inl s
 | some r=>.inr r
theorem UD {f:Int->σ->Option (CY σ ρ)} (g:Int->σ) (c:Int->Option ρ):∀ (n:Nat) (a:Int),
  (∀ i,a<=i->i<a+n->(∀ j,a<=j->j<i->c j=none)->f i (g i)=some (fj (g (i+1)) (c i)))->forGo f n a (g a)=some (bG (g (a+n)) (GA c n a))
 | 0,a,_=>by simp [forGo,GA,bG]
 | n+1,a,h=>by
  have h0:=h a (Int.le_refl _) (by omega) (fun j h1 h2=>by omega)
  rw [G3,h0,GA]
  cases hc:c a with
  | some r=>rfl
  | none=>
   simp only [fj]
   rw [show a+((n+1:Nat):Int)=a+1+n by omega]
   refine UD g c n (a+1) (fun i h1 h2 h3=>h i (by omega) (by omega) (fun j h4 h5=>?_))
   by_cases hj:j=a
   ·subst hj; exact hc
   ·exact h3 j (by omega) h5
theorem K5 {f:Int->σ->Option (CY σ ρ)} (g:Int->σ) (c:Int->Option ρ) {a b:Int} {s:σ} (hab:a<=b) (hs:s=g a) (h:∀ i,a<=i->i<b->(∀ j,a<=j->j<i->c j=none)->f i (g i)=some (fj (g (i+1)) (c i))):forR f a b s=some (bG (g b) (fst c a b)):=by
 subst hs
 unfold forR fst
 have:=UD g c (b - a).toNat a (fun i h1 h2 h3=>h i h1 (by omega) h3)
 rwa [show a+((b - a).toNat:Int)=b by omega] at this
variable {α:Type}
theorem Iq {e:Int} {X:Option Int} {Y:Int} (h:e=0->X=some Y):(if (!decide (e=0))=true then some e else X)=some (if e≠0 then e else Y):=by
 by_cases he:e=0
 ·simp [he,h he]
 ·simp [he]
theorem OY {e:Int} {v:α} {X:Option α} {Y:α} (h:e=0->X=some Y):(if (!decide (e=0))=true then some v else X)=some (if e≠0 then v else Y):=by
 by_cases he:e=0
 ·simp [he,h he]
 ·simp [he]
theorem O7 {P:Prop} [Decidable P] {b:Bool} {v:α} {X:Option α} {Y:α} (hb:b=true↔P) (h:¬ P->X=some Y):(if b=true then some v else X)=some (if P then v else Y):=by
 by_cases hp:P
 ·rw [if_pos (hb.2 hp),if_pos hp]
 ·rw [if_neg (fun h=>hp (hb.1 h)),if_neg hp,h hp]
theorem Vj {b:Bool} {v:α} {X:Option α} {Y:α} (h:b=true->X=some Y):(if (!b)=true then some v else X)=some (if b=false then v else Y):=by
 cases b
 ·rfl
 ·simpa using h rfl
theorem pk {b:Bool} {v:α} {X:Option α} {Y:α} (h:b=false->X=some Y):(if b=true then some v else X)=some (if b=true then v else Y):=by
 cases b
 ·simpa using h rfl
 ·rfl
end Go.Sf
namespace Go.Sf.Sc
open Go Go.Sf
def OW (t:AD) (p:Pattern) (s:D4):Bool:=!(NZ t p s.Node s.Attr).2||decide (s.Term.Var < -1)||decide (p.Vars<=s.Term.Var)||(decide (s.Term.Add < -1000000)||decide (1000000<s.Term.Add))
def J1 (p:Pattern) (v:Int):Bool:=p.Slots.any fun s=>decide (s.Term.Var=v)
def I4 (t:AD) (p:Pattern):Int:=
 if (BJ t).2≠0 then (BJ t).2 else if C5 p.Graph≠0 then C5 p.Graph else if FQ t p.Graph=false then 13 else
 if p.Vars<0∨12<p.Vars then 6 else if 10<p.Slots.length∨10<p.Tests.length then 3 else
 if (p.Slots.any (OW t p))=true then 6 else if Ic p.Vars p.Tests≠0 then Ic p.Vars p.Tests else
 if anyR (fun v=>!J1 p v) 0 p.Vars=true then 9 else 0
def JS (p:Pattern) (i:Int):List Bool:=(List.range p.Vars.toNat).map fun (v:Nat)=>(p.Slots.take i.toNat).any fun s=>decide (s.Term.Var=(v:Int))
theorem XT {p:Pattern}:JS p 0=List.replicate p.Vars.toNat false:=by
 unfold JS
 refine List.ext_getElem (by simp) (fun n h1 h2=>by simp)
theorem Yp (p:Pattern) (i:Int):(JS p i).length=p.Vars.toNat:=by simp [JS]
theorem Yq {p:Pattern} {i:Int} (h0:0<=i) (h1:i<p.Slots.length) (hv:0<=(AB p.Slots i).Term.Var):CB (JS p i) (AB p.Slots i).Term.Var true=JS p (i+1):=by
 unfold CB
 refine List.ext_getElem (by simp [JS]) (fun n k1 k2=>?_)
 simp only [JS,List.getElem_set,List.getElem_map,List.getElem_range,HP h0 h1,List.any_append,List.any_cons,List.any_nil,Bool.or_false]
 by_cases hn:(AB p.Slots i).Term.Var.toNat=n
 ·rw [if_pos hn,decide_eq_true (show (AB p.Slots i).Term.Var=(n:Int) by omega),Bool.or_true]
 ·rw [if_neg hn,decide_eq_false (show ¬ (AB p.Slots i).Term.Var=(n:Int) by omega),Bool.or_false]
theorem XS {p:Pattern} {i:Int} (h0:0<=i) (h1:i<p.Slots.length) (hv:(AB p.Slots i).Term.Var<0):JS p i=JS p (i+1):=by
 refine List.ext_getElem (by simp [JS]) (fun n k1 k2=>?_)
 simp only [JS,List.getElem_map,List.getElem_range,HP h0 h1,List.any_append,List.any_cons,List.any_nil,Bool.or_false]
 rw [decide_eq_false (show ¬ (AB p.Slots i).Term.Var=(n:Int) by omega),Bool.or_false]
theorem Yo (p:Pattern):((JS p p.Slots.length).any fun x=>false==x)=anyR (fun v=>!J1 p v) 0 p.Vars:=by
 rw [Bool.eq_iff_iff,List.any_eq_true,JH]
 simp only [JS,Int.toNat_natCast,List.take_length,List.mem_map,List.mem_range]
 constructor
 ·rintro ⟨x,⟨v,hv,rfl⟩,hx⟩
  refine ⟨v,by omega,by omega,?_⟩
  unfold J1
  revert hx
  cases p.Slots.any fun s=>decide (s.Term.Var=(v:Int)) <;> simp
 ·rintro ⟨v,h0,h1,hx⟩
  refine ⟨_,⟨v.toNat,by omega,rfl⟩,?_⟩
  rw [Int.toNat_of_nonneg h0]
  unfold J1 at hx
  revert hx
  cases p.Slots.any fun s=>decide (s.Term.Var=v) <;> simp
theorem bw {α ρ:Type} [Inhabited α] {l:List α} {q:α->Bool} {v:ρ}:fst (fun i=>if q (AB l i)=true then some v else none) 0 l.length=if l.any q=true then some v else none:=by
 rw [Nk,JX]
theorem Tl {t:AD} (hf:CA t) (p:Pattern):D6 t p=some (I4 t p):=by
 unfold D6 I4
 rw [P7 hf,bs,M0,bs]
 refine Iq fun ht=>Iq fun hg=>?_
 have hgo:=F7 hg
 have e:((BN p.Graph.Nodes (fun y0=>Hh y0 t)).bind fun x32=>
   (if x32=true then some true else ((B7 p.Graph.Edges (fun y0=>Hi y0 t)).bind fun x38=>some (x38))))=some (!FQ t p.Graph):=by
  unfold FQ
  rw [show (fun y0=>Hh y0 t)=(fun (n:Int)=>some (decide (t.Nodes.length<=n))) from rfl,Xl,show (fun y0=>Hi y0 t)=(fun (e:DQ)=>some (decide (t.Edges.length<=e.Type'))) from rfl,bf]
  simp only [bs]
  cases p.Graph.Nodes.any fun n=>decide (t.Nodes.length<=n) <;> simp
 rw [←Option.bind_assoc,e,bs]
 refine Vj fun htd=>?_
 unfold DL
 simp only [bs]
 refine O7 (by simp; try omega) fun hv=>O7 (by simp; try omega) fun hl=>?_
 unfold KM
 rw [if_pos (by omega),bs,←XT,BO (show -9223372036854775808<=p.Vars - 1 by omega) (by omega),K5 (JS p) (fun i=>if OW t p (AB p.Slots i)=true then some 6 else none) (by omega) rfl,bw]
 ·cases hb:p.Slots.any (OW t p)
  ·simp only [Bool.false_eq_true,if_false,bG,EW,cV,bs,bj,Yo]
   by_cases hte:Ic p.Vars p.Tests=0
   ·simp only [hte]
    cases anyR (fun v=>!J1 p v) 0 p.Vars <;> rfl
   ·simp [hte]
  ·rfl
 ·intro i h1 h2 _
  rw [AL h1 h2,bs,cN hf hgo,bs]
  unfold OW
  by_cases hb:(NZ t p (AB p.Slots i).Node (AB p.Slots i).Attr).2=true
  ·by_cases hvar:(AB p.Slots i).Term.Var < -1∨p.Vars<=(AB p.Slots i).Term.Var
   ·have e1:(decide (-1<=(AB p.Slots i).Term.Var)&&decide ((AB p.Slots i).Term.Var<=p.Vars - 1))=false:=by rw [Bool.eq_false_iff]; simp; omega
    have e2:(decide ((AB p.Slots i).Term.Var < -1)||decide (p.Vars<=(AB p.Slots i).Term.Var))=true:=by simp; omega
    rw [hb,e1,Bool.or_assoc (!true),e2]; rfl
   ·have e1:(decide (-1<=(AB p.Slots i).Term.Var)&&decide ((AB p.Slots i).Term.Var<=p.Vars - 1))=true:=by simp; omega
    have e2:(decide ((AB p.Slots i).Term.Var < -1)||decide (p.Vars<=(AB p.Slots i).Term.Var))=false:=by rw [Bool.eq_false_iff]; simp; omega
    rw [hb,e1,Bool.or_assoc (!true),e2]
    by_cases ha:(AB p.Slots i).Term.Add < -1000000∨1000000<(AB p.Slots i).Term.Add
    ·have e3:(decide (-1000000<=(AB p.Slots i).Term.Add)&&decide ((AB p.Slots i).Term.Add<=1000000))=false:=by rw [Bool.eq_false_iff]; simp; omega
     have e4:(decide ((AB p.Slots i).Term.Add < -1000000)||decide (1000000<(AB p.Slots i).Term.Add))=true:=by simp; omega
     rw [e3,e4]; rfl
    ·have e3:(decide (-1000000<=(AB p.Slots i).Term.Add)&&decide ((AB p.Slots i).Term.Add<=1000000))=true:=by simp; omega
     have e4:(decide ((AB p.Slots i).Term.Add < -1000000)||decide (1000000<(AB p.Slots i).Term.Add))=false:=by rw [Bool.eq_false_iff]; simp; omega
     rw [e3,e4]
     by_cases h0:0<=(AB p.Slots i).Term.Var
     ·simp only [Bool.not_true,Bool.false_eq_true,if_false,bs,h0,decide_true,if_true,Bool.or_false]
      rw [AL h0 (by rw [Yp]; omega),bs,Yq h1 h2 h0]; rfl
     ·simp only [Bool.not_true,Bool.false_eq_true,if_false,bs,h0,decide_false,Bool.or_false]
      rw [XS h1 h2 (by omega)]; rfl
  ·rw [Bool.not_eq_true] at hb
   rw [hb]; rfl
theorem aq (p:Pattern) (v:Int):J5 p v=some (J1 p v):=by
 unfold J5 J1
 rw [C1 (fun i=>decide ((AB p.Slots i).Term.Var=v)) true,JX]
 ·cases anyR (fun i=>decide ((AB p.Slots i).Term.Var=v)) 0 p.Slots.length <;> rfl
 ·intro i h1 h2 _
  rw [AL h1 h2,bs,Jx]
theorem ar {t:AD} (hf:CA t) (p:Pattern):Jh t p=some (I4 t p):=by
 unfold Jh I4
 rw [SZ hf,bs,OI,bs]
 refine Iq fun ht=>Iq fun hg=>?_
 have hgo:=F7 hg
 rw [Sa hgo,bs]
 refine Vj fun htd=>O7 (by simp; try omega) fun hv=>O7 (by simp; try omega) fun hl=>?_
 rw [C1 (fun i=>OW t p (AB p.Slots i)) 6,←JX]
 ·cases hb:p.Slots.any (OW t p)
  ·simp only [Bool.false_eq_true,if_false,EW,cg,bs]
   by_cases hte:Ic p.Vars p.Tests=0
   ·simp only [hte]
    rw [C1 (fun v=>!J1 p v) 9]
    ·cases anyR (fun v=>!J1 p v) 0 p.Vars <;> rfl
    ·intro i h1 h2 _
     rw [aq,bs,Jx]
   ·simp [hte]
  ·rfl
 ·intro i h1 h2 _
  rw [AL h1 h2,bs,cZ hf,bs]
  unfold OW Kq
  simp only [bs]
  have e:(!(decide (-1000000<=(AB p.Slots i).Term.Add)&&decide ((AB p.Slots i).Term.Add<=1000000)))=(decide ((AB p.Slots i).Term.Add < -1000000)||decide (1000000<(AB p.Slots i).Term.Add)):=by
   rw [Bool.not_and,←decide_not,←decide_not]
   congr 1 <;> rw [decide_eq_decide] <;> omega
  rw [e]
  cases (!(NZ t p (AB p.Slots i).Node (AB p.Slots i).Attr).2||decide ((AB p.Slots i).Term.Var < -1)||decide (p.Vars<=(AB p.Slots i).Term.Var))
  ·simp only [Bool.false_eq_true,if_false,bs,Bool.false_or,Jx]
  ·rfl
end Go.Sf.Sc
namespace Go.Sf
theorem VV {l:List Int} {R:Int->Int->Prop} (h:l.Pairwise R) {i j:Int} (h0:0<=i) (h1:i<j) (h2:j<l.length):R (AB l i) (AB l j):=by
 have:=(List.pairwise_iff_getElem.1 h) i.toNat j.toNat (by omega) (by omega) (by omega)
 unfold AB
 rw [List.getD_eq_getElem?_getD,List.getD_eq_getElem?_getD,List.getElem?_eq_getElem (by omega),List.getElem?_eq_getElem (by omega)]
 exact this
theorem VD {l:List Int} {R:Int->Int->Prop} (h:∀ i j:Int,0<=i->i<j->j<l.length->R (AB l i) (AB l j)):l.Pairwise R:=by
 refine List.pairwise_iff_getElem.2 (fun i j h1 h2 h3=>?_)
 have:=h i j (by omega) (by omega) (by omega)
 unfold AB at this
 rw [List.getD_eq_getElem?_getD,List.getD_eq_getElem?_getD,Int.toNat_natCast,Int.toNat_natCast,List.getElem?_eq_getElem h1,List.getElem?_eq_getElem h2] at this
 exact this
end Go.Sf
namespace Go.Sf.Sc
open Go Go.Sf
theorem S4 {c:Int->Option Int} {a b:Int} (hc:∀ i,c i≠some 0) (h:(fst c a b).getD 0=0):∀ i,a<=i->i<b->c i=none:=by
 have:fst c a b=none:=by
  cases hf:fst c a b with
  | none=>rfl
  | some r=>
   rw [hf] at h
   simp only [Option.getD] at h
   subst h
   obtain ⟨i,_,_,h3,_⟩:=CT hf
   exact (hc i h3).elim
 exact C2.1 this
end Go.Sf.Sc
namespace Go.Sf.Sc
open Go Go.Sf
def JZ (a b:Graph) (m:Morphism) (i:Int):Option Int:=
 if AB m.Nodes i<0∨b.Nodes.length<=AB m.Nodes i then some 6 else if AB b.Nodes (AB m.Nodes i)≠AB a.Nodes i then some 13 else none
def IV (a b:Graph) (m:Morphism) (i:Int):Option Int:=
 if AB m.Edges i<0∨b.Edges.length<=AB m.Edges i then some 6 else
 if (AB a.Edges i).Type'≠(AB b.Edges (AB m.Edges i)).Type' then some 13 else
 if AB m.Nodes (AB a.Edges i).From≠(AB b.Edges (AB m.Edges i)).From∨AB m.Nodes (AB a.Edges i).To≠(AB b.Edges (AB m.Edges i)).To then some 11 else none
def Kx (a b:Graph) (m:Morphism):Int:=
 if C5 a≠0 then C5 a else if C5 b≠0 then C5 b else if m.Nodes.length≠a.Nodes.length∨m.Edges.length≠a.Edges.length then 20 else
 match fst (JZ a b m) 0 m.Nodes.length with
 | some e=>e
 | none=>(fst (IV a b m) 0 m.Edges.length).getD 0
structure aT (a b:Graph) (m:Morphism):Prop where
 ga:Jd a
 gb:Jd b
 nlen:m.Nodes.length=a.Nodes.length
 elen:m.Edges.length=a.Edges.length
 node:∀ i:Int,0<=i->i<m.Nodes.length->(0<=AB m.Nodes i∧AB m.Nodes i<b.Nodes.length)∧AB b.Nodes (AB m.Nodes i)=AB a.Nodes i
 edge:∀ i:Int,0<=i->i<m.Edges.length->(0<=AB m.Edges i∧AB m.Edges i<b.Edges.length)∧(AB a.Edges i).Type'=(AB b.Edges (AB m.Edges i)).Type' ∧
  AB m.Nodes (AB a.Edges i).From=(AB b.Edges (AB m.Edges i)).From∧AB m.Nodes (AB a.Edges i).To=(AB b.Edges (AB m.Edges i)).To
theorem ah {a b:Graph} {m:Morphism} (h:Kx a b m=0):aT a b m:=by
 unfold Kx at h
 split at h
 ·omega
 split at h
 ·omega
 split at h
 ·cases h
 rename_i h1 h2 h3
 have hn:fst (JZ a b m) 0 m.Nodes.length=none:=by
  split at h
  ·rename_i r hr
   obtain ⟨i,_,_,k,_⟩:=CT hr
   subst h
   unfold JZ at k
   split at k
   ·cases k
   ·split at k <;> cases k
  ·assumption
 rw [hn] at h
 have he:=S4 (fun i=>by
  unfold IV
  split
  ·simp
  ·split
   ·simp
   ·split <;> simp) h
 refine ⟨F7 (by omega),F7 (by omega),by omega,by omega,fun i i1 i2=>?_,fun i i1 i2=>?_⟩
 ·have:=C2.1 hn i i1 i2
  unfold JZ at this
  split at this
  ·cases this
  ·split at this
   ·cases this
   ·rename_i x y
    exact ⟨by omega,Classical.not_not.1 y⟩
 ·have:=he i i1 i2
  unfold IV at this
  split at this
  ·cases this
  ·split at this
   ·cases this
   ·split at this
    ·cases this
    ·rename_i x y z
     exact ⟨by omega,Classical.not_not.1 y,Classical.not_not.1 (fun h=>z (.inl h)),Classical.not_not.1 (fun h=>z (.inr h))⟩
theorem ai (a b:Graph) (m:Morphism):E0 a b m=some (Kx a b m):=by
 unfold E0 Kx
 rw [M0,bs,M0,bs]
 refine Iq fun ha=>Iq fun hb=>O7 (by simp; try omega) fun hl=>?_
 have ga:=F7 ha
 have gb:=F7 hb
 rw [DN (JZ a b m),Hr]
 ·cases hn:fst (JZ a b m) 0 m.Nodes.length with
  | some e=>rfl
  | none=>
   have hn2:=C2.1 hn
   dsimp only
   rw [DN (IV a b m),GP]
   intro i i1 i2 _
   unfold IV
   rw [AL i1 i2,bs]
   by_cases h1:AB m.Edges i<0∨b.Edges.length<=AB m.Edges i
   ·rw [if_pos (by simpa using h1),if_pos h1]; rfl
   ·have hf:=ga.fit _ (AS (l:=a.Edges) i1 (by omega))
    rw [if_neg (by simpa using h1),if_neg h1,AL i1 (by omega),bs,AL (by omega) (by omega),bs]
    by_cases h2:(AB a.Edges i).Type'=(AB b.Edges (AB m.Edges i)).Type'
    ·rw [if_neg (by simpa using h2),if_neg (by simpa using h2),AL (by omega) (by omega),bs]
     by_cases h3:AB m.Nodes (AB a.Edges i).From=(AB b.Edges (AB m.Edges i)).From
     ·rw [if_neg (by simpa using h3),AL (by omega) (by omega),bs,bs]
      by_cases h4:AB m.Nodes (AB a.Edges i).To=(AB b.Edges (AB m.Edges i)).To
      ·rw [if_neg (by simpa using h4),if_neg (by simp [h3,h4])]; rfl
      ·rw [if_pos (by simpa using h4),if_pos (.inr h4)]; rfl
     ·rw [if_pos (by simpa using h3),bs,if_pos rfl,if_pos (.inl h3)]; rfl
    ·rw [if_pos (by simpa using h2),if_pos h2]; rfl
 ·intro i i1 i2 _
  unfold JZ
  rw [AL i1 i2,bs]
  by_cases h1:AB m.Nodes i<0∨b.Nodes.length<=AB m.Nodes i
  ·rw [if_pos (by simpa using h1),if_pos h1]; rfl
  ·rw [if_neg (by simpa using h1),if_neg h1,AL (by omega) (by omega),bs,AL i1 (by omega),bs]
   by_cases h2:AB b.Nodes (AB m.Nodes i)=AB a.Nodes i
   ·rw [if_neg (by simpa using h2),if_neg (by simpa using h2)]; rfl
   ·rw [if_pos (by simpa using h2),if_pos h2]; rfl
theorem UX {x y:Prop} [Decidable x] [Decidable y]:(if decide x=true then some true else some (decide y))=some (decide (x∨y)):=by
 by_cases hx:x <;> simp [hx]
theorem am (a b:Graph) (m:Morphism):Jg a b m=some (Kx a b m):=by
 unfold Jg Kx
 rw [OI,bs,OI,bs]
 refine Iq fun ha=>Iq fun hb=>O7 (by simp; try omega) fun hl=>?_
 have ga:=F7 ha
 have gb:=F7 hb
 rw [show (a.Nodes.length:Int)=m.Nodes.length by omega,show (a.Edges.length:Int)=m.Edges.length by omega,DN (JZ a b m),Hr]
 ·cases hn:fst (JZ a b m) 0 m.Nodes.length with
  | some e=>rfl
  | none=>
   have hn2:=C2.1 hn
   dsimp only
   rw [DN (IV a b m),GP]
   intro i i1 i2 _
   unfold IV
   rw [AL i1 i2]
   simp only [bs,UX]
   by_cases h1:AB m.Edges i<0∨b.Edges.length<=AB m.Edges i
   ·rw [if_pos (by simpa using h1),if_pos h1]; rfl
   ·have hf:=ga.fit _ (AS (l:=a.Edges) i1 (by omega))
    rw [if_neg (by simpa using h1),if_neg h1,AL i1 (by omega),bs,AL (by omega) (by omega),bs]
    by_cases h2:(AB a.Edges i).Type'=(AB b.Edges (AB m.Edges i)).Type'
    ·rw [if_neg (by simpa using h2),if_neg (by simpa using h2),AL (by omega) (by omega),bs]
     by_cases h3:AB m.Nodes (AB a.Edges i).From=(AB b.Edges (AB m.Edges i)).From
     ·rw [if_neg (by simpa using h3),AL (by omega) (by omega),bs,bs]
      by_cases h4:AB m.Nodes (AB a.Edges i).To=(AB b.Edges (AB m.Edges i)).To
      ·rw [if_neg (by simpa using h4),if_neg (by simp [h3,h4])]; rfl
      ·rw [if_pos (by simpa using h4),if_pos (.inr h4)]; rfl
     ·rw [if_pos (by simpa using h3),bs,if_pos rfl,if_pos (.inl h3)]; rfl
    ·rw [if_pos (by simpa using h2),if_pos h2]; rfl
 ·intro i i1 i2 _
  unfold JZ
  rw [AL i1 i2]
  simp only [bs,UX]
  by_cases h1:AB m.Nodes i<0∨b.Nodes.length<=AB m.Nodes i
  ·rw [if_pos (by simpa using h1),if_pos h1]; rfl
  ·rw [if_neg (by simpa using h1),if_neg h1,AL (by omega) (by omega),bs,AL i1 (by omega),bs]
   by_cases h2:AB b.Nodes (AB m.Nodes i)=AB a.Nodes i
   ·rw [if_neg (by simpa using h2),if_neg (by simpa using h2)]; rfl
   ·rw [if_pos (by simpa using h2),if_pos h2]; rfl
def Lw (l:List Int):Bool:=!anyR (fun i=>anyR (fun j=>decide (AB l i=AB l j)) 0 i) 0 l.length
theorem OZ {l:List Int}:Lw l=true↔l.Nodup:=by
 unfold Lw
 rw [Bool.not_eq_true',EB]
 constructor
 ·intro h
  refine VD (fun i j h0 h1 h2=>?_)
  have:=h j (by omega) h2
  rw [EB] at this
  have:=this i h0 h1
  rw [decide_eq_false_iff_not] at this
  exact fun e=>this e.symm
 ·intro h i i1 i2
  rw [EB]
  intro j j1 j2
  rw [decide_eq_false_iff_not]
  exact fun e=>VV h j1 j2 i2 e.symm
theorem al (l:List Int):H2 l=some (Lw l):=by
 unfold H2 Lw
 rw [C1 (fun i=>anyR (fun j=>decide (AB l i=AB l j)) 0 i) false]
 ·cases anyR (fun i=>anyR (fun j=>decide (AB l i=AB l j)) 0 i) 0 l.length <;> rfl
 ·intro i i1 i2 _
  rw [C1 (fun j=>decide (AB l i=AB l j)) false]
  ·cases anyR (fun j=>decide (AB l i=AB l j)) 0 i <;> rfl
  ·intro j j1 j2 _
   rw [AL i1 i2,bs,AL j1 (by omega),bs,Jx]
theorem Ub {l:List Int} (hl:l.length<=1000):∃ k,HZ l=some k∧decide (k=(l.length:Int))=Lw l:=by
 have hs:(Np l).length=l.length:=(Mr l).length_eq
 refine ⟨((Go.Lib.compact (Np l)).length:Int),?_,?_⟩
 ·unfold HZ slices_Clone_int slices_Sort_int slices_Compact_int
  rw [JI (by unfold B9; omega),bs,if_pos (by unfold B9; omega),bs,if_pos (by rw [hs]; unfold B9; omega),bs]
 ·rw [Bool.eq_iff_iff,OZ,zzX,←(Mr l).nodup_iff,←O8 (NI l),hs]
  omega
def NH (m:Morphism):Bool:=Lw m.Nodes&&Lw m.Edges
theorem mD {a b:Graph} {m:Morphism} (h:Kx a b m=0):D9 a b m=some (NH m):=by
 have ho:=ah h
 have:=ho.ga.nodes
 have:=ho.ga.edges
 have:=ho.nlen
 have:=ho.elen
 obtain ⟨k,k1,k2⟩:=Ub (l:=m.Nodes) (by omega)
 obtain ⟨j,j1,j2⟩:=Ub (l:=m.Edges) (by omega)
 unfold D9 NH
 rw [ai,h,bs,if_pos (decide_eq_true rfl),k1]
 simp only [bs,j1,k2,j2]
 cases Lw m.Nodes <;> rfl
theorem mH {a b:Graph} {m:Morphism} (h:Kx a b m=0):Ia a b m=some (NH m):=by
 unfold Ia NH
 rw [am,h,bs,if_pos (decide_eq_true rfl),al]
 simp only [bs,al]
 cases Lw m.Nodes <;> rfl
def T5 (t:AD) (g:Graph) (i:Int):Bool:=Tg t (AB g.Edges i).Type' (AB g.Nodes (AB g.Edges i).From) (AB g.Nodes (AB g.Edges i).To)
end Go.Sf.Sc
namespace Go.Sf.Sc
open Go Go.Sf
structure OR (p:Pattern):Prop where
 nodes:p.Graph.Nodes.length<=45
 edges:p.Graph.Edges.length<=90
 slots:p.Slots.length<=15
 tests:p.Tests.length<=15
structure Yz (m:Morphism):Prop where
 nodes:m.Nodes.length<=140
 edges:m.Edges.length<=140
inductive EA:AA->Prop where
 | mk (c:AA) (hq:OR c.Pattern) (hm:Yz c.Map) (hk:∀ k∈c.Kids,EA k):EA c
theorem EA.q {c:AA} (h:EA c):OR c.Pattern:=by cases h; assumption
theorem EA.m {c:AA} (h:EA c):Yz c.Map:=by cases h; assumption
theorem EA.k {c:AA} (h:EA c):∀ k∈c.Kids,EA k:=by cases h; assumption
theorem EC {c k:AA} (h:k∈c.Kids):SizeOf.sizeOf k<SizeOf.sizeOf c:=by
 have:=List.sizeOf_lt_of_mem h
 cases c
 simp only [AA.mk.sizeOf_spec] at *
 omega
theorem DW (c:AA):0<SizeOf.sizeOf c:=by
 cases c
 simp only [AA.mk.sizeOf_spec]
 omega
def Mk (c:AA):Bool:=decide (c.Map.Nodes.length=0∧c.Map.Edges.length=0∧c.Pattern.Graph.Nodes.length=0∧c.Pattern.Graph.Edges.length=0∧c.Pattern.Slots.length=0∧c.Pattern.Tests.length=0∧c.Pattern.Vars=0)
theorem ee {c:AA} (hf:EA c):F5 c=some (Mk c):=by
 have h1:=hf.q
 have h2:=hf.m
 have:=h1.nodes
 have:=h1.edges
 have:=h1.slots
 have:=h1.tests
 have:=h2.nodes
 have:=h2.edges
 unfold F5 Mk
 rw [BO (n:=(c.Map.Nodes.length:Int)+c.Map.Edges.length) (by omega) (by omega),BO (n:=(c.Map.Nodes.length:Int)+c.Map.Edges.length+c.Pattern.Graph.Nodes.length) (by omega) (by omega),
  BO (n:=(c.Map.Nodes.length:Int)+c.Map.Edges.length+c.Pattern.Graph.Nodes.length+c.Pattern.Graph.Edges.length) (by omega) (by omega),
  BO (n:=(c.Map.Nodes.length:Int)+c.Map.Edges.length+c.Pattern.Graph.Nodes.length+c.Pattern.Graph.Edges.length+c.Pattern.Slots.length) (by omega) (by omega),
  BO (n:=(c.Map.Nodes.length:Int)+c.Map.Edges.length+c.Pattern.Graph.Nodes.length+c.Pattern.Graph.Edges.length+c.Pattern.Slots.length+c.Pattern.Tests.length) (by omega) (by omega)]
 congr 1
 rw [Bool.eq_iff_iff]
 simp only [zzZ,zzX]
 omega
theorem Zi {c:AA} (hf:EA c):H8 c=some (Mk c):=by
 have h1:=hf.q
 have h2:=hf.m
 have:=h1.nodes
 have:=h1.edges
 have:=h1.slots
 have:=h1.tests
 have:=h2.nodes
 have:=h2.edges
 unfold H8 Mk
 rw [BO (n:=(c.Map.Nodes.length:Int)+c.Map.Edges.length) (by omega) (by omega),BO (n:=(c.Map.Nodes.length:Int)+c.Map.Edges.length+c.Pattern.Graph.Nodes.length) (by omega) (by omega),
  BO (n:=(c.Map.Nodes.length:Int)+c.Map.Edges.length+c.Pattern.Graph.Nodes.length+c.Pattern.Graph.Edges.length) (by omega) (by omega),
  BO (n:=(c.Pattern.Slots.length:Int)+c.Pattern.Tests.length) (by omega) (by omega)]
 congr 1
 rw [Bool.eq_iff_iff]
 simp only [zzZ,zzX]
 omega
def Nl (c:AA):Bool:=
 if c.Kind=1 then decide (c.Kids.length=0)&&Mk c else if c.Kind=2 then decide (c.Kids.length=1)&&Mk c else
 if c.Kind=3∨c.Kind=4 then decide (1<=c.Kids.length)&&Mk c else if c.Kind=5 then decide (c.Kids.length=1) else false
def Mh:Nat->AA->Bool
 | 0,_=>false
 | n+1,c=>Nl c&&c.Kids.all (Mh n)
theorem ey:∀ (N:Nat) (c:AA),SizeOf.sizeOf c<=N->EA c->∀ n,2*N<=n->BW n c=some (Mh N c)
 | 0,c,h,_,_,_=>by have:=DW c; omega
 | N+1,c,h,hf,n,hn=>by
  obtain ⟨n,rfl⟩:∃ m,n=m+2:=⟨n - 2,by omega⟩
  rw [BW,Mh,ee hf]
  have hk:BV c.Kids (B6 (n+1))=some (!c.Kids.all (Mh N)):=by
   rw [NC (p:=fun k=>!Mh N k) (fun k hk=>by
    have:=EC hk
    rw [B6,ey N k (by omega) (hf.k k hk) n (by omega)]; rfl),List.all_eq_not_any_not,Bool.not_not]
  rw [hk]
  unfold Nl
  simp only [bs,zzX]
  generalize Mk c=b
  generalize c.Kids.all (Mh N)=w
  have e0:decide ((c.Kids.length:Int)=0)=decide (c.Kids.length=0):=by rw [decide_eq_decide]; omega
  have e1:decide ((c.Kids.length:Int)=1)=decide (c.Kids.length=1):=by rw [decide_eq_decide]; omega
  have e2:decide (1<=(c.Kids.length:Int))=decide (1<=c.Kids.length):=by rw [decide_eq_decide]; omega
  simp only [show ((c.Kids.length:Int)=0)↔c.Kids.length=0 by omega,show ((c.Kids.length:Int)=1)↔c.Kids.length=1 by omega,show (1<=(c.Kids.length:Int))↔1<=c.Kids.length by omega]
  by_cases k1:c.Kind=1
  ·rw [if_pos k1,if_pos k1]
   by_cases h0:c.Kids.length=0 <;> cases b <;> cases w <;> simp [h0]
  ·rw [if_neg k1,if_neg k1]
   by_cases k2:c.Kind=2
   ·rw [if_pos k2,if_pos k2]
    by_cases h0:c.Kids.length=1 <;> cases b <;> cases w <;> simp [h0]
   ·rw [if_neg k2,if_neg k2]
    by_cases k3:c.Kind=3
    ·simp only [k3,if_true,true_or]
     by_cases h0:1<=c.Kids.length <;> cases b <;> cases w <;> simp [h0]
    ·by_cases k4:c.Kind=4
     ·simp only [k4,if_true,or_true,show ¬ (4:Int)=3 by decide,if_false]
      by_cases h0:1<=c.Kids.length <;> cases b <;> cases w <;> simp [h0]
     ·simp only [k3,k4,if_false,or_false]
      by_cases k5:c.Kind=5
      ·rw [if_pos k5,if_pos k5]
       by_cases h0:c.Kids.length=1 <;> cases w <;> simp [h0]
      ·rw [if_neg k5,if_neg k5]
       cases w <;> rfl
theorem fA {c:AA} (hf:EA c):Kk c=some (Nl c):=by
 unfold Kk Nl
 rw [Zi hf]
 simp only [bs,zzX]
 generalize Mk c=b
 simp only [show ((c.Kids.length:Int)=0)↔c.Kids.length=0 by omega,show ((c.Kids.length:Int)=1)↔c.Kids.length=1 by omega,show (0<(c.Kids.length:Int))↔1<=c.Kids.length by omega]
 by_cases k1:c.Kind=1
 ·rw [if_pos k1,if_pos k1]
  by_cases h0:c.Kids.length=0 <;> cases b <;> simp [h0]
 ·rw [if_neg k1,if_neg k1]
  by_cases k2:c.Kind=2
  ·rw [if_pos k2,if_pos k2]
   by_cases h0:c.Kids.length=1 <;> cases b <;> simp [h0]
  ·rw [if_neg k2,if_neg k2]
   by_cases k3:c.Kind=3
   ·simp only [k3,if_true,true_or,decide_true,bs]
    by_cases h0:1<=c.Kids.length <;> cases b <;> simp [h0]
   ·by_cases k4:c.Kind=4
    ·simp only [k4,if_true,or_true,show ¬ (4:Int)=3 by decide,if_false,decide_true,bs]
     by_cases h0:1<=c.Kids.length <;> cases b <;> simp [h0]
    ·simp only [k3,k4,if_false,or_false,decide_false,bs,Bool.false_eq_true]
     by_cases k5:c.Kind=5
     ·rw [if_pos k5,if_pos k5]
     ·rw [if_neg k5,if_neg k5]
theorem du {α:Type} [Inhabited α] {l:List α} {p:α->Bool}:l.all p=!anyR (fun i=>!p (AB l i)) 0 l.length:=by
 rw [List.all_eq_not_any_not,JX]
theorem ak:∀ (N:Nat) (c:AA),SizeOf.sizeOf c<=N->EA c->∀ n,N<=n->FH n c=some (Mh N c)
 | 0,c,h,_,_,_=>by have:=DW c; omega
 | N+1,c,h,hf,n,hn=>by
  obtain ⟨n,rfl⟩:∃ m,n=m+1:=⟨n - 1,by omega⟩
  rw [FH,Mh,fA hf,bs,du,C1 (fun i=>!Mh N (AB c.Kids i)) false]
  ·cases Nl c
   ·rfl
   ·cases anyR (fun i=>!Mh N (AB c.Kids i)) 0 c.Kids.length <;> rfl
  ·intro i i1 i2 _
   have hm:=AS (l:=c.Kids) i1 i2
   have:=EC hm
   rw [AL i1 i2,bs,ak N _ (by omega) (hf.k _ hm) n (by omega),bs,Jx]
noncomputable def Ys (c:AA):Bool:=Mh (SizeOf.sizeOf c) c
theorem mF {c:AA} (hf:EA c):GJ c=some (Ys c):=HK (2*SizeOf.sizeOf c) fun n hn=>ey _ c (Nat.le_refl _) hf n hn
theorem mK {c:AA} (hf:EA c):L6 c=some (Ys c):=HK (SizeOf.sizeOf c) fun n hn=>ak _ c (Nat.le_refl _) hf n hn
def JN:Nat->AA->Int × Int
 | 0,_=>(0,0)
 | n+1,c=>
  let s:=c.Kids.foldl (fun s k=>(A8 (s.1+(JN n k).1),max s.2 (JN n k).2)) ((1,0):Int × Int)
  (s.1,if c.Kind=5 then A8 (s.2+1) else s.2)
theorem TD {α σ:Type} [Inhabited α] {l:List α} {g:σ->α->σ} {s:σ} {f:Int->σ->Option σ} (h:∀ (i:Int) s,0<=i->i<l.length->f i s=some (g s (AB l i))):forA f 0 l.length s=some (l.foldl g s):=by
 rw [Hz (fun i=>(l.take i.toNat).foldl g s) (by omega) (by simp)]
 ·rw [Int.toNat_natCast,List.take_length]
 ·intro i i1 i2
  rw [h i _ i1 i2,HP i1 i2,List.foldl_append]; rfl
theorem X9:∀ (N:Nat) (c:AA),SizeOf.sizeOf c<=N->∀ n,N<=n->C0 n c=some (JN N c)
 | 0,c,h,_,_=>by have:=DW c; omega
 | N+1,c,h,n,hn=>by
  obtain ⟨n,rfl⟩:∃ m,n=m+1:=⟨n - 1,by omega⟩
  rw [C0,JN,TD (g:=fun s k=>(A8 (s.1+(JN N k).1),max s.2 (JN N k).2))]
  ·simp only [bs,zzX]
   by_cases h5:c.Kind=5
   ·rw [if_pos h5,if_pos h5]; rfl
   ·rw [if_neg h5,if_neg h5]; rfl
  ·intro i s i1 i2
   have:=EC (AS (l:=c.Kids) i1 i2)
   rw [AL i1 i2,bs,X9 N _ (by omega) n (by omega)]; rfl
theorem YI:∀ (N:Nat) (c:AA),SizeOf.sizeOf c<=N->∀ n,N<=n->F8 n c=some (JN N c)
 | 0,c,h,_,_=>by have:=DW c; omega
 | N+1,c,h,n,hn=>by
  obtain ⟨n,rfl⟩:∃ m,n=m+1:=⟨n - 1,by omega⟩
  rw [F8,JN,TD (g:=fun s k=>(A8 (s.1+(JN N k).1),max s.2 (JN N k).2))]
  ·simp only [bs,zzX]
   by_cases h5:c.Kind=5
   ·rw [if_pos h5,if_pos h5]; rfl
   ·rw [if_neg h5,if_neg h5]; rfl
  ·intro i s i1 i2
   have:=EC (AS (l:=c.Kids) i1 i2)
   rw [AL i1 i2,bs,YI N _ (by omega) n (by omega)]; rfl
noncomputable def Oj (c:AA):Int × Int:=JN (SizeOf.sizeOf c) c
noncomputable def J6 (c:AA):Int:=if Ys c=false then 1 else if 12<(Oj c).1∨3<(Oj c).2 then 3 else 0
theorem cT {c:AA} (hf:EA c):FE c=some (J6 c):=by
 unfold FE J6
 rw [mF hf,bs,show Hj c=some (Oj c) from HK (SizeOf.sizeOf c) fun n hn=>X9 _ c (Nat.le_refl _) n hn,bs]
 exact Vj fun _=>O7 (by simp) fun _=>rfl
theorem cf {c:AA} (hf:EA c):Kh c=some (J6 c):=by
 unfold Kh J6
 rw [mK hf,bs,show Me c=some (Oj c) from HK (SizeOf.sizeOf c) fun n hn=>YI _ c (Nat.le_refl _) n hn,bs]
 exact Vj fun _=>O7 (by simp) fun _=>rfl
theorem Rk (g:Graph):C5 g≠9:=by
 unfold C5
 split
 ·decide
 ·split
  ·decide
  ·split <;> decide
theorem Ou {t:AD} {p:Pattern} (ht:(BJ t).2=0) (h:I4 t p=0∨I4 t p=9):0<=p.Vars∧p.Vars<=12:=by
 have hg:=Rk p.Graph
 unfold I4 at h
 rw [if_neg (by simp [ht])] at h
 split at h
 ·omega
 ·split at h
  ·omega
  ·split at h
   ·omega
   ·omega
def Kw (t:AD) (q:Pattern) (v:Int):Int:=if I4 t q≠9 then I4 t q else if anyR (fun i=>!J1 q i) v q.Vars=true then 9 else 0
theorem nQ {α:Type} {P:Prop} [Decidable P] {v:α} {X:Option α} {Y:α} (h:P->X=some Y):(if (!decide P)=true then some v else X)=some (if ¬ P then v else Y):=by
 by_cases hp:P
 ·simp [hp,h hp]
 ·simp [hp]
theorem mE {t:AD} (hf:CA t) (ht:(BJ t).2=0) {q:Pattern} {v:Int} (h0:0<=v) (h1:v<=q.Vars):EH t q v=some (Kw t q v):=by
 unfold EH Kw
 rw [Tl hf,bs]
 refine nQ fun h9=>?_
 have hv:=Ou ht (.inr h9)
 rw [OQ (c:=fun i=>(if (!J1 q i)=true then some () else none).map fun _=>.inr 9) (a:=v) (b:=q.Vars) h1]
 ·rw [P1,Nk]
  cases anyR (fun i=>!J1 q i) v q.Vars <;> rfl
 ·intro i i1 i2 _
  rw [if_pos (by simpa using i2),show (fun y0=>IC y0 i)=(fun y=>some (decide (y.Term.Var=i))) from rfl,bg,bs,show (q.Slots.any fun y=>decide (y.Term.Var=i))=J1 q i from rfl,h9,BO (by omega) (by omega)]
  cases J1 q i <;> rfl
 ·rw [if_neg (by simp)]
theorem ce (p:Pattern) (v:Int):Lb p v=some (J1 p v):=aq p v
theorem mI {t:AD} (hf:CA t) (q:Pattern) (v:Int):Kj t v q=some (if q.Vars<v then 20 else Kw t q v):=by
 unfold Kj Kw
 refine O7 (by simp) fun _=>?_
 rw [ar hf,bs]
 refine nQ fun h9=>?_
 rw [h9,C1 (fun i=>!J1 q i) 9]
 ·cases anyR (fun i=>!J1 q i) v q.Vars <;> rfl
 ·intro i i1 i2 _
  rw [ce,bs,Jx]
def GB:Nat->AD->Pattern->AA->Int
 | 0,_,_,_=>0
 | N+1,t,p,c=>
  if c.Kind=5 then
   if c.Pattern.Vars<p.Vars then 20 else if Kw t c.Pattern p.Vars≠0 then Kw t c.Pattern p.Vars else
   if Kx p.Graph c.Pattern.Graph c.Map≠0 then Kx p.Graph c.Pattern.Graph c.Map else if NH c.Map=false then 1 else
   (fst (fun i=>nz (GB N t c.Pattern (AB c.Kids i))) 0 c.Kids.length).getD 0
  else (fst (fun i=>nz (GB N t p (AB c.Kids i))) 0 c.Kids.length).getD 0
theorem ZM {t:AD} (ht:(BJ t).2=0) {q:Pattern} {v:Int} (h:Kw t q v=0):0<=q.Vars:=by
 unfold Kw at h
 split at h
 ·exact (Ou ht (.inl h)).1
 ·rename_i h9
  exact (Ou ht (.inr (Classical.not_not.1 h9))).1
theorem YB {t:AD} (hf:CA t) (ht:(BJ t).2=0):∀ (N:Nat) (c:AA) (p:Pattern),0<=p.Vars->SizeOf.sizeOf c<=N->∀ n,N<=n->CN n t p c=some (GB N t p c)
 | 0,c,p,_,h,_,_=>by have:=DW c; omega
 | N+1,c,p,hp,h,n,hn=>by
  obtain ⟨n,rfl⟩:∃ m,n=m+1:=⟨n - 1,by omega⟩
  rw [CN,GB]
  have hkids:∀ q:Pattern,0<=q.Vars->(thenR (forR (ρ:=Int) (fun (i0:Int) (_:Unit)=>
    (AM c.Kids i0).bind fun x55=>
    (CN n t q x55).bind fun x60=>
    if (!decide (x60=0))=true then
    some (.ret x60)
    else
    some (.next ())) 0 (c.Kids.length:Int) ()) (fun _=>
    some 0) (fun v0=>some v0))=some ((fst (fun i=>nz (GB N t q (AB c.Kids i))) 0 c.Kids.length).getD 0):=by
   intro q hq
   rw [DN (fun i=>nz (GB N t q (AB c.Kids i))),GP]
   intro i i1 i2 _
   have:=EC (AS (l:=c.Kids) i1 i2)
   rw [AL i1 i2,bs,YB hf ht N _ q hq (by omega) n (by omega),bs,OH]
  by_cases h5:c.Kind=5
  ·rw [if_pos (by simpa using h5),if_pos h5]
   refine O7 (by simp) fun hv=>?_
   rw [mE hf ht hp (by omega),bs]
   refine Iq fun hi=>?_
   rw [ai,bs]
   refine Iq fun hm=>?_
   rw [mD hm,bs]
   exact Vj fun _=>hkids _ (ZM ht hi)
  ·rw [if_neg (by simpa using h5),if_neg h5]
   exact hkids p hp
theorem YJ {t:AD} (hf:CA t):∀ (N:Nat) (c:AA) (p:Pattern),SizeOf.sizeOf c<=N->∀ n,N<=n->GE n t p c=some (GB N t p c)
 | 0,c,p,h,_,_=>by have:=DW c; omega
 | N+1,c,p,h,n,hn=>by
  obtain ⟨n,rfl⟩:∃ m,n=m+1:=⟨n - 1,by omega⟩
  rw [GE,GB]
  have hkids:∀ q:Pattern,(thenR (forR (ρ:=Int) (fun (i0:Int) (_:Unit)=>
    (AM c.Kids i0).bind fun x55=>
    (GE n t q x55).bind fun x60=>
    if (!decide (x60=0))=true then
    some (.ret x60)
    else
    some (.next ())) 0 (c.Kids.length:Int) ()) (fun _=>
    some 0) (fun v0=>some v0))=some ((fst (fun i=>nz (GB N t q (AB c.Kids i))) 0 c.Kids.length).getD 0):=by
   intro q
   rw [DN (fun i=>nz (GB N t q (AB c.Kids i))),GP]
   intro i i1 i2 _
   have:=EC (AS (l:=c.Kids) i1 i2)
   rw [AL i1 i2,bs,YJ hf N _ q (by omega) n (by omega),bs,OH]
  by_cases h5:c.Kind=5
  ·rw [if_pos (by simpa using h5),if_pos h5,mI hf,bs]
   by_cases hv:c.Pattern.Vars<p.Vars
   ·simp [hv]
   ·simp only [if_neg hv]
    refine Iq fun hi=>?_
    rw [am,bs]
    refine Iq fun hm=>?_
    rw [mH hm,bs]
    exact Vj fun _=>hkids _
  ·rw [if_neg (by simpa using h5),if_neg h5]
   exact hkids p
noncomputable def HU (t:AD) (p:Pattern) (c:AA):Int:=if I4 t p≠0 then I4 t p else if J6 c≠0 then J6 c else GB (SizeOf.sizeOf c) t p c
theorem ef {t:AD} (hf:CA t) (ht:(BJ t).2=0) (p:Pattern) {c:AA} (hc:EA c):D7 t p c=some (HU t p c):=by
 unfold D7 HU
 rw [Tl hf,bs]
 refine Iq fun h=>?_
 rw [cT hc,bs,Option.bind_fun_some]
 exact Iq fun _=>HK (SizeOf.sizeOf c) fun n hn=>YB hf ht _ c p (Ou ht (.inl h)).1 (Nat.le_refl _) n hn
theorem YG {t:AD} (hf:CA t) (p:Pattern) {c:AA} (hc:EA c):Ki t p c=some (HU t p c):=by
 unfold Ki HU
 rw [ar hf,bs]
 refine Iq fun h=>?_
 rw [cf hc,bs,Option.bind_fun_some]
 exact Iq fun _=>HK (SizeOf.sizeOf c) fun n hn=>YJ hf _ c p (Nat.le_refl _) n hn
end Go.Sf.Sc
namespace Go.Sf.Sc
open Go Go.Sf
def leafB (t:AD) (l:List Int):Bool:=!(l.any fun k=>t.Nodes.any fun n=>decide (n.Parent=k))
end Go.Sf.Sc
namespace Go.Sf
theorem WL {ρ:Type} {f:Int->Option (CY Int ρ)} (p:Int->Bool) (v:ρ) {a b:Int} (hab:a<=b) (h:∀ i,a<=i->i<b->f i=some (if p i=true then .ret v else .next (i+1))) (hb:f b=some (.brk b)):JE f a=some (if anyR p a b=true then .inr v else .inl b):=by
 rw [OQ (c:=fun i=>(if p i=true then some () else none).map fun _=>.inr v) hab]
 ·rw [P1,Nk]
  cases anyR p a b <;> rfl
 ·intro i h1 h2 _
  rw [h i h1 h2]
  cases p i <;> rfl
 ·exact hb
theorem My {α:Type} {e:α->TV} {n:Nat} {l:List α} (h:TV.Sm (.list n (l.map e))):(l.length:Int)<=140737488351232∧∀ x∈l,(e x).Sm:=by
 simp only [TV.Sm,List.length_map] at h
 refine ⟨by have:=h.1; unfold reachBytes at this; omega,fun x hx=>OM.1 h.2 _ (List.mem_map.2 ⟨x,hx,rfl⟩)⟩
end Go.Sf
namespace Go.Sf.Sc
open Go Go.Sf
def Tw (a:Attr):Bool:=(decide (40<(a.Name.size:Int))||decide (25<(a.Names.length:Int)))||anyR (fun i=>decide (40<((AB a.Names i).size:Int))) 0 a.Names.length
theorem Y7 {a:Attr} (h:Tw a=false):PE a:=by
 unfold Tw at h
 simp only [Bool.or_eq_false_iff,decide_eq_false_iff_not,EB] at h
 refine ⟨by omega,by omega,fun x hx=>?_⟩
 obtain ⟨i,i1,i2,rfl⟩:=D8 hx
 have:=h.2 i i1 i2
 omega
theorem Sw {t:AD} (hs:(At t).Sm):∃ b,K9 t=some b∧(b=true->CA t):=by
 have hs':TV.Sms [_,_]:=hs
 obtain ⟨hn,hn2⟩:=My (e:=HE) hs'.1
 unfold K9
 by_cases hl:20<t.Nodes.length∨30<t.Edges.length
 ·rw [if_pos (by simp; omega)]
  exact ⟨false,rfl,fun h=>by cases h⟩
 rw [if_neg (by simp; omega)]
 rcases UE (f:=(fun (i0:Int) (s0:Int)=>
 (AM t.Nodes i0).bind fun x30=>
 (if (decide (30<(A8 (s0+(x30.Attrs.length:Int)))))=true then some true else ((AM t.Nodes i0).bind fun x41=>
 some (decide (40<(x41.Name.size:Int))))).bind fun x46=>
 if x46=true then
 some (CY.ret false)
 else
 thenR (JE (ρ:=Bool) (fun (s2:Int)=>
 (AM t.Nodes i0).bind fun x51=>
 if (decide (s2<(x51.Attrs.length:Int)))=true then
 (AM t.Nodes i0).bind fun x61=>
 (AM x61.Attrs s2).bind fun x65=>
 if ((decide (40<(x65.Name.size:Int)))||(decide (25<(x65.Names.length:Int))))=true then
 some (.ret false)
 else
 thenR (JE (ρ:=Bool) (fun (s4:Int)=>
 if (decide (s4<(x65.Names.length:Int)))=true then
 (AM x65.Names s4).bind fun x87=>
 if (decide (40<(x87.size:Int)))=true then
 some (.ret false)
 else
 some (.next (A8 (s4+1)))
 else
 some (.brk s4)) 0) (fun s4=>
 some (.next (A8 (s2+1)))) (fun v4=>some (.ret v4))
 else
 some (.brk s2)) 0) (fun s2=>
 some (.next (A8 (s0+(x30.Attrs.length:Int))))) (fun v2=>some (.ret v2))))
  (fun i s=>0<=s∧s<=30∧∀ j,0<=j->j<i->((AB t.Nodes j).Name.size:Int)<=40∧(AB t.Nodes j).Attrs.length<=30∧∀ a∈(AB t.Nodes j).Attrs,PE a) (fun _=>False) (fun r=>r=false) (a:=0) (b:=t.Nodes.length) (s:=0) (by omega) ⟨by omega,by omega,fun j h1 h2=>by omega⟩ (fun i s i1 i2 hI=>by
   have hx:=hn2 _ (AS (l:=t.Nodes) i1 i2)
   have hx':TV.Sms [_,_,_,_]:=hx
   obtain ⟨ha,ha2⟩:=My (e:=Hl) hx'.2.2.2.1
   obtain ⟨hI1,hI2,hI3⟩:=hI
   have hw:A8 (s+(AB t.Nodes i).Attrs.length)=s+(AB t.Nodes i).Attrs.length:=BO (by omega) (by omega)
   simp only [AL i1 i2,bs,hw,UX]
   by_cases hc:30<s+(AB t.Nodes i).Attrs.length∨40<((AB t.Nodes i).Name.size:Int)
   ·rw [if_pos (by simpa using hc)]
    exact .inr (.inr ⟨_,rfl,rfl⟩)
   rw [if_neg (by simpa using hc)]
   rw [WL (fun j=>Tw (AB (AB t.Nodes i).Attrs j)) false (b:=(AB t.Nodes i).Attrs.length) (by omega)]
   ·cases hb:anyR (fun j=>Tw (AB (AB t.Nodes i).Attrs j)) 0 (AB t.Nodes i).Attrs.length
    ·refine .inl ⟨_,rfl,by omega,by omega,fun j j1 j2=>?_⟩
     by_cases hj:j=i
     ·subst hj
      refine ⟨by omega,by omega,fun a ha=>?_⟩
      obtain ⟨k,k1,k2,rfl⟩:=D8 ha
      exact Y7 (EB.1 hb k k1 k2)
     ·exact hI3 j j1 (by omega)
    ·exact .inr (.inr ⟨_,rfl,rfl⟩)
   ·intro j j1 j2
    rw [if_pos (by simpa using j2),AL j1 j2,bs]
    have hy:=ha2 _ (AS (l:=(AB t.Nodes i).Attrs) j1 j2)
    have hy':TV.Sms [_,_,_,_]:=hy
    obtain ⟨hm,_⟩:=My (e:=eS) hy'.2.2.2.1
    unfold Tw
    cases h1:(decide (40<((AB (AB t.Nodes i).Attrs j).Name.size:Int))||decide (25<((AB (AB t.Nodes i).Attrs j).Names.length:Int)))
    ·rw [if_neg (by decide),WL (fun k=>decide (40<((AB (AB (AB t.Nodes i).Attrs j).Names k).size:Int))) false (b:=(AB (AB t.Nodes i).Attrs j).Names.length) (by omega)]
     ·cases anyR (fun k=>decide (40<((AB (AB (AB t.Nodes i).Attrs j).Names k).size:Int))) 0 (AB (AB t.Nodes i).Attrs j).Names.length
      ·rw [Bool.or_false,BO (show -9223372036854775808<=j+1 by omega) (by omega)]; rfl
      ·rfl
     ·intro k k1 k2
      rw [if_pos (by simpa using k2),AL k1 k2,bs,BO (show -9223372036854775808<=k+1 by omega) (by omega),Jx]
     ·rw [if_neg (by simp)]
    ·rfl
   ·rw [if_neg (by simp)]) with ⟨s',h1,h2⟩ | ⟨r,h1,h2⟩
 ·rw [h1]
  rcases h2 with h2 | h2
  ·rw [EW,C1 (fun i=>decide (40<((AB t.Edges i).Name.size:Int))) false]
   ·cases hb:anyR (fun i=>decide (40<((AB t.Edges i).Name.size:Int))) 0 t.Edges.length
    ·refine ⟨true,rfl,fun _=>⟨by omega,by omega,fun n hn=>?_,fun n hn=>?_,fun n hn=>?_,fun e he=>?_⟩⟩
     ·obtain ⟨k,k1,k2,rfl⟩:=D8 hn
      exact (h2.2.2 k k1 k2).1
     ·obtain ⟨k,k1,k2,rfl⟩:=D8 hn
      exact (h2.2.2 k k1 k2).2.1
     ·obtain ⟨k,k1,k2,rfl⟩:=D8 hn
      exact (h2.2.2 k k1 k2).2.2
     ·obtain ⟨k,k1,k2,rfl⟩:=D8 he
      have:=EB.1 hb k k1 k2
      simpa using this
    ·exact ⟨false,rfl,fun h=>by cases h⟩
   ·intro i i1 i2 _
    rw [AL i1 i2,bs,Jx]
  ·exact h2.elim
 ·rw [h1]
  subst h2
  exact ⟨false,rfl,fun h=>by cases h⟩
theorem SQ (p:Pattern):∃ b,LB p=some b∧(b=true->OR p):=by
 refine ⟨_,rfl,fun h=>?_⟩
 simp only [zzZ,zzX] at h
 exact ⟨by omega,by omega,by omega,by omega⟩
theorem bu {a b:Int} (ha:0<=a) (ha2:a<=140737488351232) (hb:0<=b) (hb2:b<=140737488351232):A8 (a+b)=a+b:=BO (by omega) (by omega)
theorem br {m:Morphism} (hs:(C9 m).Sm):∃ b,Nx m 140=some b∧(b=true->Yz m):=by
 have hs':TV.Sms [_,_]:=hs
 have h1:=(My (e:=eI) hs'.1).1
 have h2:=(My (e:=eI) hs'.2.1).1
 refine ⟨_,rfl,fun h=>?_⟩
 rw [bu (by omega) h1 (by omega) h2] at h
 simp only [zzX] at h
 exact ⟨by omega,by omega⟩
theorem bi {c:AA} (h:(AF c).Sm):(C9 c.Map).Sm∧(c.Kids.length:Int)<=140737488351232∧∀ k∈c.Kids,(AF k).Sm:=by
 have h':TV.Sms [_,_,_,_,_,_,_,_,_]:=h
 obtain ⟨_,h2,h3,h4,_⟩:=h'
 rw [Jm] at h2
 obtain ⟨k1,k2⟩:=My h2
 exact ⟨⟨h3,h4,trivial⟩,k1,k2⟩
end Go.Sf.Sc
