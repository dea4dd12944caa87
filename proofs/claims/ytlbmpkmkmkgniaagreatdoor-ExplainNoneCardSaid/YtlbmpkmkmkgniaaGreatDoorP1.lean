/- Plain lemmas: what the functions of the program and of the reference compute. -/
import Derived.Test.YtlbmpkmkmkgniaaGreatDoorSfRead
import Derived.Test.YtlbmpkmkmkgniaaGreatDoorFns
import Derived.Test.YtlbmpkmkmkgniaaGreatDoorSfPl
set_option maxRecDepth 100000
namespace Go.Sf
theorem S0 {ρ τ:Type} {d:Int->Option ρ} {g:ρ->τ}:∀ (n:Nat) (a:Int),GB (fun i=>(d i).map g) n a=(GB d n a).map g
 | 0,_=>rfl
 | n+1,a=>by
  rw [GB,GB]
  cases d a with
  | some r=>rfl
  | none=>exact S0 n (a+1)
theorem Pv {ρ τ:Type} {d:Int->Option ρ} {g:ρ->τ} {a b:Int}:fst (fun i=>(d i).map g) a b=(fst d a b).map g:=S0 _ _
theorem RZ {ρ:Type} {d:Int->Option ρ} {r:ρ}:∀ {n:Nat} {a:Int},GB d n a=some r->∃ i,a<=i∧i<a+n∧d i=some r∧∀ j,a<=j->j<i->d j=none
 | 0,_,h=>by cases h
 | n+1,a,h=>by
  rw [GB] at h
  cases hd:d a with
  | some r'=>
   rw [hd] at h
   exact ⟨a,Int.le_refl _,by omega,by rw [hd]; exact h,fun j h1 h2=>by omega⟩
  | none=>
   rw [hd] at h
   obtain ⟨i,h1,h2,h3,h4⟩:=RZ h
   refine ⟨i,by omega,by omega,h3,fun j k1 k2=>?_⟩
   by_cases hj:j=a
   ·subst hj; exact hd
   ·exact h4 j (by omega) k2
theorem DP {ρ:Type} {d:Int->Option ρ} {r:ρ} {a b:Int} (h:fst d a b=some r):∃ i,a<=i∧i<b∧d i=some r∧∀ j,a<=j->j<i->d j=none:=by
 obtain ⟨i,h1,h2,h3,h4⟩:=RZ h
 exact ⟨i,h1,by omega,h3,h4⟩
def KO (p:Int->Bool) (s:ByteArray):Int:=(fst (fun i=>if p (bt s i) then none else some i) 0 s.size).getD s.size
theorem Pk (p:Int->Bool) (s:ByteArray):0<=KO p s∧KO p s<=s.size∧(∀ j,0<=j->j<KO p s->p (bt s j)=true)∧(KO p s<s.size->p (bt s (KO p s))=false):=by
 unfold KO
 cases h:fst (fun i=>if p (bt s i) then none else some i) 0 s.size with
 | none=>
  rw [DF] at h
  simp only [Option.getD]
  refine ⟨by omega,by omega,fun j h1 h2=>?_,fun h1=>by omega⟩
  have:=h j h1 h2
  cases hp:p (bt s j)
  ·simp [hp] at this
  ·rfl
 | some r=>
  obtain ⟨i,h1,h2,h3,h4⟩:=DP h
  have hi:p (bt s i)=false∧i=r:=by
   cases hp:p (bt s i) <;> simp [hp] at h3
   exact ⟨rfl,h3⟩
  obtain ⟨hi,rfl⟩:=hi
  simp only [Option.getD]
  refine ⟨h1,by omega,fun j k1 k2=>?_,fun _=>hi⟩
  have:=h4 j k1 k2
  cases hp:p (bt s j)
  ·simp [hp] at this
  ·rfl
theorem Uw {s:ByteArray} (h:s≠⟨#[]⟩):0<s.size:=by
 rcases Nat.eq_zero_or_pos s.size with h0 | h0
 ·exfalso; apply h
  cases s with | mk d=>congr 1; exact Array.eq_empty_of_size_eq_zero h0
 ·exact h0
end Go.Sf
namespace Go.Sf.Sc
open Go Go.Sf
def GR (c:Int):Bool:=((decide (97<=c))&&(decide (c<=122)))||((decide (65<=c))&&(decide (c<=90)))
def digitB (c:Int):Bool:=(decide (48<=c))&&(decide (c<=57))
def Nq (c:Int):Bool:=GR c||digitB c||decide (c=95)
theorem Ue (c:Int):J8 c=some (GR c):=rfl
theorem ST (c:Int):Jh c=some (digitB c):=rfl
theorem Uj (c:Int):J4 c=some (GR c):=rfl
theorem V5 (c:Int):Ii c=some (digitB c):=rfl
theorem en (c:Int):Lh c=some (Nq c):=by
 unfold Lh Nq
 rw [Ue,bs,ST]
 cases GR c <;> cases digitB c <;> rfl
theorem Ww {s:ByteArray} (hs:(s.size:Int)<=4611686018427387904) {ok:Int->Option Bool} {p:Int->Bool} (h:∀ c,ok c=some (p c)):Hr s ok=some (KO p s):=by
 unfold Hr
 rw [OL (c:=fun i=>(if p (bt s i) then none else some i).map .inl) (a:=0) (b:=s.size) (by omega)]
 ·rw [Pv]
  unfold KO
  cases fst (fun i=>if p (bt s i)=true then none else some i) 0 s.size <;> rfl
 ·intro i h1 h2 _
  simp only [h2,decide_true,if_true,M0 h1 h2,bs,h]
  cases p (bt s i)
  ·simp [cnt]
  ·simp [cnt,BN (show -9223372036854775808<=i+1 by omega) (by omega)]
 ·simp
def GL (s:ByteArray):Bool:=decide (0<s.size)&&GR (bt s 0)&&decide (s.size<=20)&&decide (KO Nq s=s.size)
theorem SS (l:List ByteArray) (v:ByteArray):∃ k,slices_Index_string l v=some k∧(0<=k↔v∈l):=by
 unfold slices_Index_string
 rw [DO (fun i=>if (v==AB l i)=true then some i else none)]
 ·cases h:fst (fun i=>if (v==AB l i)=true then some i else none) 0 l.length with
  | none=>
   rw [DF] at h
   refine ⟨-1,rfl,by omega,fun hm=>?_⟩
   obtain ⟨i,h1,h2,h3⟩:=EX hm
   have:=h i h1 h2
   rw [h3,if_pos (beq_self_eq_true v)] at this
   cases this
  | some k=>
   obtain ⟨i,h1,h2,h3,_⟩:=DP h
   have h4:(v==AB l i)=true∧i=k:=by
    by_cases hv:(v==AB l i)=true
    ·rw [if_pos hv] at h3; exact ⟨hv,by simpa using h3⟩
    ·rw [if_neg hv] at h3; cases h3
   obtain ⟨h4,rfl⟩:=h4
   refine ⟨i,rfl,fun _=>?_,fun _=>h1⟩
   rw [eq_of_beq h4]; exact AV h1 h2
 ·intro i h1 h2 _
  simp only [AM h1 h2,bs]
  split <;> rfl
theorem Mg (l:List ByteArray) (v:ByteArray):slices_Contains_string l v=some (l.contains v):=by
 unfold slices_Contains_string
 obtain ⟨k,h1,h2⟩:=SS l v
 rw [h1,bs]
 congr 1
 rw [Bool.eq_iff_iff,zzX,h2,List.contains_iff_mem]
theorem ei {s:ByteArray} (h0:0<s.size) (hs:(s.size:Int)<=4611686018427387904):∃ k n e,Ib s=some (k,n,e)∧(((decide (e=0))&&(decide (k=1)))&&(decide (n=(s.size:Int))))=GL s:=by
 have hr:=Pk Nq s
 unfold Ib GL
 simp only [M0 (Int.le_refl 0) (show (0:Int)<s.size by omega),bs,Ue,ST,Ww hs en,Ww hs ST,h0,decide_true,Bool.true_and]
 by_cases hl:GR (bt s 0)=true
 ·rw [if_pos hl]
  by_cases h20:20<KO Nq s
  ·refine ⟨0,0,3,by simp [h20],?_⟩
   simp [hl]
   intro h1 h2
   omega
  ·refine ⟨1,_,0,by rw [if_neg (by simpa using h20)],?_⟩
   simp only [hl,decide_true,Bool.true_and]
   rw [Bool.eq_iff_iff]
   simp only [zzX,zzZ]
   omega
 ·rw [if_neg hl]
  have hl':GR (bt s 0)=false:=by simpa using hl
  rw [hl',Bool.false_and,Bool.false_and]
  by_cases hd:digitB (bt s 0)=true
  ·rw [if_pos hd]
   by_cases h9:9<KO digitB s
   ·exact ⟨0,0,3,by simp [h9],by simp⟩
   ·exact ⟨2,_,0,by rw [if_neg (by simpa using h9)],by simp⟩
  ·rw [if_neg hd]
   by_cases hq:bt s 0=34
   ·have hsz:=Ta (s:=s) (a:=1) (b:=s.size) (by omega) (by omega) (by omega)
    have hq2:∀ c,KI c=some (((decide (32<=c))&&(decide (c<=126)))&&(!decide (c=34))):=fun _=>rfl
    have hr2:=Pk (fun c=>((decide (32<=c))&&(decide (c<=126)))&&(!decide (c=34))) (s.extract (1:Int).toNat (s.size:Int).toNat)
    have hqq:∃ n e,HT s=some (n,e):=by
     unfold HT
     rw [LA (by omega) (by omega) (by omega),bs,Ww (by omega) hq2,bs]
     rw [BN (by omega) (by omega)]
     by_cases he:1+KO (fun c=>((decide (32<=c))&&(decide (c<=126)))&&(!decide (c=34))) (s.extract (1:Int).toNat (s.size:Int).toNat)=s.size
     ·refine ⟨0,2,?_⟩
      simp only [he,decide_true,if_true,bs]
     ·simp only [he,decide_false,Bool.false_eq_true,if_false]
      rw [M0 (by omega) (by omega)]
      simp only [bs]
      split
      ·exact ⟨_,_,rfl⟩
      ·split
       ·exact ⟨_,_,rfl⟩
       ·exact ⟨_,_,rfl⟩
    obtain ⟨n,e,hne⟩:=hqq
    refine ⟨3,n,e,by rw [if_pos (by simpa using hq),hne]; rfl,by simp⟩
   ·rw [if_neg (by simpa using hq)]
    have hp:∃ b,Lg s=some b:=by
     unfold Lg
     by_cases h2:2<=(s.size:Int)
     ·rw [if_pos (by simpa using h2),LA (by omega) (by omega) h2]
      simp only [bs,Mg]
      exact ⟨_,rfl⟩
     ·rw [if_neg (by simpa using h2)]
      exact ⟨_,rfl⟩
    obtain ⟨b,hb⟩:=hp
    rw [hb,bs]
    cases b
    ·simp only [Bool.false_eq_true,if_false,strings_IndexByte,bs]
     split
     ·exact ⟨_,_,_,rfl,rfl⟩
     ·exact ⟨_,_,_,rfl,rfl⟩
    ·exact ⟨_,_,_,rfl,rfl⟩
theorem Ol {s:ByteArray} (hs:(s.size:Int)<=4611686018427387904):EZ s=some (GL s):=by
 unfold EZ Il
 simp only [show decide ((1:Int)=3)=false from rfl,Bool.false_eq_true,if_false,bs]
 by_cases he:s=⟨#[]⟩
 ·subst he; rfl
 ·rw [if_neg (by simpa using he)]
  obtain ⟨k,n,e,h1,h2⟩:=ei (Uw he) hs
  rw [h1]
  simp only [bs]
  rw [h2]
theorem e9 {s:ByteArray} (hs:(s.size:Int)<=4611686018427387904) (digits:Bool):∃ n,MN s 0 digits=some n∧0<=n∧n<=s.size∧(digits=false->n=KO Nq s):=by
 have hr:=Pk (fun c=>digitB c||(!digits&&(GR c||decide (c=95)))) s
 refine ⟨KO (fun c=>digitB c||(!digits&&(GR c||decide (c=95)))) s,?_,hr.1,hr.2.1,fun hd=>?_⟩
 ·unfold MN
  rw [OL (c:=fun i=>(if (digitB (bt s i)||(!digits&&(GR (bt s i)||decide (bt s i=95)))) then none else some i).map .inl) (a:=0) (b:=s.size) (by omega)]
  ·rw [Pv]
   unfold KO
   cases fst (fun i=>if (digitB (bt s i)||(!digits&&(GR (bt s i)||decide (bt s i=95))))=true then none else some i) 0 s.size <;> rfl
  ·intro i h1 h2 _
   have hw:A8 (0+i)=i:=by rw [BN (by omega) (by omega)]; omega
   simp only [hw,h2,decide_true,if_true,M0 h1 h2,bs,V5,Uj]
   cases digitB (bt s i) <;> cases digits <;> cases GR (bt s i) <;> cases (decide (bt s i=95)) <;> simp [cnt,BN (show -9223372036854775808<=i+1 by omega) (by omega)]
  ·have hw:A8 (0+(s.size:Int))=s.size:=by rw [BN (by omega) (by omega)]; omega
   simp only [hw,Int.lt_irrefl,decide_false,Bool.false_eq_true,if_false,bs]
 ·subst hd
  congr 1
  funext c
  unfold Nq
  cases GR c <;> cases digitB c <;> cases decide (c=95) <;> rfl
theorem Zg {s:ByteArray} (h0:0<s.size) (hs:(s.size:Int)<=4611686018427387904):∃ n,J5 s 0=some n∧(n=0∨(2<=n∧n<=s.size)):=by
 unfold J5
 rw [OL (c:=fun i=>if decide (bt s i=34)=true then some (Sum.inr (i+1):Int ⊕ Int) else if (decide (bt s i<32)||decide (126<bt s i))=true then some (Sum.inr 0) else none) (a:=1) (b:=s.size) (by omega)]
 ·cases h:fst (fun i=>if decide (bt s i=34)=true then some (Sum.inr (i+1):Int ⊕ Int) else if (decide (bt s i<32)||decide (126<bt s i))=true then some (Sum.inr 0) else none) 1 s.size with
  | none=>exact ⟨0,rfl,.inl rfl⟩
  | some r=>
   obtain ⟨i,h1,h2,h3,_⟩:=DP h
   split at h3
   ·cases h3; exact ⟨_,rfl,.inr (by omega)⟩
   ·split at h3
    ·cases h3; exact ⟨_,rfl,.inl rfl⟩
    ·cases h3
 ·intro i h1 h2 _
  have hw:A8 (0+i)=i:=by rw [BN (by omega) (by omega)]; omega
  simp only [hw,h2,decide_true,if_true,M0 (show 0<=i by omega) h2,bs,BN (show -9223372036854775808<=i+1 by omega) (by omega)]
  split
  ·rfl
  ·split <;> rfl
 ·have hw:A8 (0+(s.size:Int))=s.size:=by rw [BN (by omega) (by omega)]; omega
  simp only [hw,Int.lt_irrefl,decide_false,Bool.false_eq_true,if_false]
theorem mF {s:ByteArray} (h0:0<s.size) (hs:(s.size:Int)<=4611686018427387904):∃ t n e,MM s 0=some (t,n,e)∧(((decide (e=0))&&(decide (n=(s.size:Int))))&&(decide (t.Kind=1)))=GL s:=by
 obtain ⟨m,hm1,hm2,hm3,hm4⟩:=e9 hs (digitB (bt s 0))
 unfold MM GL
 simp only [M0 (Int.le_refl 0) (show (0:Int)<s.size by omega),bs,Uj,V5,h0,decide_true,Bool.true_and,hm1]
 have hw:A8 (0+m)=m:=by rw [BN (by omega) (by omega)]; omega
 by_cases hl:GR (bt s 0)=true
 ·have hd:digitB (bt s 0)=false:=by
   unfold GR at hl; unfold digitB
   simp only [Bool.or_eq_true,zzZ,zzX] at hl
   rw [Bool.and_eq_false_iff]
   simp only [decide_eq_false_iff_not]
   omega
  have hm:=hm4 hd
  subst hm
  simp only [hl,if_true,hd,Bool.false_eq_true,if_false,bs,hw]
  by_cases h20:20<KO Nq s
  ·refine ⟨_,_,_,by rw [if_pos (by simpa using h20)],?_⟩
   rw [Bool.eq_iff_iff]
   simp only [zzX,zzZ]
   omega
  ·rw [if_neg (by simpa using h20),LA (Int.le_refl _) hm2 hm3]
   refine ⟨_,_,_,rfl,?_⟩
   rw [Bool.eq_iff_iff]
   simp only [zzX,zzZ,true_and,and_true]
   omega
 ·have hl':GR (bt s 0)=false:=by simpa using hl
  simp only [hl',Bool.false_eq_true,if_false,bs,Bool.false_and,hw]
  by_cases hd:digitB (bt s 0)=true
  ·simp only [hd,if_true,bs]
   by_cases h9:9<m
   ·exact ⟨_,_,_,by rw [if_pos (by simpa using h9)],by simp⟩
   ·rw [if_neg (by simpa using h9),LA (Int.le_refl _) hm2 hm3]
    exact ⟨_,_,_,rfl,by simp⟩
  ·have hd':digitB (bt s 0)=false:=by simpa using hd
   simp only [hd',Bool.false_eq_true,if_false,bs]
   by_cases hq:bt s 0=34
   ·obtain ⟨n,hn,hn2⟩:=Zg h0 hs
    rw [if_pos (by simpa using hq),hn,bs]
    rcases hn2 with rfl | hn2
    ·exact ⟨_,_,_,rfl,by simp⟩
    ·rw [if_neg (by simp; omega)]
     split
     ·exact ⟨_,_,_,rfl,by simp⟩
     ·have e1:A8 (0+1)=1:=by decide
      have e2:A8 (0+n)=n:=by rw [BN (by omega) (by omega)]; omega
      rw [e1,e2,BN (show -9223372036854775808<=n - 1 by omega) (by omega),LA (by omega) (by omega) (by omega)]
      exact ⟨_,_,_,rfl,by simp⟩
   ·rw [if_neg (by simpa using hq)]
    unfold ME
    rw [bs]
    generalize hL:([(⟨#[45,62]⟩:ByteArray),(⟨#[60,61]⟩:ByteArray),(⟨#[62,61]⟩:ByteArray),(⟨#[61,61]⟩:ByteArray),(⟨#[33,61]⟩:ByteArray),(⟨#[123]⟩:ByteArray),(⟨#[125]⟩:ByteArray),(⟨#[40]⟩:ByteArray),(⟨#[41]⟩:ByteArray),(⟨#[91]⟩:ByteArray),(⟨#[93]⟩:ByteArray),(⟨#[44]⟩:ByteArray),(⟨#[59]⟩:ByteArray),(⟨#[58]⟩:ByteArray),(⟨#[61]⟩:ByteArray),(⟨#[43]⟩:ByteArray),(⟨#[45]⟩:ByteArray),(⟨#[42]⟩:ByteArray),(⟨#[60]⟩:ByteArray),(⟨#[62]⟩:ByteArray),(⟨#[33]⟩:ByteArray),(⟨#[38]⟩:ByteArray),(⟨#[124]⟩:ByteArray),(⟨#[46]⟩:ByteArray),(⟨#[63]⟩:ByteArray)]:List ByteArray)=L
    have hsz:∀ x∈L,x.size<=2:=by subst hL; decide
    rcases UG (f:=(fun (i0:Int) (s0:FT)=>
      (AL L i0).bind fun x75=>
      (if (decide ((A8 (0+(x75.size:Int)))<=(s.size:Int)))=true then ((AL L i0).bind fun x88=>
      (sslc s 0 (A8 (0+(x88.size:Int)))).bind fun x92=>
      (AL L i0).bind fun x95=>
      some (x92==x95)) else some false).bind fun x98=>
      if x98=true then
      (AL L i0).bind fun x101=>
      (AL L i0).bind fun x106=>
      some (CY.ret (FT.mk 4 x101 0,(x106.size:Int),(0:Int)))
      else
      some (CY.next s0))) (fun _ s=>True) (fun _=>True) (fun r=>r.1.Kind=4) (a:=0) (b:=L.length) (s:=FT.mk 0 (⟨#[]⟩:ByteArray) 0) (by omega) trivial (fun i t h1 h2 _=>by
      have hx:=hsz _ (AV h1 h2)
      have hw2:A8 (0+((AB L i).size:Int))=(AB L i).size:=by rw [BN (by omega) (by omega)]; omega
      simp only [AM h1 h2,bs,hw2]
      by_cases hc:((AB L i).size:Int)<=s.size
      ·rw [if_pos (by simpa using hc),LA (by omega) (by omega) hc]
       simp only [bs]
       split
       ·exact .inr (.inr ⟨_,rfl,rfl⟩)
       ·exact .inl ⟨_,rfl,trivial⟩
      ·rw [if_neg (by simpa using hc)]
       simp only [bs]
       exact .inl ⟨_,rfl,trivial⟩) with ⟨s',h1,_⟩ | ⟨r,h1,h2⟩
    ·rw [h1]; exact ⟨_,_,_,rfl,by simp⟩
    ·rw [h1]; exact ⟨_,_,_,rfl,by simp [h2]⟩
theorem On {s:ByteArray} (hs:(s.size:Int)<=4611686018427387904):HN s=some (GL s):=by
 unfold HN MD Mr
 simp only [show decide ((1:Int)=3)=false from rfl,Bool.false_eq_true,if_false,bs]
 by_cases he:s=⟨#[]⟩
 ·subst he; rfl
 ·rw [if_neg (by simpa using he)]
  obtain ⟨t,n,e,h1,h2⟩:=mF (Uw he) hs
  rw [h1]
  simp only [bs]
  rw [h2]
end Go.Sf.Sc
namespace Go.Sf
variable {ρ β:Type}
def nz (e:Int):Option Int:=if e=0 then none else some e
theorem OC (e:Int):(if (!decide (e=0))=true then some (CY.ret e) else some (CY.next ()))=some (Nz (nz e)):=by
 unfold nz
 by_cases h:e=0 <;> simp [h,Nz]
theorem du (b:Bool) (r:ρ):(if b=true then some (CY.ret r) else some (CY.next ()))=some (Nz (if b=true then some r else none)):=by
 cases b <;> rfl
theorem EY {σ:Type} {s:σ} {k:σ->Option β} {kr:ρ->Option β}:thenR (some (.inl s)) k kr=k s:=rfl
theorem TR {σ:Type} {r:ρ} {k:σ->Option β} {kr:ρ->Option β}:thenR (some (.inr r)) k kr=kr r:=rfl
theorem Hp (o:Option ρ) (k:Unit->Option β) (kr:ρ->Option β):thenR (some (aW o)) k kr=match o with | none=>k () | some r=>kr r:=by
 cases o <;> rfl
theorem GQ (o:Option Int):thenR (some (aW o)) (fun _=>some 0) (fun v=>some v)=some (o.getD 0):=by
 cases o <;> rfl
theorem Ra {c:Int->Int} {a b:Int} (h:(fst (fun i=>nz (c i)) a b).getD 0=0):∀ i,a<=i->i<b->c i=0:=by
 have:fst (fun i=>nz (c i)) a b=none:=by
  cases hf:fst (fun i=>nz (c i)) a b with
  | none=>rfl
  | some r=>
   rw [hf] at h
   simp only [Option.getD] at h
   subst h
   obtain ⟨i,_,_,h3,_⟩:=DP hf
   unfold nz at h3
   split at h3
   ·cases h3
   ·rename_i hn; simp at h3; exact (hn h3).elim
 rw [DF] at this
 intro i h1 h2
 have:=this i h1 h2
 unfold nz at this
 split at this
 ·assumption
 ·cases this
theorem Mx {e:Int}:nz e=none↔e=0:=by
 unfold nz
 by_cases h:e=0 <;> simp [h]
theorem UK {α:Type} [Inhabited α] {l:List α} {f:α->Option Bool} {p:α->Bool} (h:∀ x∈l,f x=some (p x)) :
  (thenR (forR (ρ:=Int) (fun (i0:Int) (_:Unit)=>(AL l i0).bind fun x14=>(f x14).bind fun x16=>if x16=true then some (.ret i0) else some (.next ())) 0 (l.length:Int) ()) (fun _=>some (-1)) (fun v0=>some v0)) =
   some ((fst (fun i=>if p (AB l i)=true then some i else none) 0 l.length).getD (-1)):=by
 rw [DO (fun i=>if p (AB l i)=true then some i else none)]
 ·rw [Hp]; cases fst (fun i=>if p (AB l i)=true then some i else none) 0 l.length <;> rfl
 ·intro i h1 h2 _
  rw [AM h1 h2,bs,h _ (AV h1 h2),bs,du]
theorem S7 {α:Type} [Inhabited α] {l:List α} {p:α->Bool}:decide (0<=(fst (fun i=>if p (AB l i)=true then some i else none) 0 l.length).getD (-1))=l.any p:=by
 rw [JW,anyR]
 cases h:fst (fun i=>if p (AB l i)=true then some i else none) 0 l.length with
 | none=>
  rw [DF] at h
  symm
  show Option.isSome _=false
  rw [Option.isSome_eq_false_iff,Option.isNone_iff_eq_none,DF]
  intro i h1 h2
  have:=h i h1 h2
  by_cases hp:p (AB l i)=true
  ·rw [if_pos hp] at this; cases this
  ·rw [if_neg hp]
 | some k=>
  obtain ⟨i,h1,h2,h3,_⟩:=DP h
  have h4:p (AB l i)=true∧i=k:=by
   by_cases hv:p (AB l i)=true
   ·rw [if_pos hv] at h3; exact ⟨hv,by simpa using h3⟩
   ·rw [if_neg hv] at h3; cases h3
  simp only [Option.getD]
  rw [decide_eq_true (show (0:Int)<=k by omega)]
  symm
  show Option.isSome _=true
  rw [Option.isSome_iff_ne_none,ne_eq,DF]
  intro hn
  have:=hn i h1 h2
  rw [if_pos h4.1] at this
  cases this
theorem FN {α:Type} [Inhabited α] {l:List α} {f:α->Option Bool} {p:α->Bool} (h:∀ x∈l,f x=some (p x)) :
  ((thenR (forR (ρ:=Int) (fun (i0:Int) (_:Unit)=>(AL l i0).bind fun x14=>(f x14).bind fun x16=>if x16=true then some (.ret i0) else some (.next ())) 0 (l.length:Int) ()) (fun _=>some (-1)) (fun v0=>some v0)).bind fun x7=>some (decide (0<=x7)))=some (l.any p):=by
 rw [UK h,bs,S7]
end Go.Sf
namespace Go.Sf.Sc
open Go Go.Sf
instance:Inhabited Attr:=⟨⟨⟨#[]⟩,0,0,[]⟩⟩
instance:Inhabited CL:=⟨⟨⟨#[]⟩,0,false,[]⟩⟩
instance:Inhabited CZ:=⟨⟨⟨#[]⟩,0,0,0,0,0,0⟩⟩
instance:Inhabited DS:=⟨⟨0,0,0⟩⟩
instance:Inhabited D8:=⟨⟨0,0,⟨0,0⟩⟩⟩
instance:Inhabited Test:=⟨⟨0,⟨0,0⟩,⟨0,0⟩⟩⟩
instance:Inhabited AA:=⟨⟨0,[],⟨[],[]⟩,⟨⟨[],[]⟩,[],0,[]⟩⟩⟩
theorem Tx {l:List Int} {f:Int->Option Bool} {p:Int->Bool} (h:∀ x∈l,f x=some (p x)):BU l f=some (l.any p):=FN h
theorem Vj {l:List DS} {f:DS->Option Bool} {p:DS->Bool} (h:∀ x∈l,f x=some (p x)):B7 l f=some (l.any p):=FN h
theorem M9 {l:List AA} {f:AA->Option Bool} {p:AA->Bool} (h:∀ x∈l,f x=some (p x)):BV l f=some (l.any p):=FN h
theorem VJ {l:List CL} {p:CL->Bool}:CW l (fun x=>some (p x))=some (l.any p):=FN (fun _ _=>rfl)
theorem VH {l:List CZ} {p:CZ->Bool}:CU l (fun x=>some (p x))=some (l.any p):=FN (fun _ _=>rfl)
theorem be {l:List Attr} {p:Attr->Bool}:DQ l (fun x=>some (p x))=some (l.any p):=FN (fun _ _=>rfl)
theorem Xl {l:List Int} {p:Int->Bool}:BU l (fun x=>some (p x))=some (l.any p):=FN (fun _ _=>rfl)
theorem bf {l:List DS} {p:DS->Bool}:B7 l (fun x=>some (p x))=some (l.any p):=FN (fun _ _=>rfl)
theorem bg {l:List D8} {p:D8->Bool}:DR l (fun x=>some (p x))=some (l.any p):=FN (fun _ _=>rfl)
theorem eJ (l:List Int) (v:Int):slices_Index_int l v=some ((fst (fun i=>if decide (v=AB l i)=true then some i else none) 0 l.length).getD (-1)):=by
 have:=UK (l:=l) (f:=fun x=>some (decide (v=x))) (p:=fun x=>decide (v=x)) (fun _ _=>rfl)
 unfold slices_Index_int
 simpa only [bs] using this
theorem T2 (l:List Int) (v:Int):slices_Contains_int l v=some (l.any fun x=>decide (v=x)):=by
 unfold slices_Contains_int
 rw [eJ,bs,S7 (p:=fun x=>decide (v=x))]
theorem bj (l:List Bool) (v:Bool):GP l v=some (l.any fun x=>v==x):=by
 have:=FN (l:=l) (f:=fun x=>some (v==x)) (p:=fun x=>v==x) (fun _ _=>rfl)
 unfold GP It
 simpa only [bs] using this
structure O8 (a:Attr):Prop where
 name:(a.Name.size:Int)<=40
 names:a.Names.length<=25
 each:∀ x∈a.Names,(x.size:Int)<=40
structure CA (t:AD):Prop where
 nodes:t.Nodes.length<=20
 edges:t.Edges.length<=30
 name:∀ n∈t.Nodes,(n.Name.size:Int)<=40
 attrs:∀ n∈t.Nodes,n.Attrs.length<=30
 each:∀ n∈t.Nodes,∀ a∈n.Attrs,O8 a
 ename:∀ e∈t.Edges,(e.Name.size:Int)<=40
def par (t:AD) (i:Int):Int:=(AB t.Nodes i).Parent
def GG (t:AD) (k:Int):Prop:=∀ i,0<=i->i<k->-1<=par t i∧par t i<i
def CR (t:AD):Nat->Int->List Attr
 | 0,_=>[]
 | n+1,a=>if a<0 then [] else CR t n (par t a)++(AB t.Nodes a).Attrs
def BQ (t:AD) (a:Int):List Attr:=CR t (a+1).toNat a
theorem IK {t:AD} {n:Nat} {a:Int} (h:a<0):CR t n a=[]:=by
 cases n with
 | zero=>rfl
 | succ n=>rw [CR,if_pos h]
theorem K1 {t:AD} {k:Int} (hp:GG t k):∀ (n m:Nat) (a:Int),a<k->a<n->a<m->CR t n a=CR t m a
 | n,m,a,hk,hn,hm=>by
  by_cases h0:a<0
  ·rw [IK h0,IK h0]
  ·cases n with
   | zero=>omega
   | succ n=>
    cases m with
    | zero=>omega
    | succ m=>
     rw [CR,CR,if_neg h0,if_neg h0]
     have:=hp a (by omega) hk
     rw [K1 hp n m (par t a) (by omega) (by omega) (by omega)]
theorem LE {t:AD} (hf:CA t) {k:Int} (hk:k<=t.Nodes.length) (hp:GG t k):∀ (n:Nat) (a:Int),a<k->((CR t n a).length:Int)<=30*n
 | 0,_,_=>by simp [CR]
 | n+1,a,ha=>by
  rw [CR]
  split
  ·simp; omega
  ·rename_i h0
   have h1:=hp a (by omega) ha
   have h2:=LE hf hk hp n (par t a) (by omega)
   have h3:=hf.attrs _ (AV (l:=t.Nodes) (show 0<=a by omega) (by omega))
   rw [List.length_append]
   omega
theorem Qt {t:AD} (hf:CA t) {k:Int} (hk:k<=t.Nodes.length) (hp:GG t k):∀ (n:Nat) (a:Int),a<k->∀ x∈CR t n a,O8 x
 | 0,_,_=>by simp [CR]
 | n+1,a,ha=>by
  rw [CR]
  split
  ·simp
  ·rename_i h0
   have h1:=hp a (by omega) ha
   intro x hx
   rcases List.mem_append.1 hx with hx | hx
   ·exact Qt hf hk hp n (par t a) (by omega) x hx
   ·exact hf.each _ (AV (l:=t.Nodes) (show 0<=a by omega) (by omega)) x hx
theorem LG {t:AD} (hf:CA t) {k a:Int} (hk:k<=t.Nodes.length) (hp:GG t k) (ha:a<k):(BQ t a).length<=600:=by
 have:=LE hf hk hp (a+1).toNat a ha
 have:=hf.nodes
 unfold BQ
 omega
theorem LF {t:AD} (hf:CA t) {k a:Int} (hk:k<=t.Nodes.length) (hp:GG t k) (ha:a<k):∀ x∈BQ t a,O8 x:=Qt hf hk hp _ a ha
theorem Ua {t:AD} (hf:CA t) {k:Int} (hk:k<=t.Nodes.length) (hp:GG t k):∀ (n:Nat) (a:Int),0<=a->a<k->a<n->D9 n t a=some (CR t n a)
 | 0,_,_,_,_=>by omega
 | n+1,a,h0,ha,hn=>by
  have h1:=hp a (by omega) ha
  have h2:=LE hf hk hp n (par t a) (by omega)
  have h3:=hf.attrs _ (AV (l:=t.Nodes) h0 (by omega))
  have h4:=hf.nodes
  rw [D9,CR,if_neg (by omega),AM h0 (by omega)]
  simp only [bs]
  show ((if decide (0<=par t a)=true then (D9 n t (par t a)).bind fun x17=>some x17 else some []).bind _)=_
  have e:(if decide (0<=par t a)=true then (D9 n t (par t a)).bind fun x17=>some x17 else some [])=some (CR t n (par t a)):=by
   by_cases hq:0<=par t a
   ·rw [if_pos (by simpa using hq),Ua hf hk hp n (par t a) hq (by omega) (by omega)]; rfl
   ·rw [if_neg (by simpa using hq),IK (by omega)]
  have hb:(CR t n (par t a)).length+(AB t.Nodes a).Attrs.length<=B9:=by
   unfold B9
   have:((CR t n (par t a)).length:Int)<=30*n:=h2
   have h5:CR t n (par t a)=CR t 20 (par t a):=by
    by_cases hneg:par t a<0
    ·rw [IK hneg,IK hneg]
    ·exact K1 hp n 20 (par t a) (by omega) (by omega) (by omega)
   have h6:=LE hf hk hp 20 (par t a) (by omega)
   rw [←h5] at h6
   omega
  rw [e,bs,DY hb]
  rfl
theorem V0 {t:AD} (hf:CA t) {k:Int} (hk:k<=t.Nodes.length) (hp:GG t k) {a:Int} (h0:0<=a) (ha:a<k):Ji t a=some (BQ t a):=
 GY (a+1).toNat fun n hn=>by
  rw [Ua hf hk hp n a h0 ha (by omega),BQ,K1 hp n (a+1).toNat a ha (by omega) (by omega)]
theorem Uh {t:AD} (hf:CA t) {k:Int} (hk:k<=t.Nodes.length) (hp:GG t k):∀ (n:Nat) (a:Int),-1<=a->a<k->a+1<n->HO n t a=some (CR t n a)
 | 0,_,_,_,_=>by omega
 | n+1,a,h0,ha,hn=>by
  rw [HO,CR]
  by_cases hneg:a<0
  ·rw [if_pos (by simpa using hneg),if_pos hneg]
  ·have h1:=hp a (by omega) ha
   have h3:=hf.attrs _ (AV (l:=t.Nodes) (show 0<=a by omega) (by omega))
   have h4:=hf.nodes
   rw [if_neg (by simpa using hneg),if_neg hneg,AM (by omega) (by omega)]
   simp only [bs]
   have h5:CR t n (par t a)=CR t 20 (par t a):=by
    by_cases hneg:par t a<0
    ·rw [IK hneg,IK hneg]
    ·exact K1 hp n 20 (par t a) (by omega) (by omega) (by omega)
   have h6:=LE hf hk hp 20 (par t a) (by omega)
   rw [←h5] at h6
   have hb:(CR t n (par t a)).length+(AB t.Nodes a).Attrs.length<=B9:=by unfold B9; omega
   rw [show (AB t.Nodes a).Parent=par t a from rfl,Uh hf hk hp n (par t a) (by omega) (by omega) (by omega),bs,DY (by simp; unfold B9; omega)]
   simp only [bs,List.nil_append]
   rw [DY hb]; rfl
theorem V4 {t:AD} (hf:CA t) {k:Int} (hk:k<=t.Nodes.length) (hp:GG t k) {a:Int} (h0:0<=a) (ha:a<k):MF t a=some (BQ t a):=
 GY (a+2).toNat fun n hn=>by
  rw [Uh hf hk hp n a (by omega) ha (by omega),BQ,K1 hp n (a+1).toNat a ha (by omega) (by omega)]
end Go.Sf.Sc
namespace Go.Sf.Sc
open Go Go.Sf
def I2 (l:List ByteArray):Int:=
 if (20:Int)<l.length then 3 else (fst (fun i=>if GL (AB l i)=false then some 2 else if anyR (fun j=>AB l j==AB l i) 0 i=true then some 5 else none) 0 l.length).getD 0
theorem T1 {l:List ByteArray} {x:ByteArray} {b:Int} (h0:0<=b) (h1:b<=l.length):(l.take b.toNat).contains x=anyR (fun j=>AB l j==x) 0 b:=by
 rw [List.contains_eq_any_beq,OO h0 h1]
 exact Qs (fun i _ _=>by rw [Bool.beq_comm])
theorem cQ {l:List ByteArray} (hl:∀ x∈l,(x.size:Int)<=40):Ht l=some (I2 l):=by
 unfold Ht I2
 by_cases h20:(20:Int)<l.length
 ·rw [if_pos (by simpa using h20),if_pos h20]
 ·rw [if_neg (by simpa using h20),if_neg h20]
  rw [DO (fun i=>if GL (AB l i)=false then some 2 else if anyR (fun j=>AB l j==AB l i) 0 i=true then some 5 else none),GQ]
  intro i h1 h2 _
  have hx:=hl _ (AV h1 h2)
  rw [AM h1 h2,bs,Ol (by omega),bs,L6 h1 (by omega)]
  simp only [bs,Mg,T1 h1 (show i<=l.length by omega)]
  cases GL (AB l i) <;> cases anyR (fun j=>AB l j==AB l i) 0 i <;> rfl
theorem cc {l:List ByteArray} (hl:∀ x∈l,(x.size:Int)<=40):Kd l=some (I2 l):=by
 unfold Kd I2
 by_cases h20:(20:Int)<l.length
 ·rw [if_pos (by simpa using h20),if_pos h20]
 ·rw [if_neg (by simpa using h20),if_neg h20]
  rw [DO (fun i=>if GL (AB l i)=false then some 2 else if anyR (fun j=>AB l j==AB l i) 0 i=true then some 5 else none),GQ]
  intro i h1 h2 _
  have hx:=hl _ (AV h1 h2)
  rw [AM h1 h2,bs,On (by omega),bs,C7 (fun j=>AB l j==AB l i) 5]
  ·cases GL (AB l i) <;> cases anyR (fun j=>AB l j==AB l i) 0 i <;> rfl
  ·intro j k1 k2 _
   rw [AM k1 (by omega),bs,bs]
   split <;> rfl
def Kl (all:List Attr) (k:Int):Int:=
 let x:=AB all k
 if GL x.Name=false then 2 else if anyR (fun j=>(AB all j).Name==x.Name) 0 k=true then 5 else
 if x.Names.length=0 then (if -1000000<=x.Low∧x.Low<=x.High∧x.High<=1000000 then 0 else 6) else
 if I2 x.Names≠0 then I2 x.Names else if x.Low=0∧x.High=x.Names.length - 1 then 0 else 6
theorem VV {all:List Attr} (hl:∀ x∈all,O8 x) {k:Int} (h0:0<=k) (h1:k<all.length):FK (AB all k) (all.take k.toNat)=some (Kl all k):=by
 have hx:=hl _ (AV h0 h1)
 have hn:=hx.name
 unfold FK Kl
 dsimp only
 rw [Ol (by omega),bs,show (fun y0=>Iv y0 (AB all k))=(fun y0=>some (y0.Name==(AB all k).Name)) from rfl,be,bs,OO h0 (by omega),cQ hx.each,bs]
 have hl2:=hx.names
 have hw:A8 ((AB all k).Names.length - 1)=(AB all k).Names.length - 1:=BN (by omega) (by omega)
 rw [hw]
 have hz:(AB all k).Names.length=0->I2 (AB all k).Names=0:=fun h=>by rw [List.eq_nil_of_length_eq_zero h]; rfl
 generalize I2 (AB all k).Names=e at hz ⊢
 simp only [bs,zzX,Bool.or_eq_true,zzZ,Bool.not_eq_true',decide_eq_false_iff_not,Bool.not_eq_false',Bool.or_eq_false_iff,Bool.and_eq_false_iff,ne_eq]
 repeat' (first | rfl | (exfalso; omega; done) | split)
 all_goals (first | rfl | (exfalso; omega) | omega | simp_all | (simp_all; omega))
theorem VX {x:Attr} (hx:O8 x):IW x=some (
 if x.Names.length=0 then (if -1000000<=x.Low∧x.Low<=x.High∧x.High<=1000000 then 0 else 6) else
 if I2 x.Names≠0 then I2 x.Names else if x.Low=0∧x.High=x.Names.length - 1 then 0 else 6):=by
 have hl2:=hx.names
 have hw:A8 (x.Names.length - 1)=x.Names.length - 1:=BN (by omega) (by omega)
 unfold IW E8
 simp only [bs,hw,cc hx.each]
 generalize I2 x.Names=e
 simp only [bs,zzX,Bool.or_eq_true,zzZ,Bool.not_eq_true',decide_eq_false_iff_not,Bool.not_eq_false',Bool.or_eq_false_iff,Bool.and_eq_false_iff,ne_eq]
 repeat' (first | rfl | (exfalso; omega; done) | split)
 all_goals (first | rfl | (exfalso; omega) | omega | simp_all | (simp_all; omega))
def IC (t:AD) (i:Int):Int:=
 let n:=AB t.Nodes i
 if GL n.Name=false then 2 else if anyR (fun j=>(AB t.Nodes j).Name==n.Name) 0 i=true then 5 else
 if n.Parent < -1∨i<=n.Parent then 6 else if 4<n.Attrs.length∨8<(BQ t i).length then 3 else
 (fst (fun k=>nz (Kl (BQ t i) k)) ((BQ t i).length - n.Attrs.length) (BQ t i).length).getD 0
theorem Qw {t:AD} {i:Int} (h0:0<=i):(AB t.Nodes i).Attrs.length<=(BQ t i).length:=by
 unfold BQ
 rw [show (i+1).toNat=i.toNat+1 by omega,CR,if_neg (by omega),List.length_append]
 omega
theorem GG.next {t:AD} {i:Int} (h:GG t i) (h1:-1<=par t i) (h2:par t i<i):GG t (i+1):=by
 intro j k1 k2
 by_cases hj:j=i
 ·subst hj; exact ⟨h1,h2⟩
 ·exact h j k1 (by omega)
theorem ej {t:AD} (hf:CA t) {i:Int} (h0:0<=i) (h1:i<t.Nodes.length) (hp:GG t i):If t i=some (IC t i):=by
 have hn:=hf.name _ (AV h0 h1)
 unfold If IC
 dsimp only
 rw [AM h0 h1,bs,Ol (by omega),bs,L6 h0 (by omega),bs,show (fun y0=>Lj y0 (AB t.Nodes i))=(fun y0=>some (y0.Name==(AB t.Nodes i).Name)) from rfl,VJ,bs,OO h0 (by omega)]
 cases GL (AB t.Nodes i).Name
 ·rfl
 ·cases anyR (fun j=>(AB t.Nodes j).Name==(AB t.Nodes i).Name) 0 i
  ·by_cases hr:(AB t.Nodes i).Parent < -1∨i<=(AB t.Nodes i).Parent
   ·rcases hr with hr | hr <;> simp [hr]
   ·have hp':GG t (i+1):=hp.next (by unfold par; omega) (by unfold par; omega)
    have hr2:(decide ((AB t.Nodes i).Parent < -1)||decide (i<=(AB t.Nodes i).Parent))=false:=by
     rw [Bool.eq_false_iff]; simpa using hr
    rw [V0 hf (k:=i+1) (by omega) hp' h0 (by omega),bs]
    have hlen:=LG hf (k:=i+1) (a:=i) (by omega) hp' (by omega)
    have hsub:=Qw (t:=t) h0
    have hfew:=LF hf (k:=i+1) (a:=i) (by omega) hp' (by omega)
    rw [BN (by omega) (by omega),DO (fun k=>nz (Kl (BQ t i) k)),GQ]
    ·simp only [hr2,hr,Bool.not_true,Bool.false_eq_true,if_false]
     simp only [bs,zzX,Bool.or_eq_true,zzZ,Bool.not_eq_true',decide_eq_false_iff_not,Bool.not_eq_false',Bool.or_eq_false_iff,Bool.and_eq_false_iff,ne_eq]
     repeat' (first | rfl | (exfalso; omega; done) | split)
     all_goals (first | rfl | (exfalso; omega) | omega | simp_all | (simp_all; omega))
    ·intro k k1 k2 _
     rw [AM (by omega) k2,bs,L6 (by omega) (by omega),bs,VV hfew (by omega) k2,bs,OC]
  ·rfl
theorem e8 {t:AD} (hf:CA t) {i:Int} (h0:0<=i) (h1:i<t.Nodes.length) (hp:GG t i):LX t i=some (IC t i):=by
 have hn:=hf.name _ (AV h0 h1)
 have hl:=hf.nodes
 unfold LX IC E8
 dsimp only
 rw [AM h0 h1,bs,On (by omega),bs,C7 (fun j=>(AB t.Nodes j).Name==(AB t.Nodes i).Name) 5]
 ·cases GL (AB t.Nodes i).Name
  ·rfl
  ·cases anyR (fun j=>(AB t.Nodes j).Name==(AB t.Nodes i).Name) 0 i
   ·simp only [Bool.not_true,Bool.false_eq_true,if_false,EY,bs]
    rw [BN (by omega) (by omega)]
    by_cases hr:(AB t.Nodes i).Parent < -1∨i<=(AB t.Nodes i).Parent
    ·rw [if_pos,if_neg (by decide),if_pos hr]
     simp; omega
    ·have hp':GG t (i+1):=hp.next (by unfold par; omega) (by unfold par; omega)
     rw [if_neg (by simp; omega),if_neg (by decide),if_neg hr]
     rw [V4 hf (k:=i+1) (by omega) hp' h0 (by omega),bs]
     have hlen:=LG hf (k:=i+1) (a:=i) (by omega) hp' (by omega)
     have hsub:=Qw (t:=t) h0
     have hfew:=LF hf (k:=i+1) (a:=i) (by omega) hp' (by omega)
     rw [BN (by omega) (by omega)]
     rw [DO (fun k=>nz (Kl (BQ t i) k)),GQ]
     ·simp only [bs,zzX,Bool.or_eq_true,zzZ,Bool.not_eq_true',decide_eq_false_iff_not,Bool.not_eq_false',Bool.or_eq_false_iff,Bool.and_eq_false_iff,ne_eq]
      repeat' (first | rfl | (exfalso; omega; done) | split)
      all_goals (first | rfl | (exfalso; omega) | omega | simp_all | (simp_all; omega))
     ·intro k k1 k2 _
      have hx:=hfew _ (AV (show 0<=k by omega) k2)
      have hxn:=hx.name
      simp only [AM (show 0<=k by omega) k2,bs]
      rw [On (by omega),bs,C7 (fun j=>(AB (BQ t i) j).Name==(AB (BQ t i) k).Name) 5]
      ·rw [VX hx]
       simp only [bs,OC]
       unfold Kl
       dsimp only
       cases GL (AB (BQ t i) k).Name
       ·rfl
       ·cases anyR (fun j=>(AB (BQ t i) j).Name==(AB (BQ t i) k).Name) 0 k <;> rfl
      ·intro j j1 j2 _
       rw [AM j1 (by omega),bs]
       split <;> rfl
   ·rfl
 ·intro j k1 k2 _
  rw [AM k1 (by omega),bs]
  split <;> rfl
def LH (low high:Int):Bool:=((decide (0<=low))&&(decide (low<=40)))&&((decide (high=(-1)))||((decide (low<=high))&&(decide (high<=40))))
theorem cZ (low high:Int):Je low high=some (LH low high):=by
 unfold Je LH E8
 simp only [bs]
 cases (decide (0<=low)&&decide (low<=40)) <;> cases decide (high=-1) <;> rfl
def Ir (t:AD) (i:Int):Int:=
 let x:=AB t.Edges i
 if GL x.Name=false then 2 else if anyR (fun j=>(AB t.Edges j).Name==x.Name) 0 i=true then 5 else
 if (0<=x.From∧x.From<t.Nodes.length)∧(0<=x.To∧x.To<t.Nodes.length)∧LH x.OutLow x.OutHigh=true∧LH x.InLow x.InHigh=true then 0 else 6
theorem ee {t:AD} (hf:CA t) {i:Int} (h0:0<=i) (h1:i<t.Edges.length):Ie t i=some (Ir t i):=by
 have hn:=hf.ename _ (AV h0 h1)
 unfold Ie Ir J9
 dsimp only
 rw [AM h0 h1,bs,Ol (by omega),bs,L6 h0 (by omega),bs,show (fun y0=>Li y0 (AB t.Edges i))=(fun y0=>some (y0.Name==(AB t.Edges i).Name)) from rfl,VH,bs,OO h0 (by omega)]
 simp only [show ∀ a b,Ja a b=some (LH a b) from fun _ _=>rfl,bs]
 generalize GL (AB t.Edges i).Name=b1
 generalize anyR (fun j=>(AB t.Edges j).Name==(AB t.Edges i).Name) 0 i=b2
 generalize LH (AB t.Edges i).OutLow (AB t.Edges i).OutHigh=b3
 generalize LH (AB t.Edges i).InLow (AB t.Edges i).InHigh=b4
 cases b1
 ·rfl
 ·cases b2
  ·cases b3 <;> cases b4
   all_goals
    by_cases ha:0<=(AB t.Edges i).From∧(AB t.Edges i).From<t.Nodes.length
    ·by_cases hb:0<=(AB t.Edges i).To∧(AB t.Edges i).To<t.Nodes.length
     ·simp [ha,hb]
     ·have:(decide (0<=(AB t.Edges i).To)&&decide ((AB t.Edges i).To<t.Nodes.length))=false:=by rw [Bool.eq_false_iff]; simpa using hb
      simp [ha,hb,this]
    ·have:(decide (0<=(AB t.Edges i).From)&&decide ((AB t.Edges i).From<t.Nodes.length))=false:=by rw [Bool.eq_false_iff]; simpa using ha
     simp [ha,this]
  ·rfl
theorem ew {t:AD} (hf:CA t) {i:Int} (h0:0<=i) (h1:i<t.Edges.length):LV t i=some (Ir t i):=by
 have hn:=hf.ename _ (AV h0 h1)
 have hl:=hf.nodes
 unfold LV Ir E8
 dsimp only
 rw [AM h0 h1,bs,On (by omega),bs,C7 (fun j=>(AB t.Edges j).Name==(AB t.Edges i).Name) 5]
 ·simp only [BN (show -9223372036854775808<=(t.Nodes.length:Int) - 1 by omega) (by omega),cZ,bs]
  generalize GL (AB t.Edges i).Name=b1
  generalize anyR (fun j=>(AB t.Edges j).Name==(AB t.Edges i).Name) 0 i=b2
  generalize LH (AB t.Edges i).OutLow (AB t.Edges i).OutHigh=b3
  generalize LH (AB t.Edges i).InLow (AB t.Edges i).InHigh=b4
  cases b1
  ·rfl
  ·cases b2
   ·cases b3 <;> cases b4
    all_goals
     by_cases ha:0<=(AB t.Edges i).From∧(AB t.Edges i).From<t.Nodes.length
     ·have ha':(AB t.Edges i).From<=(t.Nodes.length:Int) - 1:=by omega
      by_cases hb:0<=(AB t.Edges i).To∧(AB t.Edges i).To<t.Nodes.length
      ·have hb':(AB t.Edges i).To<=(t.Nodes.length:Int) - 1:=by omega
       simp [ha,hb,ha',hb',EY]
      ·have:(decide (0<=(AB t.Edges i).To)&&decide ((AB t.Edges i).To<=(t.Nodes.length:Int) - 1))=false:=by rw [Bool.eq_false_iff]; simp; omega
       simp [ha,hb,ha',this,EY]
     ·have:(decide (0<=(AB t.Edges i).From)&&decide ((AB t.Edges i).From<=(t.Nodes.length:Int) - 1))=false:=by rw [Bool.eq_false_iff]; simp; omega
      simp [ha,this,EY]
   ·rfl
 ·intro j k1 k2 _
  rw [AM k1 (by omega),bs]
  split <;> rfl
def BJ (t:AD):ByteArray × Int:=
 if t.Nodes.length=0 then (⟨#[]⟩,7) else if 12<t.Nodes.length∨20<t.Edges.length then (⟨#[]⟩,3) else
 match fst (fun i=>(nz (IC t i)).map fun e=>((AB t.Nodes i).Name,e)) 0 t.Nodes.length with
 | some r=>r
 | none=>(fst (fun i=>(nz (Ir t i)).map fun e=>((AB t.Edges i).Name,e)) 0 t.Edges.length).getD (⟨#[]⟩,0)
theorem X0 {t:AD} {i:Int} (h:IC t i=0):-1<=par t i∧par t i<i:=by
 unfold IC at h
 dsimp only at h
 unfold par
 by_cases hr:(AB t.Nodes i).Parent < -1∨i<=(AB t.Nodes i).Parent
 ·rw [if_pos hr] at h
  split at h
  ·cases h
  ·split at h <;> cases h
 ·omega
theorem Lz {α β:Type} {o:Option α} {g:α->β}:o.map g=none↔o=none:=by cases o <;> simp
theorem Qg {t:AD} {i:Int} (h:∀ j,0<=j->j<i->IC t j=0):GG t i:=fun j h1 h2=>X0 (h j h1 h2)
theorem Px {ρ:Type} (e:Int) (n:ByteArray):(if (!decide (e=0))=true then some (CY.ret (n,e)) else some (CY.next ()))=some (Nz ((nz e).map fun e=>(n,e))):=by
 unfold nz
 by_cases h:e=0 <;> simp [h,Nz]
theorem P2 {t:AD} (hf:CA t):FS t=some (BJ t):=by
 unfold FS BJ
 rw [DO (fun i=>(nz (IC t i)).map fun e=>((AB t.Nodes i).Name,e)),Hp]
 ·rw [DO (fun i=>(nz (Ir t i)).map fun e=>((AB t.Edges i).Name,e)),Hp]
  ·cases fst (fun i=>(nz (IC t i)).map fun e=>((AB t.Nodes i).Name,e)) 0 t.Nodes.length <;> cases fst (fun i=>(nz (Ir t i)).map fun e=>((AB t.Edges i).Name,e)) 0 t.Edges.length
   all_goals dsimp only
   all_goals try simp only [Option.getD]
   all_goals
    simp only [bs,zzX,Bool.or_eq_true,zzZ,Bool.not_eq_true',decide_eq_false_iff_not,Bool.not_eq_false',Bool.or_eq_false_iff,Bool.and_eq_false_iff,ne_eq]
    repeat' (first | rfl | (exfalso; omega; done) | split)
    all_goals (first | rfl | (exfalso; omega) | omega | simp_all | (simp_all; omega))
  ·intro i h1 h2 _
   rw [AM h1 h2,bs,ee hf h1 h2,bs]
   exact Px (ρ:=Unit) _ _
 ·intro i h1 h2 h3
  have hp:GG t i:=Qg fun j k1 k2=>Mx.1 (Lz.1 (h3 j k1 k2))
  rw [AM h1 h2,bs,ej hf h1 h2 hp,bs]
  exact Px (ρ:=Unit) _ _
theorem SV {t:AD} (hf:CA t):Ij t=some (BJ t):=by
 unfold Ij BJ
 rw [DO (fun i=>(nz (IC t i)).map fun e=>((AB t.Nodes i).Name,e)),Hp]
 ·rw [DO (fun i=>(nz (Ir t i)).map fun e=>((AB t.Edges i).Name,e)),Hp]
  ·cases fst (fun i=>(nz (IC t i)).map fun e=>((AB t.Nodes i).Name,e)) 0 t.Nodes.length <;> cases fst (fun i=>(nz (Ir t i)).map fun e=>((AB t.Edges i).Name,e)) 0 t.Edges.length
   all_goals dsimp only
   all_goals try simp only [Option.getD]
   all_goals
    simp only [bs,zzX,Bool.or_eq_true,zzZ,Bool.not_eq_true',decide_eq_false_iff_not,Bool.not_eq_false',Bool.or_eq_false_iff,Bool.and_eq_false_iff,ne_eq]
    repeat' (first | rfl | (exfalso; omega; done) | split)
    all_goals (first | rfl | (exfalso; omega) | omega | simp_all | (simp_all; omega))
  ·intro i h1 h2 _
   simp only [ew hf h1 h2,AM h1 h2,bs]
   exact Px (ρ:=Unit) _ _
 ·intro i h1 h2 h3
  have hp:GG t i:=Qg fun j k1 k2=>Mx.1 (Lz.1 (h3 j k1 k2))
  simp only [e8 hf h1 h2 hp,AM h1 h2,bs]
  exact Px (ρ:=Unit) _ _
end Go.Sf.Sc
namespace Go.Sf.Sc
open Go Go.Sf
theorem Jy {α:Type} {c:Bool} {a b:α}:(if c=true then some a else some b)=some (if c=true then a else b):=by cases c <;> rfl
def KE (n:Int):Bool:=(decide (0<=n))&&(decide (n<=99))
def OX (e:DS) (n:Int):Bool:=KE e.Type'&&(decide (0<=e.From)&&decide (e.From<n))&&(decide (0<=e.To)&&decide (e.To<n))
def C4 (g:Graph):Int:=
 if 40<g.Nodes.length∨80<g.Edges.length then 3 else if (g.Nodes.any fun n=>!KE n)=true then 6 else if (g.Edges.any fun e=>!OX e g.Nodes.length)=true then 6 else 0
structure Jc (g:Graph):Prop where
 nodes:g.Nodes.length<=40
 edges:g.Edges.length<=80
 kind:∀ n∈g.Nodes,0<=n∧n<=99
 fit:∀ e∈g.Edges,(0<=e.Type'∧e.Type'<=99)∧(0<=e.From∧e.From<g.Nodes.length)∧(0<=e.To∧e.To<g.Nodes.length)
theorem F8 {g:Graph} (h:C4 g=0):Jc g:=by
 unfold C4 at h
 split at h
 ·cases h
 ·split at h
  ·cases h
  ·split at h
   ·cases h
   ·rename_i h1 h2 h3
    refine ⟨by omega,by omega,fun n hn=>?_,fun e he=>?_⟩
    ·rw [Bool.not_eq_true,List.any_eq_false] at h2
     have:=h2 n hn
     simp [KE] at this
     exact this
    ·rw [Bool.not_eq_true,List.any_eq_false] at h3
     have:=h3 e he
     simp only [OX,KE,Bool.not_eq_true',Bool.not_eq_false,zzZ,zzX] at this
     omega
theorem eh {e:DS} {n:Nat} (h:n<=40):LR e n=some (OX e n):=by
 unfold LR H4 OX KE
 simp only [bs,BN (show -9223372036854775808<=(n:Int) - 1 by omega) (by omega)]
 have e1:decide (e.From<=(n:Int) - 1)=decide (e.From<n):=by rw [decide_eq_decide]; omega
 have e2:decide (e.To<=(n:Int) - 1)=decide (e.To<n):=by rw [decide_eq_decide]; omega
 rw [e1,e2]
 generalize (decide (0<=e.Type')&&decide (e.Type'<=99))=b1
 generalize (decide (0<=e.From)&&decide (e.From<n))=b2
 cases b1 <;> cases b2 <;> simp
theorem My (g:Graph):EE g=some (C4 g):=by
 unfold EE C4
 by_cases h:40<g.Nodes.length∨80<g.Edges.length
 ·rw [if_pos (by simp; omega),if_pos h]
 ·rw [if_neg (by simp; omega),if_neg h,show Kn=(fun n=>some (!KE n)) from rfl,Xl,Vj (p:=fun e=>!OX e g.Nodes.length) (fun e _=>by
   unfold Ko
   rw [eh (by omega)]; rfl)]
  simp only [bs]
  cases g.Nodes.any fun n=>!KE n
  ·cases g.Edges.any fun e=>!OX e g.Nodes.length <;> rfl
  ·rfl
theorem OD (g:Graph):G9 g=some (C4 g):=by
 unfold G9 C4
 by_cases h:40<g.Nodes.length∨80<g.Edges.length
 ·rw [if_pos (by simp; omega),if_pos h]
 ·rw [if_neg (by simp; omega),if_neg h,JW,JW,C7 (fun i=>!KE (AB g.Nodes i)) 6]
  ·rw [C7 (fun i=>!OX (AB g.Edges i) g.Nodes.length) 6]
   ·cases anyR (fun i=>!KE (AB g.Nodes i)) 0 g.Nodes.length
    ·cases anyR (fun i=>!OX (AB g.Edges i) g.Nodes.length) 0 g.Edges.length <;> rfl
    ·rfl
   ·intro i h1 h2 _
    rw [AM h1 h2,bs]
    unfold MG OX
    simp only [show ∀ n,KG n=some (KE n) from fun _=>rfl,bs]
    generalize KE (AB g.Edges i).Type'=b1
    cases b1 <;> cases decide (0<=(AB g.Edges i).From) <;> cases decide ((AB g.Edges i).From<g.Nodes.length) <;> cases decide (0<=(AB g.Edges i).To) <;> cases decide ((AB g.Edges i).To<g.Nodes.length) <;> rfl
  ·intro i h1 h2 _
   rw [AM h1 h2,bs,show KG (AB g.Nodes i)=some (KE (AB g.Nodes i)) from rfl,bs]
   cases KE (AB g.Nodes i) <;> rfl
def FR (t:AD) (g:Graph):Bool:=!(g.Nodes.any fun n=>decide (t.Nodes.length<=n))&&!(g.Edges.any fun e=>decide (t.Edges.length<=e.Type'))
theorem L7 {t:AD} {g:Graph} (hg:Jc g) (h:FR t g=true):(∀ n∈g.Nodes,0<=n∧n<t.Nodes.length)∧∀ e∈g.Edges,0<=e.Type'∧e.Type'<t.Edges.length:=by
 unfold FR at h
 simp only [zzZ,Bool.not_eq_true',List.any_eq_false,zzX] at h
 refine ⟨fun n hn=>?_,fun e he=>?_⟩
 ·have:=h.1 n hn
  have:=hg.kind n hn
  omega
 ·have:=h.2 e he
  have:=hg.fit e he
  omega
theorem SW {t:AD} {g:Graph} (hg:Jc g):Ik t g=some (FR t g):=by
 unfold Ik FR
 rw [JW,JW,C7 (fun i=>decide (t.Nodes.length<=AB g.Nodes i)) false]
 ·rw [C7 (fun i=>decide (t.Edges.length<=(AB g.Edges i).Type')) false]
  ·cases anyR (fun i=>decide (t.Nodes.length<=AB g.Nodes i)) 0 g.Nodes.length
   ·cases anyR (fun i=>decide (t.Edges.length<=(AB g.Edges i).Type')) 0 g.Edges.length <;> rfl
   ·rfl
  ·intro i h1 h2 _
   have:=(hg.fit _ (AV h1 h2)).1.1
   simp only [AM h1 h2,bs]
   rw [if_neg (by simp; omega),bs,Jy]
 ·intro i h1 h2 _
  have:=(hg.kind _ (AV h1 h2)).1
  simp only [AM h1 h2,bs]
  rw [if_neg (by simp; omega),bs,Jy]
structure IF (t:AD):Prop where
 nodes:t.Nodes.length<=12
 edges:t.Edges.length<=20
 node:∀ i:Int,0<=i->i<t.Nodes.length->IC t i=0
 edge:∀ i:Int,0<=i->i<t.Edges.length->Ir t i=0
theorem II {t:AD} (h:(BJ t).2=0):IF t:=by
 unfold BJ at h
 split at h
 ·cases h
 ·split at h
  ·cases h
  ·rename_i h1 h2
   have hn:∀ i:Int,0<=i->i<t.Nodes.length->IC t i=0:=by
    split at h
    ·rename_i r hr
     obtain ⟨i,_,_,k3,_⟩:=DP hr
     unfold nz at k3
     split at k3
     ·cases k3
     ·rename_i hne
      cases k3; exact absurd h hne
    ·rename_i hr
     intro i k1 k2
     exact Mx.1 (Lz.1 (DF.1 hr i k1 k2))
   have he:∀ i:Int,0<=i->i<t.Edges.length->Ir t i=0:=by
    split at h
    ·rename_i r hr
     obtain ⟨i,k1,k2,k3,_⟩:=DP hr
     rw [hn i k1 k2] at k3
     cases k3
    ·cases hr:fst (fun i=>(nz (Ir t i)).map fun e=>((AB t.Edges i).Name,e)) 0 t.Edges.length with
     | some r=>
      rw [hr] at h
      obtain ⟨i,_,_,k3,_⟩:=DP hr
      unfold nz at k3
      split at k3
      ·cases k3
      ·rename_i hne
       cases k3; exact absurd h hne
     | none=>
      intro i k1 k2
      exact Mx.1 (Lz.1 (DF.1 hr i k1 k2))
   exact ⟨by omega,by omega,hn,he⟩
theorem IF.par {t:AD} (h:IF t):GG t t.Nodes.length:=Qg h.node
theorem IF.ends {t:AD} (h:IF t) {i:Int} (h0:0<=i) (h1:i<t.Edges.length):(0<=(AB t.Edges i).From∧(AB t.Edges i).From<t.Nodes.length)∧(0<=(AB t.Edges i).To∧(AB t.Edges i).To<t.Nodes.length):=by
 have:=h.edge i h0 h1
 unfold Ir at this
 dsimp only at this
 split at this
 ·cases this
 ·split at this
  ·cases this
  ·split at this
   ·rename_i hc; exact ⟨hc.1,hc.2.1⟩
   ·cases this
def Ip (t:AD) (a:Int):Bool:=decide (0<=a)&&decide (a<t.Nodes.length)
theorem Mv {t:AD} {a:Int}:Ip t a=true↔0<=a∧a<t.Nodes.length:=by unfold Ip; simp
theorem SU {t:AD} (hf:CA t) (l:List Int):GF t l=some (if (BJ t).2≠0 then (BJ t).2 else if (l.all (Ip t))=true then 0 else 6):=by
 unfold GF
 rw [P2 hf,bs,Tx (p:=fun a=>!Ip t a) (fun a _=>by unfold Kt Ip; rw [show decide (a<0)=!decide (0<=a) from by rw [←decide_not,decide_eq_decide]; omega,show decide ((t.Nodes.length:Int)<=a)=!decide (a<t.Nodes.length) from by rw [←decide_not,decide_eq_decide]; omega,Bool.not_and]),bs]
 rw [show (l.any fun a=>!Ip t a)=!(l.all (Ip t)) from by rw [List.all_eq_not_any_not,Bool.not_not]]
 cases l.all (Ip t) <;> by_cases h:(BJ t).2=0 <;> simp [h]
theorem cb {t:AD} (hf:CA t) (a b:Int):Kc t a b=some (if (BJ t).2≠0 then (BJ t).2 else if (Ip t a&&Ip t b)=true then 0 else 6):=by
 have hl:=hf.nodes
 have e:∀ a,decide (a<=(t.Nodes.length:Int) - 1)=decide (a<(t.Nodes.length:Int)):=fun a=>by rw [decide_eq_decide]; omega
 unfold Kc E8
 rw [SV hf,bs]
 simp only [BN (show -9223372036854775808<=(t.Nodes.length:Int) - 1 by omega) (by omega),bs,e]
 change (if (!decide ((BJ t).snd=0))=true then some (BJ t).snd else (if (!Ip t a)=true then some true else some (!Ip t b)).bind fun x32=>if x32=true then some 6 else some 0)=_
 cases Ip t a <;> cases Ip t b <;> by_cases h:(BJ t).2=0 <;> simp [h]
theorem YV {α:Type} [Inhabited α] {l:List α} {i:Int} (h0:0<=i) (h1:i<l.length):CB l i (AB l i)=l:=by
 unfold CB AB
 rw [List.getD_eq_getElem?_getD,List.getElem?_eq_getElem (by omega)]
 exact List.set_getElem_self _
theorem IA {α:Type} [Inhabited α] {l:List α} {i:Int} (h0:0<=i) (h1:i<l.length):l.take (i+1).toNat=l.take i.toNat++[AB l i]:=by
 unfold AB
 rw [show (i+1).toNat=i.toNat+1 by omega,List.take_add_one,List.getD_eq_getElem?_getD,List.getElem?_eq_getElem (by omega)]
 rfl
theorem JG {α:Type} {l:List α} (h:l.length<=B9):CX [] l=some l:=by rw [DY (by simpa using h)]; rfl
def IL (t:AD) (a:Int):List Attr × Int:=if (BJ t).2≠0 then ([],(BJ t).2) else if Ip t a=true then (BQ t a,0) else ([],6)
theorem Vz {t:AD} (hf:CA t) (a:Int):HE t a=some (IL t a):=by
 unfold HE IL
 rw [SU hf,bs]
 by_cases h:(BJ t).2=0
 ·have hok:=II h
  have e:[a].all (Ip t)=Ip t a:=by simp
  rw [e]
  simp only [h,ne_eq,not_true_eq_false,if_false]
  cases hi:Ip t a
  ·rfl
  ·rw [if_pos rfl,if_pos rfl]
   have hr:=Mv.1 hi
   have hl:=LG hf (Int.le_refl _) hok.par hr.2
   have hw:=LF hf (Int.le_refl _) hok.par hr.2
   rw [if_neg (by decide),V0 hf (Int.le_refl _) hok.par hr.1 hr.2,bs]
   obtain ⟨s',h1,rfl⟩:=UE (f:=(fun (i0:Int) (s0:List Attr)=>
 (AL s0 i0).bind fun x28=>
 (slices_Clone_string x28.Names).bind fun x31=>
 (AL s0 i0).bind fun x32=>
 some (CB s0 i0 (Attr.mk x32.Name x32.Low x32.High x31)))) (fun _ s=>s=BQ t a) (a:=0) (b:=(BQ t a).length) (s:=BQ t a) (by omega) rfl (fun i s k1 k2 hs=>by
     subst hs
     have:=(hw _ (AV k1 k2)).names
     refine ⟨BQ t a,?_,rfl⟩
     unfold slices_Clone_string
     rw [AM k1 k2,bs,JG (by unfold B9; omega),bs,bs]
     congr 1
     exact YV k1 k2)
   rw [h1]; rfl
 ·simp only [h,ne_eq,not_false_eq_true,if_true,decide_false,Bool.not_false]
theorem cX {t:AD} (hf:CA t) (a:Int):Kb t a=some (IL t a):=by
 unfold Kb IL
 rw [cb hf,bs]
 by_cases h:(BJ t).2=0
 ·have hok:=II h
  rw [Bool.and_self]
  simp only [h,ne_eq,not_true_eq_false,if_false]
  cases hi:Ip t a
  ·rfl
  ·rw [if_pos rfl,if_pos rfl]
   have hr:=Mv.1 hi
   have hl:=LG hf (Int.le_refl _) hok.par hr.2
   have hw:=LF hf (Int.le_refl _) hok.par hr.2
   rw [if_neg (by decide),V4 hf (Int.le_refl _) hok.par hr.1 hr.2,bs]
   rw [Hx (fun i=>(BQ t a).take i.toNat) (by omega) (by simp)]
   ·rw [bs,Int.toNat_natCast,List.take_length]
   ·intro i k1 k2
    have:=(hw _ (AV k1 k2)).names
    rw [AM k1 k2,bs,JG (by unfold B9; omega),bs,DY (by rw [List.length_take]; simp; unfold B9; omega),IA k1 k2]
    rfl
 ·simp only [h,ne_eq,not_false_eq_true,if_true,decide_false,Bool.not_false]
end Go.Sf.Sc
namespace Go.Sf.Sc
open Go Go.Sf
def Nw (t:AD):Nat->Int->List Int
 | 0,_=>[]
 | n+1,a=>if a<0 then [] else a::Nw t n (par t a)
theorem WI (t:AD):∀ (n:Nat) (a:Int),(Nw t n a).length<=n
 | 0,_=>by simp [Nw]
 | n+1,a=>by
  rw [Nw]
  split
  ·simp
  ·have:=WI t n (par t a); simp; omega
def Jz (t:AD) (a b:Int):Bool:=(Nw t (a+1).toNat a).any fun x=>decide (b=x)
theorem Vv {t:AD} (h12:t.Nodes.length<=12) (hp:GG t t.Nodes.length):∀ (n:Nat) (a:Int) (l:List Int),a<t.Nodes.length->a<n->l.length+n<=1000 ->
  ∃ x,Ls (ρ:=List Int) (fun (s0:Int × List Int)=>
 if (decide (0<=s0.1))=true then
 (CX s0.2 [s0.1]).bind fun x17=>
 (AL t.Nodes s0.1).bind fun x11=>
 some (.next (x11.Parent,x17))
 else
 some (.brk (s0.1,s0.2))) (a,l) (.inl (x,l++Nw t n a))
 | 0,a,l,h1,h2,_=>by
  refine ⟨a,.brk ?_⟩
  rw [if_neg (by simp; omega)]
  simp [Nw]
 | n+1,a,l,h1,h2,h3=>by
  by_cases h0:a<0
  ·refine ⟨a,.brk ?_⟩
   rw [if_neg (by simp; omega)]
   simp [Nw,h0]
  ·have hq:=hp a (by omega) h1
   obtain ⟨x,hx⟩:=Vv h12 hp n (par t a) (l++[a]) (by omega) (by omega) (by simp; omega)
   refine ⟨x,.next (s':=(par t a,l++[a])) ?_ ?_⟩
   ·rw [if_pos (by simp; omega),DY (by simp; unfold B9; omega),bs,AM (by omega) h1]; rfl
   ·rw [Nw,if_neg h0,show l++a::Nw t n (par t a)=(l++[a])++Nw t n (par t a) by simp]
    exact hx
theorem Ze {t:AD} (h:IF t) {a b:Int} (ha:0<=a) (ha2:a<t.Nodes.length):Im t a b=some (Jz t a b):=by
 have h12:=h.nodes
 obtain ⟨x,hx⟩:=Vv h12 h.par (a+1).toNat a [] ha2 (by omega) (by simp; omega)
 have hl:=WI t (a+1).toNat a
 unfold Im JQ
 rw [hx.eq,EY]
 simp only [List.nil_append]
 unfold slices_Reverse_int
 rw [if_pos (by unfold B9; omega)]
 simp only [bs]
 rw [T2,bs]
 unfold Jz
 rw [List.any_reverse]
def Tf (t:AD) (e f g:Int):Bool:=
 decide ((BJ t).2=0)&&(Ip t f&&Ip t g)&&(decide (0<=e)&&decide (e<t.Edges.length))&&(Jz t f (AB t.Edges e).From&&Jz t g (AB t.Edges e).To)
theorem eb {t:AD} (hf:CA t) (e f g:Int):Ic t e f g=some (Tf t e f g):=by
 unfold Ic Tf
 rw [SU hf,bs,show [f,g].all (Ip t)=(Ip t f&&Ip t g) by simp]
 by_cases h:(BJ t).2=0
 ·simp only [h,ne_eq,not_true_eq_false,if_false]
  have hok:=II h
  cases hi:(Ip t f&&Ip t g)
  ·rfl
  ·rw [zzZ,Mv,Mv] at hi
   by_cases he:0<=e∧e<t.Edges.length
   ·rw [if_neg (by simp; omega),AM he.1 he.2]
    simp only [bs,Ze hok hi.1.1 hi.1.2,Ze hok hi.2.1 hi.2.2,he.1,he.2,decide_true,Bool.true_and]
    cases Jz t f (AB t.Edges e).From <;> rfl
   ·rw [if_pos (by simp; omega)]
    have:(decide (0<=e)&&decide (e<t.Edges.length))=false:=by rw [Bool.eq_false_iff]; simpa using he
    rw [this]; simp
 ·simp [h]
def Lf (n:Int) (x:Term):Bool:=(((decide ((-1)<=x.Var))&&(decide (x.Var<n)))&&(decide ((-1000000)<=x.Add)))&&(decide (x.Add<=1000000))
def Ks (n:Int) (x:Test):Int:=if ¬ x.Kind=1∧¬ x.Kind=2 then 1 else if (Lf n x.Left&&Lf n x.Right)=true then 0 else 6
def Ia (n:Int) (l:List Test):Int:=if n<0∨12<n then 6 else if 40<l.length then 3 else (fst (fun i=>nz (Ks n (AB l i))) 0 l.length).getD 0
theorem eo (n:Int) (x:Test):Iz n x=some (Ks n x):=by
 unfold Iz Ks
 simp only [show ∀ n x,IN n x=some (Lf n x) from fun _ _=>rfl,bs]
 generalize Lf n x.Left=b1
 generalize Lf n x.Right=b2
 cases b1 <;> cases b2
 all_goals
  simp only [bs,zzX,Bool.or_eq_true,zzZ,Bool.not_eq_true',decide_eq_false_iff_not,Bool.not_eq_false',Bool.or_eq_false_iff,Bool.and_eq_false_iff,ne_eq]
  repeat' (first | rfl | (exfalso; omega; done) | split)
  all_goals (first | rfl | (exfalso; omega) | omega | simp_all | (simp_all; omega))
theorem Zj (n:Int) (x:Term):I4 n x=some (if Lf n x=true then 0 else 6):=by
 unfold I4 Lf
 simp only [bs,zzX,Bool.or_eq_true,zzZ,Bool.not_eq_true',decide_eq_false_iff_not,Bool.not_eq_false',Bool.or_eq_false_iff,Bool.and_eq_false_iff,ne_eq]
 repeat' (first | rfl | (exfalso; omega; done) | split)
 all_goals (first | rfl | (exfalso; omega) | omega | simp_all | (simp_all; omega))
theorem fA (n:Int) (x:Test):MO n x=some (Ks n x):=by
 unfold MO Ks
 simp only [Zj,bs]
 generalize Lf n x.Left=b1
 generalize Lf n x.Right=b2
 cases b1 <;> cases b2
 all_goals
  simp only [bs,zzX,Bool.or_eq_true,zzZ,Bool.not_eq_true',decide_eq_false_iff_not,Bool.not_eq_false',Bool.or_eq_false_iff,Bool.and_eq_false_iff,ne_eq]
  repeat' (first | rfl | (exfalso; omega; done) | split)
  all_goals (first | rfl | (exfalso; omega) | omega | simp_all | (simp_all; omega))
theorem cU (n:Int) (l:List Test):H2 n l=some (Ia n l):=by
 unfold H2 Ia
 rw [DO (fun i=>nz (Ks n (AB l i))),GQ]
 ·simp only [bs,zzX,Bool.or_eq_true,zzZ,Bool.not_eq_true',decide_eq_false_iff_not,Bool.not_eq_false',Bool.or_eq_false_iff,Bool.and_eq_false_iff,ne_eq]
  repeat' (first | rfl | (exfalso; omega; done) | split)
  all_goals (first | rfl | (exfalso; omega) | omega | simp_all | (simp_all; omega))
 ·intro i h1 h2 _
  rw [AM h1 h2,bs,eo,bs,OC]
theorem cf (n:Int) (l:List Test):Ka n l=some (Ia n l):=by
 unfold Ka Ia
 rw [DO (fun i=>nz (Ks n (AB l i))),GQ]
 ·simp only [bs,zzX,Bool.or_eq_true,zzZ,Bool.not_eq_true',decide_eq_false_iff_not,Bool.not_eq_false',Bool.or_eq_false_iff,Bool.and_eq_false_iff,ne_eq]
  repeat' (first | rfl | (exfalso; omega; done) | split)
  all_goals (first | rfl | (exfalso; omega) | omega | simp_all | (simp_all; omega))
 ·intro i h1 h2 _
  rw [AM h1 h2,bs,fA,bs,OC]
def NW (t:AD) (p:Pattern) (node ix:Int):Attr × Bool:=
 if node<0∨p.Graph.Nodes.length<=node then (default,false) else
 let l:=(IL t (AB p.Graph.Nodes node)).1
 if ix<0∨l.length<=ix then (default,false) else (AB l ix,true)
theorem Qv {t:AD} (hf:CA t) (a:Int):(IL t a).1.length<=600∧((IL t a).2≠0->(IL t a).1=[]):=by
 unfold IL
 split
 ·simp
 ·rename_i h
  have hok:=II (t:=t) (by omega)
  split
  ·rename_i hi
   exact ⟨LG hf (Int.le_refl _) hok.par (Mv.1 hi).2,by simp⟩
  ·simp
theorem cM {t:AD} (hf:CA t) {p:Pattern} (hg:Jc p.Graph) (s:D8):F5 t p s=some (NW t p s.Node s.Attr):=by
 have hn:=hg.nodes
 unfold F5 NW DM
 dsimp only
 rw [BN (by omega) (by omega),bs]
 by_cases h:s.Node<0∨p.Graph.Nodes.length<=s.Node
 ·rw [if_pos (by simp; omega),if_pos h]; rfl
 ·rw [if_neg (by simp; omega),if_neg h,AM (by omega) (by omega),bs,Vz hf,bs]
  have hl:=(Qv hf (AB p.Graph.Nodes s.Node)).1
  rw [BN (by omega) (by omega),bs]
  by_cases h2:s.Attr<0∨(IL t (AB p.Graph.Nodes s.Node)).1.length<=s.Attr
  ·rw [if_pos (by simp; omega),if_pos h2]; rfl
  ·rw [if_neg (by simp; omega),if_neg h2,AM (by omega) (by omega)]; rfl
theorem cY {t:AD} (hf:CA t) {p:Pattern} (node ix:Int):LY t p node ix=some (NW t p node ix):=by
 unfold LY NW
 dsimp only
 by_cases h:node<0∨p.Graph.Nodes.length<=node
 ·rw [if_pos (by simp; omega),if_pos h]; rfl
 ·rw [if_neg (by simp; omega),if_neg h,AM (by omega) (by omega),bs,cX hf,bs]
  have hl:=(Qv hf (AB p.Graph.Nodes node)).2
  by_cases h2:ix<0∨(IL t (AB p.Graph.Nodes node)).1.length<=ix
  ·rw [if_pos (by simp; omega),if_pos h2]; rfl
  ·by_cases he:(IL t (AB p.Graph.Nodes node)).2=0
   ·rw [if_neg (by simp [he]; omega),if_neg h2,AM (by omega) (by omega)]; rfl
   ·rw [hl he] at h2; simp at h2; omega
end Go.Sf.Sc
namespace Go.Sf
variable {σ ρ:Type}
def ff (s:σ) (o:Option ρ):CY σ ρ:=match o with
 | none=>.next s
 | some r=>.ret r
def bG (s:σ) (o:Option ρ):σ ⊕ ρ:=match o with
 | none=>.inl s
 | some r=>.inr r
theorem UF {f:Int->σ->Option (CY σ ρ)} (g:Int->σ) (c:Int->Option ρ):∀ (n:Nat) (a:Int),
  (∀ i,a<=i->i<a+n->(∀ j,a<=j->j<i->c j=none)->f i (g i)=some (ff (g (i+1)) (c i)))->forGo f n a (g a)=some (bG (g (a+n)) (GB c n a))
 | 0,a,_=>by simp [forGo,GB,bG]
 | n+1,a,h=>by
  have h0:=h a (Int.le_refl _) (by omega) (fun j h1 h2=>by omega)
  rw [G5,h0,GB]
  cases hc:c a with
  | some r=>rfl
  | none=>
   simp only [ff]
   rw [show a+((n+1:Nat):Int)=a+1+n by omega]
   refine UF g c n (a+1) (fun i h1 h2 h3=>h i (by omega) (by omega) (fun j h4 h5=>?_))
   by_cases hj:j=a
   ·subst hj; exact hc
   ·exact h3 j (by omega) h5
theorem Ly {f:Int->σ->Option (CY σ ρ)} (g:Int->σ) (c:Int->Option ρ) {a b:Int} {s:σ} (hab:a<=b) (hs:s=g a) (h:∀ i,a<=i->i<b->(∀ j,a<=j->j<i->c j=none)->f i (g i)=some (ff (g (i+1)) (c i))):forR f a b s=some (bG (g b) (fst c a b)):=by
 subst hs
 unfold forR fst
 have:=UF g c (b - a).toNat a (fun i h1 h2 h3=>h i h1 (by omega) h3)
 rwa [show a+((b - a).toNat:Int)=b by omega] at this
variable {α:Type}
theorem Io {e:Int} {X:Option Int} {Y:Int} (h:e=0->X=some Y):(if (!decide (e=0))=true then some e else X)=some (if e≠0 then e else Y):=by
 by_cases he:e=0
 ·simp [he,h he]
 ·simp [he]
theorem OS {e:Int} {v:α} {X:Option α} {Y:α} (h:e=0->X=some Y):(if (!decide (e=0))=true then some v else X)=some (if e≠0 then v else Y):=by
 by_cases he:e=0
 ·simp [he,h he]
 ·simp [he]
theorem O2 {P:Prop} [Decidable P] {b:Bool} {v:α} {X:Option α} {Y:α} (hb:b=true↔P) (h:¬ P->X=some Y):(if b=true then some v else X)=some (if P then v else Y):=by
 by_cases hp:P
 ·rw [if_pos (hb.2 hp),if_pos hp]
 ·rw [if_neg (fun h=>hp (hb.1 h)),if_neg hp,h hp]
theorem Vk {b:Bool} {v:α} {X:Option α} {Y:α} (h:b=true->X=some Y):(if (!b)=true then some v else X)=some (if b=false then v else Y):=by
 cases b
 ·rfl
 ·simpa using h rfl
theorem pW {b:Bool} {v:α} {X:Option α} {Y:α} (h:b=false->X=some Y):(if b=true then some v else X)=some (if b=true then v else Y):=by
 cases b
 ·simpa using h rfl
 ·rfl
end Go.Sf
namespace Go.Sf.Sc
open Go Go.Sf
def OQ (t:AD) (p:Pattern) (s:D8):Bool:=!(NW t p s.Node s.Attr).2||decide (s.Term.Var < -1)||decide (p.Vars<=s.Term.Var)||(decide (s.Term.Add < -1000000)||decide (1000000<s.Term.Add))
def J2 (p:Pattern) (v:Int):Bool:=p.Slots.any fun s=>decide (s.Term.Var=v)
def I3 (t:AD) (p:Pattern):Int:=
 if (BJ t).2≠0 then (BJ t).2 else if C4 p.Graph≠0 then C4 p.Graph else if FR t p.Graph=false then 13 else
 if p.Vars<0∨12<p.Vars then 6 else if 10<p.Slots.length∨10<p.Tests.length then 3 else
 if (p.Slots.any (OQ t p))=true then 6 else if Ia p.Vars p.Tests≠0 then Ia p.Vars p.Tests else
 if anyR (fun v=>!J2 p v) 0 p.Vars=true then 9 else 0
def JR (p:Pattern) (i:Int):List Bool:=(List.range p.Vars.toNat).map fun (v:Nat)=>(p.Slots.take i.toNat).any fun s=>decide (s.Term.Var=(v:Int))
theorem XT {p:Pattern}:JR p 0=List.replicate p.Vars.toNat false:=by
 unfold JR
 refine List.ext_getElem (by simp) (fun n h1 h2=>by simp)
theorem Yq (p:Pattern) (i:Int):(JR p i).length=p.Vars.toNat:=by simp [JR]
theorem Yr {p:Pattern} {i:Int} (h0:0<=i) (h1:i<p.Slots.length) (hv:0<=(AB p.Slots i).Term.Var):CB (JR p i) (AB p.Slots i).Term.Var true=JR p (i+1):=by
 unfold CB
 refine List.ext_getElem (by simp [JR]) (fun n k1 k2=>?_)
 simp only [JR,List.getElem_set,List.getElem_map,List.getElem_range,IA h0 h1,List.any_append,List.any_cons,List.any_nil,Bool.or_false]
 by_cases hn:(AB p.Slots i).Term.Var.toNat=n
 ·rw [if_pos hn,decide_eq_true (show (AB p.Slots i).Term.Var=(n:Int) by omega),Bool.or_true]
 ·rw [if_neg hn,decide_eq_false (show ¬ (AB p.Slots i).Term.Var=(n:Int) by omega),Bool.or_false]
theorem XS {p:Pattern} {i:Int} (h0:0<=i) (h1:i<p.Slots.length) (hv:(AB p.Slots i).Term.Var<0):JR p i=JR p (i+1):=by
 refine List.ext_getElem (by simp [JR]) (fun n k1 k2=>?_)
 simp only [JR,List.getElem_map,List.getElem_range,IA h0 h1,List.any_append,List.any_cons,List.any_nil,Bool.or_false]
 rw [decide_eq_false (show ¬ (AB p.Slots i).Term.Var=(n:Int) by omega),Bool.or_false]
theorem Yp (p:Pattern):((JR p p.Slots.length).any fun x=>false==x)=anyR (fun v=>!J2 p v) 0 p.Vars:=by
 rw [Bool.eq_iff_iff,List.any_eq_true,JF]
 simp only [JR,Int.toNat_natCast,List.take_length,List.mem_map,List.mem_range]
 constructor
 ·rintro ⟨x,⟨v,hv,rfl⟩,hx⟩
  refine ⟨v,by omega,by omega,?_⟩
  unfold J2
  revert hx
  cases p.Slots.any fun s=>decide (s.Term.Var=(v:Int)) <;> simp
 ·rintro ⟨v,h0,h1,hx⟩
  refine ⟨_,⟨v.toNat,by omega,rfl⟩,?_⟩
  rw [Int.toNat_of_nonneg h0]
  unfold J2 at hx
  revert hx
  cases p.Slots.any fun s=>decide (s.Term.Var=v) <;> simp
theorem bw {α ρ:Type} [Inhabited α] {l:List α} {q:α->Bool} {v:ρ}:fst (fun i=>if q (AB l i)=true then some v else none) 0 l.length=if l.any q=true then some v else none:=by
 rw [Nd,JW]
theorem Tk {t:AD} (hf:CA t) (p:Pattern):EA t p=some (I3 t p):=by
 unfold EA I3
 rw [P2 hf,bs,My,bs]
 refine Io fun ht=>Io fun hg=>?_
 have hgo:=F8 hg
 have e:((BU p.Graph.Nodes (fun y0=>Hg y0 t)).bind fun x32=>
   (if x32=true then some true else ((B7 p.Graph.Edges (fun y0=>Hh y0 t)).bind fun x38=>some (x38))))=some (!FR t p.Graph):=by
  unfold FR
  rw [show (fun y0=>Hg y0 t)=(fun (n:Int)=>some (decide (t.Nodes.length<=n))) from rfl,Xl,show (fun y0=>Hh y0 t)=(fun (e:DS)=>some (decide (t.Edges.length<=e.Type'))) from rfl,bf]
  simp only [bs]
  cases p.Graph.Nodes.any fun n=>decide (t.Nodes.length<=n) <;> simp
 rw [←Option.bind_assoc,e,bs]
 refine Vk fun htd=>?_
 unfold DM
 simp only [bs]
 refine O2 (by simp; try omega) fun hv=>O2 (by simp; try omega) fun hl=>?_
 unfold KN
 rw [if_pos (by omega),bs,←XT,BN (show -9223372036854775808<=p.Vars - 1 by omega) (by omega),Ly (JR p) (fun i=>if OQ t p (AB p.Slots i)=true then some 6 else none) (by omega) rfl,bw]
 ·cases hb:p.Slots.any (OQ t p)
  ·simp only [Bool.false_eq_true,if_false,bG,EY,cU,bs,bj,Yp]
   by_cases hte:Ia p.Vars p.Tests=0
   ·simp only [hte]
    cases anyR (fun v=>!J2 p v) 0 p.Vars <;> rfl
   ·simp [hte]
  ·rfl
 ·intro i h1 h2 _
  rw [AM h1 h2,bs,cM hf hgo,bs]
  unfold OQ
  by_cases hb:(NW t p (AB p.Slots i).Node (AB p.Slots i).Attr).2=true
  ·by_cases hvar:(AB p.Slots i).Term.Var < -1∨p.Vars<=(AB p.Slots i).Term.Var
   ·have e1:(decide (-1<=(AB p.Slots i).Term.Var)&&decide ((AB p.Slots i).Term.Var<=p.Vars - 1))=false:=by rw [Bool.eq_false_iff]; simp; omega
    have e2:(decide ((AB p.Slots i).Term.Var < -1)||decide (p.Vars<=(AB p.Slots i).Term.Var))=true:=by simp; omega
    rw [hb,e1,Bool.or_assoc (!true),e2]; rfl
   ·have e1:(decide (-1<=(AB p.Slots i).Term.Var)&&decide ((AB p.Slots i).Term.Var<=p.Vars - 1))=true:=by simp; omega
    have e2:(decide ((AB p.Slots i).Term.Var < -1)||decide (p.Vars<=(AB p.Slots i).Term.Var))=false:=by rw [Bool.eq_false_iff]; simp; omega
    rw [hb,e1,Bool.or_assoc (!true),e2]
    by_cases ha:(AB p.Slots i).Term.Add < -1000000∨1000000<(AB p.Slots i).Term.Add
    ·have e3:(decide (-1000000<=(AB p.Slots i).Term.Add)&&decide ((AB p.Slots i).Term.Add<=1000000))=false:=by rw [Bool.eq_false_iff]; simp; omega
     have e4:(decide ((AB p.Slots i).Term.Add < -1000000)||decide (1000000<(AB p.Slots i).Term.Add))=true:=by simp; omega
     rw [e3,e4]; rfl
    ·have e3:(decide (-1000000<=(AB p.Slots i).Term.Add)&&decide ((AB p.Slots i).Term.Add<=1000000))=true:=by simp; omega
     have e4:(decide ((AB p.Slots i).Term.Add < -1000000)||decide (1000000<(AB p.Slots i).Term.Add))=false:=by rw [Bool.eq_false_iff]; simp; omega
     rw [e3,e4]
     by_cases h0:0<=(AB p.Slots i).Term.Var
     ·simp only [Bool.not_true,Bool.false_eq_true,if_false,bs,h0,decide_true,if_true,Bool.or_false]
      rw [AM h0 (by rw [Yq]; omega),bs,Yr h1 h2 h0]; rfl
     ·simp only [Bool.not_true,Bool.false_eq_true,if_false,bs,h0,decide_false,Bool.or_false]
      rw [XS h1 h2 (by omega)]; rfl
  ·rw [Bool.not_eq_true] at hb
   rw [hb]; rfl
theorem aq (p:Pattern) (v:Int):J6 p v=some (J2 p v):=by
 unfold J6 J2
 rw [C7 (fun i=>decide ((AB p.Slots i).Term.Var=v)) true,JW]
 ·cases anyR (fun i=>decide ((AB p.Slots i).Term.Var=v)) 0 p.Slots.length <;> rfl
 ·intro i h1 h2 _
  rw [AM h1 h2,bs,Jy]
theorem ar {t:AD} (hf:CA t) (p:Pattern):Jg t p=some (I3 t p):=by
 unfold Jg I3
 rw [SV hf,bs,OD,bs]
 refine Io fun ht=>Io fun hg=>?_
 have hgo:=F8 hg
 rw [SW hgo,bs]
 refine Vk fun htd=>O2 (by simp; try omega) fun hv=>O2 (by simp; try omega) fun hl=>?_
 rw [C7 (fun i=>OQ t p (AB p.Slots i)) 6,←JW]
 ·cases hb:p.Slots.any (OQ t p)
  ·simp only [Bool.false_eq_true,if_false,EY,cf,bs]
   by_cases hte:Ia p.Vars p.Tests=0
   ·simp only [hte]
    rw [C7 (fun v=>!J2 p v) 9]
    ·cases anyR (fun v=>!J2 p v) 0 p.Vars <;> rfl
    ·intro i h1 h2 _
     rw [aq,bs,Jy]
   ·simp [hte]
  ·rfl
 ·intro i h1 h2 _
  rw [AM h1 h2,bs,cY hf,bs]
  unfold OQ Kq
  simp only [bs]
  have e:(!(decide (-1000000<=(AB p.Slots i).Term.Add)&&decide ((AB p.Slots i).Term.Add<=1000000)))=(decide ((AB p.Slots i).Term.Add < -1000000)||decide (1000000<(AB p.Slots i).Term.Add)):=by
   rw [Bool.not_and,←decide_not,←decide_not]
   congr 1 <;> rw [decide_eq_decide] <;> omega
  rw [e]
  cases (!(NW t p (AB p.Slots i).Node (AB p.Slots i).Attr).2||decide ((AB p.Slots i).Term.Var < -1)||decide (p.Vars<=(AB p.Slots i).Term.Var))
  ·simp only [Bool.false_eq_true,if_false,bs,Bool.false_or,Jy]
  ·rfl
end Go.Sf.Sc
namespace Go.Sf
theorem VW {l:List Int} {R:Int->Int->Prop} (h:l.Pairwise R) {i j:Int} (h0:0<=i) (h1:i<j) (h2:j<l.length):R (AB l i) (AB l j):=by
 have:=(List.pairwise_iff_getElem.1 h) i.toNat j.toNat (by omega) (by omega) (by omega)
 unfold AB
 rw [List.getD_eq_getElem?_getD,List.getD_eq_getElem?_getD,List.getElem?_eq_getElem (by omega),List.getElem?_eq_getElem (by omega)]
 exact this
theorem VF {l:List Int} {R:Int->Int->Prop} (h:∀ i j:Int,0<=i->i<j->j<l.length->R (AB l i) (AB l j)):l.Pairwise R:=by
 refine List.pairwise_iff_getElem.2 (fun i j h1 h2 h3=>?_)
 have:=h i j (by omega) (by omega) (by omega)
 unfold AB at this
 rw [List.getD_eq_getElem?_getD,List.getD_eq_getElem?_getD,Int.toNat_natCast,Int.toNat_natCast,List.getElem?_eq_getElem h1,List.getElem?_eq_getElem h2] at this
 exact this
end Go.Sf
namespace Go.Sf.Sc
open Go Go.Sf
theorem S2 {c:Int->Option Int} {a b:Int} (hc:∀ i,c i≠some 0) (h:(fst c a b).getD 0=0):∀ i,a<=i->i<b->c i=none:=by
 have:fst c a b=none:=by
  cases hf:fst c a b with
  | none=>rfl
  | some r=>
   rw [hf] at h
   simp only [Option.getD] at h
   subst h
   obtain ⟨i,_,_,h3,_⟩:=DP hf
   exact (hc i h3).elim
 exact DF.1 this
end Go.Sf.Sc
namespace Go.Sf.Sc
open Go Go.Sf
def JY (a b:Graph) (m:Morphism) (i:Int):Option Int:=
 if AB m.Nodes i<0∨b.Nodes.length<=AB m.Nodes i then some 6 else if AB b.Nodes (AB m.Nodes i)≠AB a.Nodes i then some 13 else none
def IS (a b:Graph) (m:Morphism) (i:Int):Option Int:=
 if AB m.Edges i<0∨b.Edges.length<=AB m.Edges i then some 6 else
 if (AB a.Edges i).Type'≠(AB b.Edges (AB m.Edges i)).Type' then some 13 else
 if AB m.Nodes (AB a.Edges i).From≠(AB b.Edges (AB m.Edges i)).From∨AB m.Nodes (AB a.Edges i).To≠(AB b.Edges (AB m.Edges i)).To then some 11 else none
def Kx (a b:Graph) (m:Morphism):Int:=
 if C4 a≠0 then C4 a else if C4 b≠0 then C4 b else if m.Nodes.length≠a.Nodes.length∨m.Edges.length≠a.Edges.length then 20 else
 match fst (JY a b m) 0 m.Nodes.length with
 | some e=>e
 | none=>(fst (IS a b m) 0 m.Edges.length).getD 0
structure aT (a b:Graph) (m:Morphism):Prop where
 ga:Jc a
 gb:Jc b
 nlen:m.Nodes.length=a.Nodes.length
 elen:m.Edges.length=a.Edges.length
 node:∀ i:Int,0<=i->i<m.Nodes.length->(0<=AB m.Nodes i∧AB m.Nodes i<b.Nodes.length)∧AB b.Nodes (AB m.Nodes i)=AB a.Nodes i
 edge:∀ i:Int,0<=i->i<m.Edges.length->(0<=AB m.Edges i∧AB m.Edges i<b.Edges.length)∧(AB a.Edges i).Type'=(AB b.Edges (AB m.Edges i)).Type' ∧
  AB m.Nodes (AB a.Edges i).From=(AB b.Edges (AB m.Edges i)).From∧AB m.Nodes (AB a.Edges i).To=(AB b.Edges (AB m.Edges i)).To
theorem ah {a b:Graph} {m:Morphism} (h:Kx a b m=0):aT a b m:=by
 unfold Kx at h
 split at h
 ·omega
 split at h
 ·omega
 split at h
 ·cases h
 rename_i h1 h2 h3
 have hn:fst (JY a b m) 0 m.Nodes.length=none:=by
  split at h
  ·rename_i r hr
   obtain ⟨i,_,_,k,_⟩:=DP hr
   subst h
   unfold JY at k
   split at k
   ·cases k
   ·split at k <;> cases k
  ·assumption
 rw [hn] at h
 have he:=S2 (fun i=>by
  unfold IS
  split
  ·simp
  ·split
   ·simp
   ·split <;> simp) h
 refine ⟨F8 (by omega),F8 (by omega),by omega,by omega,fun i i1 i2=>?_,fun i i1 i2=>?_⟩
 ·have:=DF.1 hn i i1 i2
  unfold JY at this
  split at this
  ·cases this
  ·split at this
   ·cases this
   ·rename_i x y
    exact ⟨by omega,Classical.not_not.1 y⟩
 ·have:=he i i1 i2
  unfold IS at this
  split at this
  ·cases this
  ·split at this
   ·cases this
   ·split at this
    ·cases this
    ·rename_i x y z
     exact ⟨by omega,Classical.not_not.1 y,Classical.not_not.1 (fun h=>z (.inl h)),Classical.not_not.1 (fun h=>z (.inr h))⟩
theorem ai (a b:Graph) (m:Morphism):E1 a b m=some (Kx a b m):=by
 unfold E1 Kx
 rw [My,bs,My,bs]
 refine Io fun ha=>Io fun hb=>O2 (by simp; try omega) fun hl=>?_
 have ga:=F8 ha
 have gb:=F8 hb
 rw [DO (JY a b m),Hp]
 ·cases hn:fst (JY a b m) 0 m.Nodes.length with
  | some e=>rfl
  | none=>
   have hn2:=DF.1 hn
   dsimp only
   rw [DO (IS a b m),GQ]
   intro i i1 i2 _
   unfold IS
   rw [AM i1 i2,bs]
   by_cases h1:AB m.Edges i<0∨b.Edges.length<=AB m.Edges i
   ·rw [if_pos (by simpa using h1),if_pos h1]; rfl
   ·have hf:=ga.fit _ (AV (l:=a.Edges) i1 (by omega))
    rw [if_neg (by simpa using h1),if_neg h1,AM i1 (by omega),bs,AM (by omega) (by omega),bs]
    by_cases h2:(AB a.Edges i).Type'=(AB b.Edges (AB m.Edges i)).Type'
    ·rw [if_neg (by simpa using h2),if_neg (by simpa using h2),AM (by omega) (by omega),bs]
     by_cases h3:AB m.Nodes (AB a.Edges i).From=(AB b.Edges (AB m.Edges i)).From
     ·rw [if_neg (by simpa using h3),AM (by omega) (by omega),bs,bs]
      by_cases h4:AB m.Nodes (AB a.Edges i).To=(AB b.Edges (AB m.Edges i)).To
      ·rw [if_neg (by simpa using h4),if_neg (by simp [h3,h4])]; rfl
      ·rw [if_pos (by simpa using h4),if_pos (.inr h4)]; rfl
     ·rw [if_pos (by simpa using h3),bs,if_pos rfl,if_pos (.inl h3)]; rfl
    ·rw [if_pos (by simpa using h2),if_pos h2]; rfl
 ·intro i i1 i2 _
  unfold JY
  rw [AM i1 i2,bs]
  by_cases h1:AB m.Nodes i<0∨b.Nodes.length<=AB m.Nodes i
  ·rw [if_pos (by simpa using h1),if_pos h1]; rfl
  ·rw [if_neg (by simpa using h1),if_neg h1,AM (by omega) (by omega),bs,AM i1 (by omega),bs]
   by_cases h2:AB b.Nodes (AB m.Nodes i)=AB a.Nodes i
   ·rw [if_neg (by simpa using h2),if_neg (by simpa using h2)]; rfl
   ·rw [if_pos (by simpa using h2),if_pos h2]; rfl
theorem UY {x y:Prop} [Decidable x] [Decidable y]:(if decide x=true then some true else some (decide y))=some (decide (x∨y)):=by
 by_cases hx:x <;> simp [hx]
theorem am (a b:Graph) (m:Morphism):Jf a b m=some (Kx a b m):=by
 unfold Jf Kx
 rw [OD,bs,OD,bs]
 refine Io fun ha=>Io fun hb=>O2 (by simp; try omega) fun hl=>?_
 have ga:=F8 ha
 have gb:=F8 hb
 rw [show (a.Nodes.length:Int)=m.Nodes.length by omega,show (a.Edges.length:Int)=m.Edges.length by omega,DO (JY a b m),Hp]
 ·cases hn:fst (JY a b m) 0 m.Nodes.length with
  | some e=>rfl
  | none=>
   have hn2:=DF.1 hn
   dsimp only
   rw [DO (IS a b m),GQ]
   intro i i1 i2 _
   unfold IS
   rw [AM i1 i2]
   simp only [bs,UY]
   by_cases h1:AB m.Edges i<0∨b.Edges.length<=AB m.Edges i
   ·rw [if_pos (by simpa using h1),if_pos h1]; rfl
   ·have hf:=ga.fit _ (AV (l:=a.Edges) i1 (by omega))
    rw [if_neg (by simpa using h1),if_neg h1,AM i1 (by omega),bs,AM (by omega) (by omega),bs]
    by_cases h2:(AB a.Edges i).Type'=(AB b.Edges (AB m.Edges i)).Type'
    ·rw [if_neg (by simpa using h2),if_neg (by simpa using h2),AM (by omega) (by omega),bs]
     by_cases h3:AB m.Nodes (AB a.Edges i).From=(AB b.Edges (AB m.Edges i)).From
     ·rw [if_neg (by simpa using h3),AM (by omega) (by omega),bs,bs]
      by_cases h4:AB m.Nodes (AB a.Edges i).To=(AB b.Edges (AB m.Edges i)).To
      ·rw [if_neg (by simpa using h4),if_neg (by simp [h3,h4])]; rfl
      ·rw [if_pos (by simpa using h4),if_pos (.inr h4)]; rfl
     ·rw [if_pos (by simpa using h3),bs,if_pos rfl,if_pos (.inl h3)]; rfl
    ·rw [if_pos (by simpa using h2),if_pos h2]; rfl
 ·intro i i1 i2 _
  unfold JY
  rw [AM i1 i2]
  simp only [bs,UY]
  by_cases h1:AB m.Nodes i<0∨b.Nodes.length<=AB m.Nodes i
  ·rw [if_pos (by simpa using h1),if_pos h1]; rfl
  ·rw [if_neg (by simpa using h1),if_neg h1,AM (by omega) (by omega),bs,AM i1 (by omega),bs]
   by_cases h2:AB b.Nodes (AB m.Nodes i)=AB a.Nodes i
   ·rw [if_neg (by simpa using h2),if_neg (by simpa using h2)]; rfl
   ·rw [if_pos (by simpa using h2),if_pos h2]; rfl
def Lv (l:List Int):Bool:=!anyR (fun i=>anyR (fun j=>decide (AB l i=AB l j)) 0 i) 0 l.length
theorem OT {l:List Int}:Lv l=true↔l.Nodup:=by
 unfold Lv
 rw [Bool.not_eq_true',EJ]
 constructor
 ·intro h
  refine VF (fun i j h0 h1 h2=>?_)
  have:=h j (by omega) h2
  rw [EJ] at this
  have:=this i h0 h1
  rw [decide_eq_false_iff_not] at this
  exact fun e=>this e.symm
 ·intro h i i1 i2
  rw [EJ]
  intro j j1 j2
  rw [decide_eq_false_iff_not]
  exact fun e=>VW h j1 j2 i2 e.symm
theorem al (l:List Int):H0 l=some (Lv l):=by
 unfold H0 Lv
 rw [C7 (fun i=>anyR (fun j=>decide (AB l i=AB l j)) 0 i) false]
 ·cases anyR (fun i=>anyR (fun j=>decide (AB l i=AB l j)) 0 i) 0 l.length <;> rfl
 ·intro i i1 i2 _
  rw [C7 (fun j=>decide (AB l i=AB l j)) false]
  ·cases anyR (fun j=>decide (AB l i=AB l j)) 0 i <;> rfl
  ·intro j j1 j2 _
   rw [AM i1 i2,bs,AM j1 (by omega),bs,Jy]
theorem Ud {l:List Int} (hl:l.length<=1000):∃ k,HZ l=some k∧decide (k=(l.length:Int))=Lv l:=by
 have hs:(Nh l).length=l.length:=(Mp l).length_eq
 refine ⟨((Go.Lib.compact (Nh l)).length:Int),?_,?_⟩
 ·unfold HZ slices_Clone_int slices_Sort_int slices_Compact_int
  rw [JG (by unfold B9; omega),bs,if_pos (by unfold B9; omega),bs,if_pos (by rw [hs]; unfold B9; omega),bs]
 ·rw [Bool.eq_iff_iff,OT,zzX,←(Mp l).nodup_iff,←O3 (NG l),hs]
  omega
def NE (m:Morphism):Bool:=Lv m.Nodes&&Lv m.Edges
theorem l9 {a b:Graph} {m:Morphism} (h:Kx a b m=0):EC a b m=some (NE m):=by
 have ho:=ah h
 have:=ho.ga.nodes
 have:=ho.ga.edges
 have:=ho.nlen
 have:=ho.elen
 obtain ⟨k,k1,k2⟩:=Ud (l:=m.Nodes) (by omega)
 obtain ⟨j,j1,j2⟩:=Ud (l:=m.Edges) (by omega)
 unfold EC NE
 rw [ai,h,bs,if_pos (decide_eq_true rfl),k1]
 simp only [bs,j1,k2,j2]
 cases Lv m.Nodes <;> rfl
theorem mD {a b:Graph} {m:Morphism} (h:Kx a b m=0):IX a b m=some (NE m):=by
 unfold IX NE
 rw [am,h,bs,if_pos (decide_eq_true rfl),al]
 simp only [bs,al]
 cases Lv m.Nodes <;> rfl
def T7 (t:AD) (g:Graph) (i:Int):Bool:=Tf t (AB g.Edges i).Type' (AB g.Nodes (AB g.Edges i).From) (AB g.Nodes (AB g.Edges i).To)
end Go.Sf.Sc
namespace Go.Sf.Sc
open Go Go.Sf
structure OM (p:Pattern):Prop where
 nodes:p.Graph.Nodes.length<=45
 edges:p.Graph.Edges.length<=90
 slots:p.Slots.length<=15
 tests:p.Tests.length<=15
structure Yy (m:Morphism):Prop where
 nodes:m.Nodes.length<=140
 edges:m.Edges.length<=140
inductive D6:AA->Prop where
 | mk (c:AA) (hq:OM c.Pattern) (hm:Yy c.Map) (hk:∀ k∈c.Kids,D6 k):D6 c
theorem D6.q {c:AA} (h:D6 c):OM c.Pattern:=by cases h; assumption
theorem D6.m {c:AA} (h:D6 c):Yy c.Map:=by cases h; assumption
theorem D6.k {c:AA} (h:D6 c):∀ k∈c.Kids,D6 k:=by cases h; assumption
theorem DW {c k:AA} (h:k∈c.Kids):SizeOf.sizeOf k<SizeOf.sizeOf c:=by
 have:=List.sizeOf_lt_of_mem h
 cases c
 simp only [AA.mk.sizeOf_spec] at *
 omega
theorem DA (c:AA):0<SizeOf.sizeOf c:=by
 cases c
 simp only [AA.mk.sizeOf_spec]
 omega
def L9 (c:AA):Bool:=decide (c.Map.Nodes.length=0∧c.Map.Edges.length=0∧c.Pattern.Graph.Nodes.length=0∧c.Pattern.Graph.Edges.length=0∧c.Pattern.Slots.length=0∧c.Pattern.Tests.length=0∧c.Pattern.Vars=0)
theorem ec {c:AA} (hf:D6 c):F6 c=some (L9 c):=by
 have h1:=hf.q
 have h2:=hf.m
 have:=h1.nodes
 have:=h1.edges
 have:=h1.slots
 have:=h1.tests
 have:=h2.nodes
 have:=h2.edges
 unfold F6 L9
 rw [BN (n:=(c.Map.Nodes.length:Int)+c.Map.Edges.length) (by omega) (by omega),BN (n:=(c.Map.Nodes.length:Int)+c.Map.Edges.length+c.Pattern.Graph.Nodes.length) (by omega) (by omega),
  BN (n:=(c.Map.Nodes.length:Int)+c.Map.Edges.length+c.Pattern.Graph.Nodes.length+c.Pattern.Graph.Edges.length) (by omega) (by omega),
  BN (n:=(c.Map.Nodes.length:Int)+c.Map.Edges.length+c.Pattern.Graph.Nodes.length+c.Pattern.Graph.Edges.length+c.Pattern.Slots.length) (by omega) (by omega),
  BN (n:=(c.Map.Nodes.length:Int)+c.Map.Edges.length+c.Pattern.Graph.Nodes.length+c.Pattern.Graph.Edges.length+c.Pattern.Slots.length+c.Pattern.Tests.length) (by omega) (by omega)]
 congr 1
 rw [Bool.eq_iff_iff]
 simp only [zzZ,zzX]
 omega
theorem Zi {c:AA} (hf:D6 c):H6 c=some (L9 c):=by
 have h1:=hf.q
 have h2:=hf.m
 have:=h1.nodes
 have:=h1.edges
 have:=h1.slots
 have:=h1.tests
 have:=h2.nodes
 have:=h2.edges
 unfold H6 L9
 rw [BN (n:=(c.Map.Nodes.length:Int)+c.Map.Edges.length) (by omega) (by omega),BN (n:=(c.Map.Nodes.length:Int)+c.Map.Edges.length+c.Pattern.Graph.Nodes.length) (by omega) (by omega),
  BN (n:=(c.Map.Nodes.length:Int)+c.Map.Edges.length+c.Pattern.Graph.Nodes.length+c.Pattern.Graph.Edges.length) (by omega) (by omega),
  BN (n:=(c.Pattern.Slots.length:Int)+c.Pattern.Tests.length) (by omega) (by omega)]
 congr 1
 rw [Bool.eq_iff_iff]
 simp only [zzZ,zzX]
 omega
def Nf (c:AA):Bool:=
 if c.Kind=1 then decide (c.Kids.length=0)&&L9 c else if c.Kind=2 then decide (c.Kids.length=1)&&L9 c else
 if c.Kind=3∨c.Kind=4 then decide (1<=c.Kids.length)&&L9 c else if c.Kind=5 then decide (c.Kids.length=1) else false
def Lq:Nat->AA->Bool
 | 0,_=>false
 | n+1,c=>Nf c&&c.Kids.all (Lq n)
theorem eu:∀ (N:Nat) (c:AA),SizeOf.sizeOf c<=N->D6 c->∀ n,2*N<=n->BW n c=some (Lq N c)
 | 0,c,h,_,_,_=>by have:=DA c; omega
 | N+1,c,h,hf,n,hn=>by
  obtain ⟨n,rfl⟩:∃ m,n=m+2:=⟨n - 2,by omega⟩
  rw [BW,Lq,ec hf]
  have hk:BV c.Kids (B6 (n+1))=some (!c.Kids.all (Lq N)):=by
   rw [M9 (p:=fun k=>!Lq N k) (fun k hk=>by
    have:=DW hk
    rw [B6,eu N k (by omega) (hf.k k hk) n (by omega)]; rfl),List.all_eq_not_any_not,Bool.not_not]
  rw [hk]
  unfold Nf
  simp only [bs,zzX]
  generalize L9 c=b
  generalize c.Kids.all (Lq N)=w
  have e0:decide ((c.Kids.length:Int)=0)=decide (c.Kids.length=0):=by rw [decide_eq_decide]; omega
  have e1:decide ((c.Kids.length:Int)=1)=decide (c.Kids.length=1):=by rw [decide_eq_decide]; omega
  have e2:decide (1<=(c.Kids.length:Int))=decide (1<=c.Kids.length):=by rw [decide_eq_decide]; omega
  simp only [show ((c.Kids.length:Int)=0)↔c.Kids.length=0 by omega,show ((c.Kids.length:Int)=1)↔c.Kids.length=1 by omega,show (1<=(c.Kids.length:Int))↔1<=c.Kids.length by omega]
  by_cases k1:c.Kind=1
  ·rw [if_pos k1,if_pos k1]
   by_cases h0:c.Kids.length=0 <;> cases b <;> cases w <;> simp [h0]
  ·rw [if_neg k1,if_neg k1]
   by_cases k2:c.Kind=2
   ·rw [if_pos k2,if_pos k2]
    by_cases h0:c.Kids.length=1 <;> cases b <;> cases w <;> simp [h0]
   ·rw [if_neg k2,if_neg k2]
    by_cases k3:c.Kind=3
    ·simp only [k3,if_true,true_or]
     by_cases h0:1<=c.Kids.length <;> cases b <;> cases w <;> simp [h0]
    ·by_cases k4:c.Kind=4
     ·simp only [k4,if_true,or_true,show ¬ (4:Int)=3 by decide,if_false]
      by_cases h0:1<=c.Kids.length <;> cases b <;> cases w <;> simp [h0]
     ·simp only [k3,k4,if_false,or_false]
      by_cases k5:c.Kind=5
      ·rw [if_pos k5,if_pos k5]
       by_cases h0:c.Kids.length=1 <;> cases w <;> simp [h0]
      ·rw [if_neg k5,if_neg k5]
       cases w <;> rfl
theorem ey {c:AA} (hf:D6 c):Kk c=some (Nf c):=by
 unfold Kk Nf
 rw [Zi hf]
 simp only [bs,zzX]
 generalize L9 c=b
 simp only [show ((c.Kids.length:Int)=0)↔c.Kids.length=0 by omega,show ((c.Kids.length:Int)=1)↔c.Kids.length=1 by omega,show (0<(c.Kids.length:Int))↔1<=c.Kids.length by omega]
 by_cases k1:c.Kind=1
 ·rw [if_pos k1,if_pos k1]
  by_cases h0:c.Kids.length=0 <;> cases b <;> simp [h0]
 ·rw [if_neg k1,if_neg k1]
  by_cases k2:c.Kind=2
  ·rw [if_pos k2,if_pos k2]
   by_cases h0:c.Kids.length=1 <;> cases b <;> simp [h0]
  ·rw [if_neg k2,if_neg k2]
   by_cases k3:c.Kind=3
   ·simp only [k3,if_true,true_or,decide_true,bs]
    by_cases h0:1<=c.Kids.length <;> cases b <;> simp [h0]
   ·by_cases k4:c.Kind=4
    ·simp only [k4,if_true,or_true,show ¬ (4:Int)=3 by decide,if_false,decide_true,bs]
     by_cases h0:1<=c.Kids.length <;> cases b <;> simp [h0]
    ·simp only [k3,k4,if_false,or_false,decide_false,bs,Bool.false_eq_true]
     by_cases k5:c.Kind=5
     ·rw [if_pos k5,if_pos k5]
     ·rw [if_neg k5,if_neg k5]
theorem dr {α:Type} [Inhabited α] {l:List α} {p:α->Bool}:l.all p=!anyR (fun i=>!p (AB l i)) 0 l.length:=by
 rw [List.all_eq_not_any_not,JW]
theorem ak:∀ (N:Nat) (c:AA),SizeOf.sizeOf c<=N->D6 c->∀ n,N<=n->FI n c=some (Lq N c)
 | 0,c,h,_,_,_=>by have:=DA c; omega
 | N+1,c,h,hf,n,hn=>by
  obtain ⟨n,rfl⟩:∃ m,n=m+1:=⟨n - 1,by omega⟩
  rw [FI,Lq,ey hf,bs,dr,C7 (fun i=>!Lq N (AB c.Kids i)) false]
  ·cases Nf c
   ·rfl
   ·cases anyR (fun i=>!Lq N (AB c.Kids i)) 0 c.Kids.length <;> rfl
  ·intro i i1 i2 _
   have hm:=AV (l:=c.Kids) i1 i2
   have:=DW hm
   rw [AM i1 i2,bs,ak N _ (by omega) (hf.k _ hm) n (by omega),bs,Jy]
noncomputable def U6 (c:AA):Bool:=Lq (SizeOf.sizeOf c) c
theorem mB {c:AA} (hf:D6 c):GK c=some (U6 c):=GY (2*SizeOf.sizeOf c) fun n hn=>eu _ c (Nat.le_refl _) hf n hn
theorem mG {c:AA} (hf:D6 c):L5 c=some (U6 c):=GY (SizeOf.sizeOf c) fun n hn=>ak _ c (Nat.le_refl _) hf n hn
def JM:Nat->AA->Int × Int
 | 0,_=>(0,0)
 | n+1,c=>
  let s:=c.Kids.foldl (fun s k=>(A8 (s.1+(JM n k).1),max s.2 (JM n k).2)) ((1,0):Int × Int)
  (s.1,if c.Kind=5 then A8 (s.2+1) else s.2)
theorem TB {α σ:Type} [Inhabited α] {l:List α} {g:σ->α->σ} {s:σ} {f:Int->σ->Option σ} (h:∀ (i:Int) s,0<=i->i<l.length->f i s=some (g s (AB l i))):forA f 0 l.length s=some (l.foldl g s):=by
 rw [Hx (fun i=>(l.take i.toNat).foldl g s) (by omega) (by simp)]
 ·rw [Int.toNat_natCast,List.take_length]
 ·intro i i1 i2
  rw [h i _ i1 i2,IA i1 i2,List.foldl_append]; rfl
theorem X9:∀ (N:Nat) (c:AA),SizeOf.sizeOf c<=N->∀ n,N<=n->C0 n c=some (JM N c)
 | 0,c,h,_,_=>by have:=DA c; omega
 | N+1,c,h,n,hn=>by
  obtain ⟨n,rfl⟩:∃ m,n=m+1:=⟨n - 1,by omega⟩
  rw [C0,JM,TB (g:=fun s k=>(A8 (s.1+(JM N k).1),max s.2 (JM N k).2))]
  ·simp only [bs,zzX]
   by_cases h5:c.Kind=5
   ·rw [if_pos h5,if_pos h5]; rfl
   ·rw [if_neg h5,if_neg h5]; rfl
  ·intro i s i1 i2
   have:=DW (AV (l:=c.Kids) i1 i2)
   rw [AM i1 i2,bs,X9 N _ (by omega) n (by omega)]; rfl
theorem YI:∀ (N:Nat) (c:AA),SizeOf.sizeOf c<=N->∀ n,N<=n->F9 n c=some (JM N c)
 | 0,c,h,_,_=>by have:=DA c; omega
 | N+1,c,h,n,hn=>by
  obtain ⟨n,rfl⟩:∃ m,n=m+1:=⟨n - 1,by omega⟩
  rw [F9,JM,TB (g:=fun s k=>(A8 (s.1+(JM N k).1),max s.2 (JM N k).2))]
  ·simp only [bs,zzX]
   by_cases h5:c.Kind=5
   ·rw [if_pos h5,if_pos h5]; rfl
   ·rw [if_neg h5,if_neg h5]; rfl
  ·intro i s i1 i2
   have:=DW (AV (l:=c.Kids) i1 i2)
   rw [AM i1 i2,bs,YI N _ (by omega) n (by omega)]; rfl
noncomputable def Oe (c:AA):Int × Int:=JM (SizeOf.sizeOf c) c
noncomputable def IZ (c:AA):Int:=if U6 c=false then 1 else if 12<(Oe c).1∨3<(Oe c).2 then 3 else 0
theorem cR {c:AA} (hf:D6 c):FG c=some (IZ c):=by
 unfold FG IZ
 rw [mB hf,bs,show Hi c=some (Oe c) from GY (SizeOf.sizeOf c) fun n hn=>X9 _ c (Nat.le_refl _) n hn,bs]
 exact Vk fun _=>O2 (by simp) fun _=>rfl
theorem ce {c:AA} (hf:D6 c):Kh c=some (IZ c):=by
 unfold Kh IZ
 rw [mG hf,bs,show Me c=some (Oe c) from GY (SizeOf.sizeOf c) fun n hn=>YI _ c (Nat.le_refl _) n hn,bs]
 exact Vk fun _=>O2 (by simp) fun _=>rfl
theorem Rc (g:Graph):C4 g≠9:=by
 unfold C4
 split
 ·decide
 ·split
  ·decide
  ·split <;> decide
theorem Om {t:AD} {p:Pattern} (ht:(BJ t).2=0) (h:I3 t p=0∨I3 t p=9):0<=p.Vars∧p.Vars<=12:=by
 have hg:=Rc p.Graph
 unfold I3 at h
 rw [if_neg (by simp [ht])] at h
 split at h
 ·omega
 ·split at h
  ·omega
  ·split at h
   ·omega
   ·omega
def Kw (t:AD) (q:Pattern) (v:Int):Int:=if I3 t q≠9 then I3 t q else if anyR (fun i=>!J2 q i) v q.Vars=true then 9 else 0
theorem nM {α:Type} {P:Prop} [Decidable P] {v:α} {X:Option α} {Y:α} (h:P->X=some Y):(if (!decide P)=true then some v else X)=some (if ¬ P then v else Y):=by
 by_cases hp:P
 ·simp [hp,h hp]
 ·simp [hp]
theorem mA {t:AD} (hf:CA t) (ht:(BJ t).2=0) {q:Pattern} {v:Int} (h0:0<=v) (h1:v<=q.Vars):EH t q v=some (Kw t q v):=by
 unfold EH Kw
 rw [Tk hf,bs]
 refine nM fun h9=>?_
 have hv:=Om ht (.inr h9)
 rw [OL (c:=fun i=>(if (!J2 q i)=true then some () else none).map fun _=>.inr 9) (a:=v) (b:=q.Vars) h1]
 ·rw [Pv,Nd]
  cases anyR (fun i=>!J2 q i) v q.Vars <;> rfl
 ·intro i i1 i2 _
  rw [if_pos (by simpa using i2),show (fun y0=>IB y0 i)=(fun y=>some (decide (y.Term.Var=i))) from rfl,bg,bs,show (q.Slots.any fun y=>decide (y.Term.Var=i))=J2 q i from rfl,h9,BN (by omega) (by omega)]
  cases J2 q i <;> rfl
 ·rw [if_neg (by simp)]
theorem cd (p:Pattern) (v:Int):LZ p v=some (J2 p v):=aq p v
theorem mE {t:AD} (hf:CA t) (q:Pattern) (v:Int):Kj t v q=some (if q.Vars<v then 20 else Kw t q v):=by
 unfold Kj Kw
 refine O2 (by simp) fun _=>?_
 rw [ar hf,bs]
 refine nM fun h9=>?_
 rw [h9,C7 (fun i=>!J2 q i) 9]
 ·cases anyR (fun i=>!J2 q i) v q.Vars <;> rfl
 ·intro i i1 i2 _
  rw [cd,bs,Jy]
def ER:Nat->AD->Pattern->AA->Int
 | 0,_,_,_=>0
 | N+1,t,p,c=>
  if c.Kind=5 then
   if c.Pattern.Vars<p.Vars then 20 else if Kw t c.Pattern p.Vars≠0 then Kw t c.Pattern p.Vars else
   if Kx p.Graph c.Pattern.Graph c.Map≠0 then Kx p.Graph c.Pattern.Graph c.Map else if NE c.Map=false then 1 else
   (fst (fun i=>nz (ER N t c.Pattern (AB c.Kids i))) 0 c.Kids.length).getD 0
  else (fst (fun i=>nz (ER N t p (AB c.Kids i))) 0 c.Kids.length).getD 0
theorem ZJ {t:AD} (ht:(BJ t).2=0) {q:Pattern} {v:Int} (h:Kw t q v=0):0<=q.Vars:=by
 unfold Kw at h
 split at h
 ·exact (Om ht (.inl h)).1
 ·rename_i h9
  exact (Om ht (.inr (Classical.not_not.1 h9))).1
theorem YB {t:AD} (hf:CA t) (ht:(BJ t).2=0):∀ (N:Nat) (c:AA) (p:Pattern),0<=p.Vars->SizeOf.sizeOf c<=N->∀ n,N<=n->CP n t p c=some (ER N t p c)
 | 0,c,p,_,h,_,_=>by have:=DA c; omega
 | N+1,c,p,hp,h,n,hn=>by
  obtain ⟨n,rfl⟩:∃ m,n=m+1:=⟨n - 1,by omega⟩
  rw [CP,ER]
  have hkids:∀ q:Pattern,0<=q.Vars->(thenR (forR (ρ:=Int) (fun (i0:Int) (_:Unit)=>
    (AL c.Kids i0).bind fun x55=>
    (CP n t q x55).bind fun x60=>
    if (!decide (x60=0))=true then
    some (.ret x60)
    else
    some (.next ())) 0 (c.Kids.length:Int) ()) (fun _=>
    some 0) (fun v0=>some v0))=some ((fst (fun i=>nz (ER N t q (AB c.Kids i))) 0 c.Kids.length).getD 0):=by
   intro q hq
   rw [DO (fun i=>nz (ER N t q (AB c.Kids i))),GQ]
   intro i i1 i2 _
   have:=DW (AV (l:=c.Kids) i1 i2)
   rw [AM i1 i2,bs,YB hf ht N _ q hq (by omega) n (by omega),bs,OC]
  by_cases h5:c.Kind=5
  ·rw [if_pos (by simpa using h5),if_pos h5]
   refine O2 (by simp) fun hv=>?_
   rw [mA hf ht hp (by omega),bs]
   refine Io fun hi=>?_
   rw [ai,bs]
   refine Io fun hm=>?_
   rw [l9 hm,bs]
   exact Vk fun _=>hkids _ (ZJ ht hi)
  ·rw [if_neg (by simpa using h5),if_neg h5]
   exact hkids p hp
theorem YJ {t:AD} (hf:CA t):∀ (N:Nat) (c:AA) (p:Pattern),SizeOf.sizeOf c<=N->∀ n,N<=n->GE n t p c=some (ER N t p c)
 | 0,c,p,h,_,_=>by have:=DA c; omega
 | N+1,c,p,h,n,hn=>by
  obtain ⟨n,rfl⟩:∃ m,n=m+1:=⟨n - 1,by omega⟩
  rw [GE,ER]
  have hkids:∀ q:Pattern,(thenR (forR (ρ:=Int) (fun (i0:Int) (_:Unit)=>
    (AL c.Kids i0).bind fun x55=>
    (GE n t q x55).bind fun x60=>
    if (!decide (x60=0))=true then
    some (.ret x60)
    else
    some (.next ())) 0 (c.Kids.length:Int) ()) (fun _=>
    some 0) (fun v0=>some v0))=some ((fst (fun i=>nz (ER N t q (AB c.Kids i))) 0 c.Kids.length).getD 0):=by
   intro q
   rw [DO (fun i=>nz (ER N t q (AB c.Kids i))),GQ]
   intro i i1 i2 _
   have:=DW (AV (l:=c.Kids) i1 i2)
   rw [AM i1 i2,bs,YJ hf N _ q (by omega) n (by omega),bs,OC]
  by_cases h5:c.Kind=5
  ·rw [if_pos (by simpa using h5),if_pos h5,mE hf,bs]
   by_cases hv:c.Pattern.Vars<p.Vars
   ·simp [hv]
   ·simp only [if_neg hv]
    refine Io fun hi=>?_
    rw [am,bs]
    refine Io fun hm=>?_
    rw [mD hm,bs]
    exact Vk fun _=>hkids _
  ·rw [if_neg (by simpa using h5),if_neg h5]
   exact hkids p
noncomputable def ED (t:AD) (p:Pattern) (c:AA):Int:=if I3 t p≠0 then I3 t p else if IZ c≠0 then IZ c else ER (SizeOf.sizeOf c) t p c
theorem ed {t:AD} (hf:CA t) (ht:(BJ t).2=0) (p:Pattern) {c:AA} (hc:D6 c):EB t p c=some (ED t p c):=by
 unfold EB ED
 rw [Tk hf,bs]
 refine Io fun h=>?_
 rw [cR hc,bs,Option.bind_fun_some]
 exact Io fun _=>GY (SizeOf.sizeOf c) fun n hn=>YB hf ht _ c p (Om ht (.inl h)).1 (Nat.le_refl _) n hn
theorem YG {t:AD} (hf:CA t) (p:Pattern) {c:AA} (hc:D6 c):Ki t p c=some (ED t p c):=by
 unfold Ki ED
 rw [ar hf,bs]
 refine Io fun h=>?_
 rw [ce hc,bs,Option.bind_fun_some]
 exact Io fun _=>GY (SizeOf.sizeOf c) fun n hn=>YJ hf _ c p (Nat.le_refl _) n hn
end Go.Sf.Sc
namespace Go.Sf.Sc
open Go Go.Sf
def leafB (t:AD) (l:List Int):Bool:=!(l.any fun k=>t.Nodes.any fun n=>decide (n.Parent=k))
end Go.Sf.Sc
namespace Go.Sf
theorem WM {ρ:Type} {f:Int->Option (CY Int ρ)} (p:Int->Bool) (v:ρ) {a b:Int} (hab:a<=b) (h:∀ i,a<=i->i<b->f i=some (if p i=true then .ret v else .next (i+1))) (hb:f b=some (.brk b)):JB f a=some (if anyR p a b=true then .inr v else .inl b):=by
 rw [OL (c:=fun i=>(if p i=true then some () else none).map fun _=>.inr v) hab]
 ·rw [Pv,Nd]
  cases anyR p a b <;> rfl
 ·intro i h1 h2 _
  rw [h i h1 h2]
  cases p i <;> rfl
 ·exact hb
theorem Mw {α:Type} {e:α->TV} {n:Nat} {l:List α} (h:TV.Sm (.list n (l.map e))):(l.length:Int)<=140737488351232∧∀ x∈l,(e x).Sm:=by
 simp only [TV.Sm,List.length_map] at h
 refine ⟨by have:=h.1; unfold reachBytes at this; omega,fun x hx=>OH.1 h.2 _ (List.mem_map.2 ⟨x,hx,rfl⟩)⟩
end Go.Sf
namespace Go.Sf.Sc
open Go Go.Sf
def Tv (a:Attr):Bool:=(decide (40<(a.Name.size:Int))||decide (25<(a.Names.length:Int)))||anyR (fun i=>decide (40<((AB a.Names i).size:Int))) 0 a.Names.length
theorem Y6 {a:Attr} (h:Tv a=false):O8 a:=by
 unfold Tv at h
 simp only [Bool.or_eq_false_iff,decide_eq_false_iff_not,EJ] at h
 refine ⟨by omega,by omega,fun x hx=>?_⟩
 obtain ⟨i,i1,i2,rfl⟩:=EX hx
 have:=h.2 i i1 i2
 omega
theorem St {t:AD} (hs:(At t).Sm):∃ b,K7 t=some b∧(b=true->CA t):=by
 have hs':TV.Sms [_,_]:=hs
 obtain ⟨hn,hn2⟩:=Mw (e:=HI) hs'.1
 unfold K7
 by_cases hl:20<t.Nodes.length∨30<t.Edges.length
 ·rw [if_pos (by simp; omega)]
  exact ⟨false,rfl,fun h=>by cases h⟩
 rw [if_neg (by simp; omega)]
 rcases UG (f:=(fun (i0:Int) (s0:Int)=>
 (AL t.Nodes i0).bind fun x30=>
 (if (decide (30<(A8 (s0+(x30.Attrs.length:Int)))))=true then some true else ((AL t.Nodes i0).bind fun x41=>
 some (decide (40<(x41.Name.size:Int))))).bind fun x46=>
 if x46=true then
 some (CY.ret false)
 else
 thenR (JB (ρ:=Bool) (fun (s2:Int)=>
 (AL t.Nodes i0).bind fun x51=>
 if (decide (s2<(x51.Attrs.length:Int)))=true then
 (AL t.Nodes i0).bind fun x61=>
 (AL x61.Attrs s2).bind fun x65=>
 if ((decide (40<(x65.Name.size:Int)))||(decide (25<(x65.Names.length:Int))))=true then
 some (.ret false)
 else
 thenR (JB (ρ:=Bool) (fun (s4:Int)=>
 if (decide (s4<(x65.Names.length:Int)))=true then
 (AL x65.Names s4).bind fun x87=>
 if (decide (40<(x87.size:Int)))=true then
 some (.ret false)
 else
 some (.next (A8 (s4+1)))
 else
 some (.brk s4)) 0) (fun s4=>
 some (.next (A8 (s2+1)))) (fun v4=>some (.ret v4))
 else
 some (.brk s2)) 0) (fun s2=>
 some (.next (A8 (s0+(x30.Attrs.length:Int))))) (fun v2=>some (.ret v2))))
  (fun i s=>0<=s∧s<=30∧∀ j,0<=j->j<i->((AB t.Nodes j).Name.size:Int)<=40∧(AB t.Nodes j).Attrs.length<=30∧∀ a∈(AB t.Nodes j).Attrs,O8 a) (fun _=>False) (fun r=>r=false) (a:=0) (b:=t.Nodes.length) (s:=0) (by omega) ⟨by omega,by omega,fun j h1 h2=>by omega⟩ (fun i s i1 i2 hI=>by
   have hx:=hn2 _ (AV (l:=t.Nodes) i1 i2)
   have hx':TV.Sms [_,_,_,_]:=hx
   obtain ⟨ha,ha2⟩:=Mw (e:=Hk) hx'.2.2.2.1
   obtain ⟨hI1,hI2,hI3⟩:=hI
   have hw:A8 (s+(AB t.Nodes i).Attrs.length)=s+(AB t.Nodes i).Attrs.length:=BN (by omega) (by omega)
   simp only [AM i1 i2,bs,hw,UY]
   by_cases hc:30<s+(AB t.Nodes i).Attrs.length∨40<((AB t.Nodes i).Name.size:Int)
   ·rw [if_pos (by simpa using hc)]
    exact .inr (.inr ⟨_,rfl,rfl⟩)
   rw [if_neg (by simpa using hc)]
   rw [WM (fun j=>Tv (AB (AB t.Nodes i).Attrs j)) false (b:=(AB t.Nodes i).Attrs.length) (by omega)]
   ·cases hb:anyR (fun j=>Tv (AB (AB t.Nodes i).Attrs j)) 0 (AB t.Nodes i).Attrs.length
    ·refine .inl ⟨_,rfl,by omega,by omega,fun j j1 j2=>?_⟩
     by_cases hj:j=i
     ·subst hj
      refine ⟨by omega,by omega,fun a ha=>?_⟩
      obtain ⟨k,k1,k2,rfl⟩:=EX ha
      exact Y6 (EJ.1 hb k k1 k2)
     ·exact hI3 j j1 (by omega)
    ·exact .inr (.inr ⟨_,rfl,rfl⟩)
   ·intro j j1 j2
    rw [if_pos (by simpa using j2),AM j1 j2,bs]
    have hy:=ha2 _ (AV (l:=(AB t.Nodes i).Attrs) j1 j2)
    have hy':TV.Sms [_,_,_,_]:=hy
    obtain ⟨hm,_⟩:=Mw (e:=eS) hy'.2.2.2.1
    unfold Tv
    cases h1:(decide (40<((AB (AB t.Nodes i).Attrs j).Name.size:Int))||decide (25<((AB (AB t.Nodes i).Attrs j).Names.length:Int)))
    ·rw [if_neg (by decide),WM (fun k=>decide (40<((AB (AB (AB t.Nodes i).Attrs j).Names k).size:Int))) false (b:=(AB (AB t.Nodes i).Attrs j).Names.length) (by omega)]
     ·cases anyR (fun k=>decide (40<((AB (AB (AB t.Nodes i).Attrs j).Names k).size:Int))) 0 (AB (AB t.Nodes i).Attrs j).Names.length
      ·rw [Bool.or_false,BN (show -9223372036854775808<=j+1 by omega) (by omega)]; rfl
      ·rfl
     ·intro k k1 k2
      rw [if_pos (by simpa using k2),AM k1 k2,bs,BN (show -9223372036854775808<=k+1 by omega) (by omega),Jy]
     ·rw [if_neg (by simp)]
    ·rfl
   ·rw [if_neg (by simp)]) with ⟨s',h1,h2⟩ | ⟨r,h1,h2⟩
 ·rw [h1]
  rcases h2 with h2 | h2
  ·rw [EY,C7 (fun i=>decide (40<((AB t.Edges i).Name.size:Int))) false]
   ·cases hb:anyR (fun i=>decide (40<((AB t.Edges i).Name.size:Int))) 0 t.Edges.length
    ·refine ⟨true,rfl,fun _=>⟨by omega,by omega,fun n hn=>?_,fun n hn=>?_,fun n hn=>?_,fun e he=>?_⟩⟩
     ·obtain ⟨k,k1,k2,rfl⟩:=EX hn
      exact (h2.2.2 k k1 k2).1
     ·obtain ⟨k,k1,k2,rfl⟩:=EX hn
      exact (h2.2.2 k k1 k2).2.1
     ·obtain ⟨k,k1,k2,rfl⟩:=EX hn
      exact (h2.2.2 k k1 k2).2.2
     ·obtain ⟨k,k1,k2,rfl⟩:=EX he
      have:=EJ.1 hb k k1 k2
      simpa using this
    ·exact ⟨false,rfl,fun h=>by cases h⟩
   ·intro i i1 i2 _
    rw [AM i1 i2,bs,Jy]
  ·exact h2.elim
 ·rw [h1]
  subst h2
  exact ⟨false,rfl,fun h=>by cases h⟩
theorem SM (p:Pattern):∃ b,K9 p=some b∧(b=true->OM p):=by
 refine ⟨_,rfl,fun h=>?_⟩
 simp only [zzZ,zzX] at h
 exact ⟨by omega,by omega,by omega,by omega⟩
theorem bu {a b:Int} (ha:0<=a) (ha2:a<=140737488351232) (hb:0<=b) (hb2:b<=140737488351232):A8 (a+b)=a+b:=BN (by omega) (by omega)
theorem br {m:Morphism} (hs:(C9 m).Sm):∃ b,Nr m 140=some b∧(b=true->Yy m):=by
 have hs':TV.Sms [_,_]:=hs
 have h1:=(Mw (e:=eI) hs'.1).1
 have h2:=(Mw (e:=eI) hs'.2.1).1
 refine ⟨_,rfl,fun h=>?_⟩
 rw [bu (by omega) h1 (by omega) h2] at h
 simp only [zzX] at h
 exact ⟨by omega,by omega⟩
theorem bi {c:AA} (h:(AF c).Sm):(C9 c.Map).Sm∧(c.Kids.length:Int)<=140737488351232∧∀ k∈c.Kids,(AF k).Sm:=by
 have h':TV.Sms [_,_,_,_,_,_,_,_,_]:=h
 obtain ⟨_,h2,h3,h4,_⟩:=h'
 rw [Jl] at h2
 obtain ⟨k1,k2⟩:=Mw h2
 exact ⟨⟨h3,h4,trivial⟩,k1,k2⟩
end Go.Sf.Sc
