/- Plain lemmas: what the functions of the program and of the reference compute. -/
import Derived.Test.YtmaobfbhdkafkaaGreatFns
import Derived.Test.YtmaobfbhdkafkaaGreatSfPl
set_option maxRecDepth 100000
namespace Go.Sf
theorem fstGo_map {ρ τ:Type} {d:Int->Option ρ} {g:ρ->τ}:∀ (n:Nat) (a:Int),fstGo (fun i=>(d i).map g) n a=(fstGo d n a).map g
 | 0,_=>rfl
 | n+1,a=>by
  rw [fstGo,fstGo]
  cases d a with
  | some r=>rfl
  | none=>exact fstGo_map n (a+1)
theorem fst_map {ρ τ:Type} {d:Int->Option ρ} {g:ρ->τ} {a b:Int}:fst (fun i=>(d i).map g) a b=(fst d a b).map g:=fstGo_map _ _
theorem fstGo_some {ρ:Type} {d:Int->Option ρ} {r:ρ}:∀ {n:Nat} {a:Int},fstGo d n a=some r->∃ i,a<=i∧i<a+n∧d i=some r∧∀ j,a<=j->j<i->d j=none
 | 0,_,h=>by cases h
 | n+1,a,h=>by
  rw [fstGo] at h
  cases hd:d a with
  | some r'=>
   rw [hd] at h
   exact ⟨a,Int.le_refl _,by omega,by rw [hd]; exact h,fun j h1 h2=>by omega⟩
  | none=>
   rw [hd] at h
   obtain ⟨i,h1,h2,h3,h4⟩:=fstGo_some h
   refine ⟨i,by omega,by omega,h3,fun j k1 k2=>?_⟩
   by_cases hj:j=a
   ·subst hj; exact hd
   ·exact h4 j (by omega) k2
theorem fst_some {ρ:Type} {d:Int->Option ρ} {r:ρ} {a b:Int} (h:fst d a b=some r):∃ i,a<=i∧i<b∧d i=some r∧∀ j,a<=j->j<i->d j=none:=by
 obtain ⟨i,h1,h2,h3,h4⟩:=fstGo_some h
 exact ⟨i,h1,by omega,h3,h4⟩
def runS (p:Int->Bool) (s:ByteArray):Int:=(fst (fun i=>if p (bt s i) then none else some i) 0 s.size).getD s.size
theorem runS_spec (p:Int->Bool) (s:ByteArray):0<=runS p s∧runS p s<=s.size∧(∀ j,0<=j->j<runS p s->p (bt s j)=true)∧(runS p s<s.size->p (bt s (runS p s))=false):=by
 unfold runS
 cases h:fst (fun i=>if p (bt s i) then none else some i) 0 s.size with
 | none=>
  rw [fst_none] at h
  simp only [Option.getD]
  refine ⟨by omega,by omega,fun j h1 h2=>?_,fun h1=>by omega⟩
  have:=h j h1 h2
  cases hp:p (bt s j)
  ·simp [hp] at this
  ·rfl
 | some r=>
  obtain ⟨i,h1,h2,h3,h4⟩:=fst_some h
  have hi:p (bt s i)=false∧i=r:=by
   cases hp:p (bt s i) <;> simp [hp] at h3
   exact ⟨rfl,h3⟩
  obtain ⟨hi,rfl⟩:=hi
  simp only [Option.getD]
  refine ⟨h1,by omega,fun j k1 k2=>?_,fun _=>hi⟩
  have:=h4 j k1 k2
  cases hp:p (bt s j)
  ·simp [hp] at this
  ·rfl
theorem size_pos {s:ByteArray} (h:s≠⟨#[]⟩):0<s.size:=by
 rcases Nat.eq_zero_or_pos s.size with h0 | h0
 ·exfalso; apply h
  cases s with | mk d=>congr 1; exact Array.eq_empty_of_size_eq_zero h0
 ·exact h0
end Go.Sf
namespace Go.Sf.Sc
open Go Go.Sf
def letterB (c:Int):Bool:=((decide (97<=c))&&(decide (c<=122)))||((decide (65<=c))&&(decide (c<=90)))
def digitB (c:Int):Bool:=(decide (48<=c))&&(decide (c<=57))
def partB (c:Int):Bool:=letterB c||digitB c||decide (c=95)
theorem p_letter (c:Int):token_letter c=some (letterB c):=rfl
theorem p_digit (c:Int):token_digit c=some (digitB c):=rfl
theorem r_letter (c:Int):ref01_letter c=some (letterB c):=rfl
theorem r_digit (c:Int):ref01_digit c=some (digitB c):=rfl
theorem p_part (c:Int):token_part c=some (partB c):=by
 unfold token_part partB
 rw [p_letter,bs,p_digit]
 cases letterB c <;> cases digitB c <;> rfl
theorem p_run {s:ByteArray} (hs:(s.size:Int)<=4611686018427387904) {ok:Int->Option Bool} {p:Int->Bool} (h:∀ c,ok c=some (p c)):token_run s ok=some (runS p s):=by
 unfold token_run
 rw [whR_cnt (c:=fun i=>(if p (bt s i) then none else some i).map .inl) (a:=0) (b:=s.size) (by omega)]
 ·rw [fst_map]
  unfold runS
  cases fst (fun i=>if p (bt s i)=true then none else some i) 0 s.size <;> rfl
 ·intro i h1 h2 _
  simp only [h2,decide_true,if_true,sidx_bt h1 h2,bs,h]
  cases p (bt s i)
  ·simp [cnt]
  ·simp [cnt,w64_id (show -9223372036854775808<=i+1 by omega) (by omega)]
 ·simp
def isName (s:ByteArray):Bool:=decide (0<s.size)&&letterB (bt s 0)&&decide (s.size<=20)&&decide (runS partB s=s.size)
theorem p_Index_string (l:List ByteArray) (v:ByteArray):∃ k,slices_Index_string l v=some k∧(0<=k↔v∈l):=by
 unfold slices_Index_string
 rw [forR_fst (fun i=>if (v==at' l i)=true then some i else none)]
 ·cases h:fst (fun i=>if (v==at' l i)=true then some i else none) 0 l.length with
  | none=>
   rw [fst_none] at h
   refine ⟨-1,rfl,by omega,fun hm=>?_⟩
   obtain ⟨i,h1,h2,h3⟩:=mem_at hm
   have:=h i h1 h2
   rw [h3,if_pos (beq_self_eq_true v)] at this
   cases this
  | some k=>
   obtain ⟨i,h1,h2,h3,_⟩:=fst_some h
   have h4:(v==at' l i)=true∧i=k:=by
    by_cases hv:(v==at' l i)=true
    ·rw [if_pos hv] at h3; exact ⟨hv,by simpa using h3⟩
    ·rw [if_neg hv] at h3; cases h3
   obtain ⟨h4,rfl⟩:=h4
   refine ⟨i,rfl,fun _=>?_,fun _=>h1⟩
   rw [eq_of_beq h4]; exact at_mem h1 h2
 ·intro i h1 h2 _
  simp only [idx_at h1 h2,bs]
  split <;> rfl
theorem p_Contains_string (l:List ByteArray) (v:ByteArray):slices_Contains_string l v=some (l.contains v):=by
 unfold slices_Contains_string
 obtain ⟨k,h1,h2⟩:=p_Index_string l v
 rw [h1,bs]
 congr 1
 rw [Bool.eq_iff_iff,decide_eq_true_eq,h2,List.contains_iff_mem]
theorem p_next {s:ByteArray} (h0:0<s.size) (hs:(s.size:Int)<=4611686018427387904):∃ k n e,token_next s=some (k,n,e)∧(((decide (e=0))&&(decide (k=1)))&&(decide (n=(s.size:Int))))=isName s:=by
 have hr:=runS_spec partB s
 unfold token_next isName
 simp only [sidx_bt (Int.le_refl 0) (show (0:Int)<s.size by omega),bs,p_letter,p_digit,p_run hs p_part,p_run hs p_digit,h0,decide_true,Bool.true_and]
 by_cases hl:letterB (bt s 0)=true
 ·rw [if_pos hl]
  by_cases h20:20<runS partB s
  ·refine ⟨0,0,3,by simp [h20],?_⟩
   simp [hl]
   intro h1 h2
   omega
  ·refine ⟨1,_,0,by rw [if_neg (by simpa using h20)],?_⟩
   simp only [hl,decide_true,Bool.true_and]
   rw [Bool.eq_iff_iff]
   simp only [decide_eq_true_eq,Bool.and_eq_true]
   omega
 ·rw [if_neg hl]
  have hl':letterB (bt s 0)=false:=by simpa using hl
  rw [hl',Bool.false_and,Bool.false_and]
  by_cases hd:digitB (bt s 0)=true
  ·rw [if_pos hd]
   by_cases h9:9<runS digitB s
   ·exact ⟨0,0,3,by simp [h9],by simp⟩
   ·exact ⟨2,_,0,by rw [if_neg (by simpa using h9)],by simp⟩
  ·rw [if_neg hd]
   by_cases hq:bt s 0=34
   ·have hsz:=size_extract' (s:=s) (a:=1) (b:=s.size) (by omega) (by omega) (by omega)
    have hq2:∀ c,token_quoted_1 c=some (((decide (32<=c))&&(decide (c<=126)))&&(!decide (c=34))):=fun _=>rfl
    have hr2:=runS_spec (fun c=>((decide (32<=c))&&(decide (c<=126)))&&(!decide (c=34))) (s.extract (1:Int).toNat (s.size:Int).toNat)
    have hqq:∃ n e,token_quoted s=some (n,e):=by
     unfold token_quoted
     rw [sslc_some (by omega) (by omega) (by omega),bs,p_run (by omega) hq2,bs]
     rw [w64_id (by omega) (by omega)]
     by_cases he:1+runS (fun c=>((decide (32<=c))&&(decide (c<=126)))&&(!decide (c=34))) (s.extract (1:Int).toNat (s.size:Int).toNat)=s.size
     ·refine ⟨0,2,?_⟩
      simp only [he,decide_true,if_true,bs]
     ·simp only [he,decide_false,Bool.false_eq_true,if_false]
      rw [sidx_bt (by omega) (by omega)]
      simp only [bs]
      split
      ·exact ⟨_,_,rfl⟩
      ·split
       ·exact ⟨_,_,rfl⟩
       ·exact ⟨_,_,rfl⟩
    obtain ⟨n,e,hne⟩:=hqq
    refine ⟨3,n,e,by rw [if_pos (by simpa using hq),hne]; rfl,by simp⟩
   ·rw [if_neg (by simpa using hq)]
    have hp:∃ b,token_pair s=some b:=by
     unfold token_pair
     by_cases h2:2<=(s.size:Int)
     ·rw [if_pos (by simpa using h2),sslc_some (by omega) (by omega) h2]
      simp only [bs,p_Contains_string]
      exact ⟨_,rfl⟩
     ·rw [if_neg (by simpa using h2)]
      exact ⟨_,rfl⟩
    obtain ⟨b,hb⟩:=hp
    rw [hb,bs]
    cases b
    ·simp only [Bool.false_eq_true,if_false,strings_IndexByte,bs]
     split
     ·exact ⟨_,_,_,rfl,rfl⟩
     ·exact ⟨_,_,_,rfl,rfl⟩
    ·exact ⟨_,_,_,rfl,rfl⟩
theorem p_IsName {s:ByteArray} (hs:(s.size:Int)<=4611686018427387904):token_IsName s=some (isName s):=by
 unfold token_IsName token_whole
 simp only [show decide ((1:Int)=3)=false from rfl,Bool.false_eq_true,if_false,bs]
 by_cases he:s=⟨#[]⟩
 ·subst he; rfl
 ·rw [if_neg (by simpa using he)]
  obtain ⟨k,n,e,h1,h2⟩:=p_next (size_pos he) hs
  rw [h1]
  simp only [bs]
  rw [h2]
theorem r_run0 {s:ByteArray} (hs:(s.size:Int)<=4611686018427387904) (digits:Bool):∃ n,ref01_run s 0 digits=some n∧0<=n∧n<=s.size∧(digits=false->n=runS partB s):=by
 have hr:=runS_spec (fun c=>digitB c||(!digits&&(letterB c||decide (c=95)))) s
 refine ⟨runS (fun c=>digitB c||(!digits&&(letterB c||decide (c=95)))) s,?_,hr.1,hr.2.1,fun hd=>?_⟩
 ·unfold ref01_run
  rw [whR_cnt (c:=fun i=>(if (digitB (bt s i)||(!digits&&(letterB (bt s i)||decide (bt s i=95)))) then none else some i).map .inl) (a:=0) (b:=s.size) (by omega)]
  ·rw [fst_map]
   unfold runS
   cases fst (fun i=>if (digitB (bt s i)||(!digits&&(letterB (bt s i)||decide (bt s i=95))))=true then none else some i) 0 s.size <;> rfl
  ·intro i h1 h2 _
   have hw:w64 (0+i)=i:=by rw [w64_id (by omega) (by omega)]; omega
   simp only [hw,h2,decide_true,if_true,sidx_bt h1 h2,bs,r_digit,r_letter]
   cases digitB (bt s i) <;> cases digits <;> cases letterB (bt s i) <;> cases (decide (bt s i=95)) <;> simp [cnt,w64_id (show -9223372036854775808<=i+1 by omega) (by omega)]
  ·have hw:w64 (0+(s.size:Int))=s.size:=by rw [w64_id (by omega) (by omega)]; omega
   simp only [hw,Int.lt_irrefl,decide_false,Bool.false_eq_true,if_false,bs]
 ·subst hd
  congr 1
  funext c
  unfold partB
  cases letterB c <;> cases digitB c <;> cases decide (c=95) <;> rfl
theorem r_quoted {s:ByteArray} (h0:0<s.size) (hs:(s.size:Int)<=4611686018427387904):∃ n,ref01_quoted s 0=some n∧(n=0∨(2<=n∧n<=s.size)):=by
 unfold ref01_quoted
 rw [whR_cnt (c:=fun i=>if decide (bt s i=34)=true then some (Sum.inr (i+1):Int ⊕ Int) else if (decide (bt s i<32)||decide (126<bt s i))=true then some (Sum.inr 0) else none) (a:=1) (b:=s.size) (by omega)]
 ·cases h:fst (fun i=>if decide (bt s i=34)=true then some (Sum.inr (i+1):Int ⊕ Int) else if (decide (bt s i<32)||decide (126<bt s i))=true then some (Sum.inr 0) else none) 1 s.size with
  | none=>exact ⟨0,rfl,.inl rfl⟩
  | some r=>
   obtain ⟨i,h1,h2,h3,_⟩:=fst_some h
   split at h3
   ·cases h3; exact ⟨_,rfl,.inr (by omega)⟩
   ·split at h3
    ·cases h3; exact ⟨_,rfl,.inl rfl⟩
    ·cases h3
 ·intro i h1 h2 _
  have hw:w64 (0+i)=i:=by rw [w64_id (by omega) (by omega)]; omega
  simp only [hw,h2,decide_true,if_true,sidx_bt (show 0<=i by omega) h2,bs,w64_id (show -9223372036854775808<=i+1 by omega) (by omega)]
  split
  ·rfl
  ·split <;> rfl
 ·have hw:w64 (0+(s.size:Int))=s.size:=by rw [w64_id (by omega) (by omega)]; omega
  simp only [hw,Int.lt_irrefl,decide_false,Bool.false_eq_true,if_false]
theorem r_one {s:ByteArray} (h0:0<s.size) (hs:(s.size:Int)<=4611686018427387904):∃ t n e,ref01_one s 0=some (t,n,e)∧(((decide (e=0))&&(decide (n=(s.size:Int))))&&(decide (t.Kind=1)))=isName s:=by
 obtain ⟨m,hm1,hm2,hm3,hm4⟩:=r_run0 hs (digitB (bt s 0))
 unfold ref01_one isName
 simp only [sidx_bt (Int.le_refl 0) (show (0:Int)<s.size by omega),bs,r_letter,r_digit,h0,decide_true,Bool.true_and,hm1]
 have hw:w64 (0+m)=m:=by rw [w64_id (by omega) (by omega)]; omega
 by_cases hl:letterB (bt s 0)=true
 ·have hd:digitB (bt s 0)=false:=by
   unfold letterB at hl; unfold digitB
   simp only [Bool.or_eq_true,Bool.and_eq_true,decide_eq_true_eq] at hl
   rw [Bool.and_eq_false_iff]
   simp only [decide_eq_false_iff_not]
   omega
  have hm:=hm4 hd
  subst hm
  simp only [hl,if_true,hd,Bool.false_eq_true,if_false,bs,hw]
  by_cases h20:20<runS partB s
  ·refine ⟨_,_,_,by rw [if_pos (by simpa using h20)],?_⟩
   rw [Bool.eq_iff_iff]
   simp only [decide_eq_true_eq,Bool.and_eq_true]
   omega
  ·rw [if_neg (by simpa using h20),sslc_some (Int.le_refl _) hm2 hm3]
   refine ⟨_,_,_,rfl,?_⟩
   rw [Bool.eq_iff_iff]
   simp only [decide_eq_true_eq,Bool.and_eq_true,true_and,and_true]
   omega
 ·have hl':letterB (bt s 0)=false:=by simpa using hl
  simp only [hl',Bool.false_eq_true,if_false,bs,Bool.false_and,hw]
  by_cases hd:digitB (bt s 0)=true
  ·simp only [hd,if_true,bs]
   by_cases h9:9<m
   ·exact ⟨_,_,_,by rw [if_pos (by simpa using h9)],by simp⟩
   ·rw [if_neg (by simpa using h9),sslc_some (Int.le_refl _) hm2 hm3]
    exact ⟨_,_,_,rfl,by simp⟩
  ·have hd':digitB (bt s 0)=false:=by simpa using hd
   simp only [hd',Bool.false_eq_true,if_false,bs]
   by_cases hq:bt s 0=34
   ·obtain ⟨n,hn,hn2⟩:=r_quoted h0 hs
    rw [if_pos (by simpa using hq),hn,bs]
    rcases hn2 with rfl | hn2
    ·exact ⟨_,_,_,rfl,by simp⟩
    ·rw [if_neg (by simp; omega)]
     split
     ·exact ⟨_,_,_,rfl,by simp⟩
     ·have e1:w64 (0+1)=1:=by decide
      have e2:w64 (0+n)=n:=by rw [w64_id (by omega) (by omega)]; omega
      rw [e1,e2,w64_id (show -9223372036854775808<=n - 1 by omega) (by omega),sslc_some (by omega) (by omega) (by omega)]
      exact ⟨_,_,_,rfl,by simp⟩
   ·rw [if_neg (by simpa using hq)]
    unfold ref01_signs
    rw [bs]
    generalize hL:([(⟨#[45,62]⟩:ByteArray),(⟨#[60,61]⟩:ByteArray),(⟨#[62,61]⟩:ByteArray),(⟨#[61,61]⟩:ByteArray),(⟨#[33,61]⟩:ByteArray),(⟨#[123]⟩:ByteArray),(⟨#[125]⟩:ByteArray),(⟨#[40]⟩:ByteArray),(⟨#[41]⟩:ByteArray),(⟨#[91]⟩:ByteArray),(⟨#[93]⟩:ByteArray),(⟨#[44]⟩:ByteArray),(⟨#[59]⟩:ByteArray),(⟨#[58]⟩:ByteArray),(⟨#[61]⟩:ByteArray),(⟨#[43]⟩:ByteArray),(⟨#[45]⟩:ByteArray),(⟨#[42]⟩:ByteArray),(⟨#[60]⟩:ByteArray),(⟨#[62]⟩:ByteArray),(⟨#[33]⟩:ByteArray),(⟨#[38]⟩:ByteArray),(⟨#[124]⟩:ByteArray),(⟨#[46]⟩:ByteArray),(⟨#[63]⟩:ByteArray)]:List ByteArray)=L
    have hsz:∀ x∈L,x.size<=2:=by subst hL; decide
    rcases forR_inv (f:=(fun (i0:Int) (s0:Token)=>
      (idx L i0).bind fun x75=>
      (if (decide ((w64 (0+(x75.size:Int)))<=(s.size:Int)))=true then ((idx L i0).bind fun x88=>
      (sslc s 0 (w64 (0+(x88.size:Int)))).bind fun x92=>
      (idx L i0).bind fun x95=>
      some (x92==x95)) else some false).bind fun x98=>
      if x98=true then
      (idx L i0).bind fun x101=>
      (idx L i0).bind fun x106=>
      some (Ctl.ret (Token.mk 4 x101 0,(x106.size:Int),(0:Int)))
      else
      some (Ctl.next s0))) (fun _ s=>True) (fun _=>True) (fun r=>r.1.Kind=4) (a:=0) (b:=L.length) (s:=Token.mk 0 (⟨#[]⟩:ByteArray) 0) (by omega) trivial (fun i t h1 h2 _=>by
      have hx:=hsz _ (at_mem h1 h2)
      have hw2:w64 (0+((at' L i).size:Int))=(at' L i).size:=by rw [w64_id (by omega) (by omega)]; omega
      simp only [idx_at h1 h2,bs,hw2]
      by_cases hc:((at' L i).size:Int)<=s.size
      ·rw [if_pos (by simpa using hc),sslc_some (by omega) (by omega) hc]
       simp only [bs]
       split
       ·exact .inr (.inr ⟨_,rfl,rfl⟩)
       ·exact .inl ⟨_,rfl,trivial⟩
      ·rw [if_neg (by simpa using hc)]
       simp only [bs]
       exact .inl ⟨_,rfl,trivial⟩) with ⟨s',h1,_⟩ | ⟨r,h1,h2⟩
    ·rw [h1]; exact ⟨_,_,_,rfl,by simp⟩
    ·rw [h1]; exact ⟨_,_,_,rfl,by simp [h2]⟩
theorem r_IsName {s:ByteArray} (hs:(s.size:Int)<=4611686018427387904):ref01_IsName s=some (isName s):=by
 unfold ref01_IsName ref01_Right ref01_text
 simp only [show decide ((1:Int)=3)=false from rfl,Bool.false_eq_true,if_false,bs]
 by_cases he:s=⟨#[]⟩
 ·subst he; rfl
 ·rw [if_neg (by simpa using he)]
  obtain ⟨t,n,e,h1,h2⟩:=r_one (size_pos he) hs
  rw [h1]
  simp only [bs]
  rw [h2]
end Go.Sf.Sc
namespace Go.Sf
variable {ρ β:Type}
def nz (e:Int):Option Int:=if e=0 then none else some e
theorem nz_ctl (e:Int):(if (!decide (e=0))=true then some (Ctl.ret e) else some (Ctl.next ()))=some (ansC (nz e)):=by
 unfold nz
 by_cases h:e=0 <;> simp [h,ansC]
theorem bl_ctl (b:Bool) (r:ρ):(if b=true then some (Ctl.ret r) else some (Ctl.next ()))=some (ansC (if b=true then some r else none)):=by
 cases b <;> rfl
theorem thenR_inl {σ:Type} {s:σ} {k:σ->Option β} {kr:ρ->Option β}:thenR (some (.inl s)) k kr=k s:=rfl
theorem thenR_ans (o:Option ρ) (k:Unit->Option β) (kr:ρ->Option β):thenR (some (ans o)) k kr=match o with | none=>k () | some r=>kr r:=by
 cases o <;> rfl
theorem thenR_ans0 (o:Option Int):thenR (some (ans o)) (fun _=>some 0) (fun v=>some v)=some (o.getD 0):=by
 cases o <;> rfl
theorem nz_none {e:Int}:nz e=none↔e=0:=by
 unfold nz
 by_cases h:e=0 <;> simp [h]
theorem index_of {α:Type} [Inhabited α] {l:List α} {f:α->Option Bool} {p:α->Bool} (h:∀ x∈l,f x=some (p x)) :
  (thenR (forR (ρ:=Int) (fun (i0:Int) (_:Unit)=>(idx l i0).bind fun x14=>(f x14).bind fun x16=>if x16=true then some (.ret i0) else some (.next ())) 0 (l.length:Int) ()) (fun _=>some (-1)) (fun v0=>some v0)) =
   some ((fst (fun i=>if p (at' l i)=true then some i else none) 0 l.length).getD (-1)):=by
 rw [forR_fst (fun i=>if p (at' l i)=true then some i else none)]
 ·rw [thenR_ans]; cases fst (fun i=>if p (at' l i)=true then some i else none) 0 l.length <;> rfl
 ·intro i h1 h2 _
  rw [idx_at h1 h2,bs,h _ (at_mem h1 h2),bs,bl_ctl]
theorem index_any {α:Type} [Inhabited α] {l:List α} {p:α->Bool}:decide (0<=(fst (fun i=>if p (at' l i)=true then some i else none) 0 l.length).getD (-1))=l.any p:=by
 rw [any_at,anyR]
 cases h:fst (fun i=>if p (at' l i)=true then some i else none) 0 l.length with
 | none=>
  rw [fst_none] at h
  symm
  show Option.isSome _=false
  rw [Option.isSome_eq_false_iff,Option.isNone_iff_eq_none,fst_none]
  intro i h1 h2
  have:=h i h1 h2
  by_cases hp:p (at' l i)=true
  ·rw [if_pos hp] at this; cases this
  ·rw [if_neg hp]
 | some k=>
  obtain ⟨i,h1,h2,h3,_⟩:=fst_some h
  have h4:p (at' l i)=true∧i=k:=by
   by_cases hv:p (at' l i)=true
   ·rw [if_pos hv] at h3; exact ⟨hv,by simpa using h3⟩
   ·rw [if_neg hv] at h3; cases h3
  simp only [Option.getD]
  rw [decide_eq_true (show (0:Int)<=k by omega)]
  symm
  show Option.isSome _=true
  rw [Option.isSome_iff_ne_none,ne_eq,fst_none]
  intro hn
  have:=hn i h1 h2
  rw [if_pos h4.1] at this
  cases this
theorem contains_of {α:Type} [Inhabited α] {l:List α} {f:α->Option Bool} {p:α->Bool} (h:∀ x∈l,f x=some (p x)) :
  ((thenR (forR (ρ:=Int) (fun (i0:Int) (_:Unit)=>(idx l i0).bind fun x14=>(f x14).bind fun x16=>if x16=true then some (.ret i0) else some (.next ())) 0 (l.length:Int) ()) (fun _=>some (-1)) (fun v0=>some v0)).bind fun x7=>some (decide (0<=x7)))=some (l.any p):=by
 rw [index_of h,bs,index_any]
end Go.Sf
namespace Go.Sf.Sc
open Go Go.Sf
instance:Inhabited Attr:=⟨⟨⟨#[]⟩,0,0,[]⟩⟩
instance:Inhabited NodeType:=⟨⟨⟨#[]⟩,0,false,[]⟩⟩
instance:Inhabited EdgeType:=⟨⟨⟨#[]⟩,0,0,0,0,0,0⟩⟩
instance:Inhabited Edge:=⟨⟨0,0,0⟩⟩
instance:Inhabited Slot:=⟨⟨0,0,⟨0,0⟩⟩⟩
instance:Inhabited Test:=⟨⟨0,⟨0,0⟩,⟨0,0⟩⟩⟩
instance:Inhabited Condition:=⟨⟨0,[],⟨[],[]⟩,⟨⟨[],[]⟩,[],0,[]⟩⟩⟩
theorem cf_int {l:List Int} {f:Int->Option Bool} {p:Int->Bool} (h:∀ x∈l,f x=some (p x)):slices_ContainsFunc_int l f=some (l.any p):=contains_of h
theorem cf_Edge {l:List Edge} {f:Edge->Option Bool} {p:Edge->Bool} (h:∀ x∈l,f x=some (p x)):slices_ContainsFunc_Edge l f=some (l.any p):=contains_of h
theorem cf_Condition {l:List Condition} {f:Condition->Option Bool} {p:Condition->Bool} (h:∀ x∈l,f x=some (p x)):slices_ContainsFunc_Condition l f=some (l.any p):=contains_of h
theorem cg_NodeType {l:List NodeType} {p:NodeType->Bool}:slices_ContainsFunc_NodeType l (fun x=>some (p x))=some (l.any p):=contains_of (fun _ _=>rfl)
theorem cg_EdgeType {l:List EdgeType} {p:EdgeType->Bool}:slices_ContainsFunc_EdgeType l (fun x=>some (p x))=some (l.any p):=contains_of (fun _ _=>rfl)
theorem cg_Attr {l:List Attr} {p:Attr->Bool}:slices_ContainsFunc_Attr l (fun x=>some (p x))=some (l.any p):=contains_of (fun _ _=>rfl)
theorem cg_int {l:List Int} {p:Int->Bool}:slices_ContainsFunc_int l (fun x=>some (p x))=some (l.any p):=contains_of (fun _ _=>rfl)
theorem cg_Edge {l:List Edge} {p:Edge->Bool}:slices_ContainsFunc_Edge l (fun x=>some (p x))=some (l.any p):=contains_of (fun _ _=>rfl)
theorem cg_Slot {l:List Slot} {p:Slot->Bool}:slices_ContainsFunc_Slot l (fun x=>some (p x))=some (l.any p):=contains_of (fun _ _=>rfl)
theorem ct_bool (l:List Bool) (v:Bool):slices_Contains_bool l v=some (l.any fun x=>v==x):=by
 have:=contains_of (l:=l) (f:=fun x=>some (v==x)) (p:=fun x=>v==x) (fun _ _=>rfl)
 unfold slices_Contains_bool slices_Index_bool
 simpa only [bs] using this
structure FewA (a:Attr):Prop where
 name:(a.Name.size:Int)<=40
 names:a.Names.length<=25
 each:∀ x∈a.Names,(x.size:Int)<=40
structure FewT (t:Types):Prop where
 nodes:t.Nodes.length<=20
 edges:t.Edges.length<=30
 name:∀ n∈t.Nodes,(n.Name.size:Int)<=40
 attrs:∀ n∈t.Nodes,n.Attrs.length<=30
 each:∀ n∈t.Nodes,∀ a∈n.Attrs,FewA a
 ename:∀ e∈t.Edges,(e.Name.size:Int)<=40
def par (t:Types) (i:Int):Int:=(at' t.Nodes i).Parent
def ParOk (t:Types) (k:Int):Prop:=∀ i,0<=i->i<k->-1<=par t i∧par t i<i
def attrsN (t:Types):Nat->Int->List Attr
 | 0,_=>[]
 | n+1,a=>if a<0 then [] else attrsN t n (par t a)++(at' t.Nodes a).Attrs
def attrsS (t:Types) (a:Int):List Attr:=attrsN t (a+1).toNat a
theorem attrsN_neg {t:Types} {n:Nat} {a:Int} (h:a<0):attrsN t n a=[]:=by
 cases n with
 | zero=>rfl
 | succ n=>rw [attrsN,if_pos h]
theorem attrsN_eq {t:Types} {k:Int} (hp:ParOk t k):∀ (n m:Nat) (a:Int),a<k->a<n->a<m->attrsN t n a=attrsN t m a
 | n,m,a,hk,hn,hm=>by
  by_cases h0:a<0
  ·rw [attrsN_neg h0,attrsN_neg h0]
  ·cases n with
   | zero=>omega
   | succ n=>
    cases m with
    | zero=>omega
    | succ m=>
     rw [attrsN,attrsN,if_neg h0,if_neg h0]
     have:=hp a (by omega) hk
     rw [attrsN_eq hp n m (par t a) (by omega) (by omega) (by omega)]
theorem attrsN_len {t:Types} (hf:FewT t) {k:Int} (hk:k<=t.Nodes.length) (hp:ParOk t k):∀ (n:Nat) (a:Int),a<k->((attrsN t n a).length:Int)<=30*n
 | 0,_,_=>by simp [attrsN]
 | n+1,a,ha=>by
  rw [attrsN]
  split
  ·simp; omega
  ·rename_i h0
   have h1:=hp a (by omega) ha
   have h2:=attrsN_len hf hk hp n (par t a) (by omega)
   have h3:=hf.attrs _ (at_mem (l:=t.Nodes) (show 0<=a by omega) (by omega))
   rw [List.length_append]
   omega
theorem attrsN_few {t:Types} (hf:FewT t) {k:Int} (hk:k<=t.Nodes.length) (hp:ParOk t k):∀ (n:Nat) (a:Int),a<k->∀ x∈attrsN t n a,FewA x
 | 0,_,_=>by simp [attrsN]
 | n+1,a,ha=>by
  rw [attrsN]
  split
  ·simp
  ·rename_i h0
   have h1:=hp a (by omega) ha
   intro x hx
   rcases List.mem_append.1 hx with hx | hx
   ·exact attrsN_few hf hk hp n (par t a) (by omega) x hx
   ·exact hf.each _ (at_mem (l:=t.Nodes) (show 0<=a by omega) (by omega)) x hx
theorem attrsS_len {t:Types} (hf:FewT t) {k a:Int} (hk:k<=t.Nodes.length) (hp:ParOk t k) (ha:a<k):(attrsS t a).length<=600:=by
 have:=attrsN_len hf hk hp (a+1).toNat a ha
 have:=hf.nodes
 unfold attrsS
 omega
theorem attrsS_few {t:Types} (hf:FewT t) {k a:Int} (hk:k<=t.Nodes.length) (hp:ParOk t k) (ha:a<k):∀ x∈attrsS t a,FewA x:=attrsN_few hf hk hp _ a ha
theorem p_attrsF {t:Types} (hf:FewT t) {k:Int} (hk:k<=t.Nodes.length) (hp:ParOk t k):∀ (n:Nat) (a:Int),0<=a->a<k->a<n->types_attrsF n t a=some (attrsN t n a)
 | 0,_,_,_,_=>by omega
 | n+1,a,h0,ha,hn=>by
  have h1:=hp a (by omega) ha
  have h2:=attrsN_len hf hk hp n (par t a) (by omega)
  have h3:=hf.attrs _ (at_mem (l:=t.Nodes) h0 (by omega))
  have h4:=hf.nodes
  rw [types_attrsF,attrsN,if_neg (by omega),idx_at h0 (by omega)]
  simp only [bs]
  show ((if decide (0<=par t a)=true then (types_attrsF n t (par t a)).bind fun x17=>some x17 else some []).bind _)=_
  have e:(if decide (0<=par t a)=true then (types_attrsF n t (par t a)).bind fun x17=>some x17 else some [])=some (attrsN t n (par t a)):=by
   by_cases hq:0<=par t a
   ·rw [if_pos (by simpa using hq),p_attrsF hf hk hp n (par t a) hq (by omega) (by omega)]; rfl
   ·rw [if_neg (by simpa using hq),attrsN_neg (by omega)]
  have hb:(attrsN t n (par t a)).length+(at' t.Nodes a).Attrs.length<=nmax:=by
   unfold nmax
   have:((attrsN t n (par t a)).length:Int)<=30*n:=h2
   have h5:attrsN t n (par t a)=attrsN t 20 (par t a):=by
    by_cases hneg:par t a<0
    ·rw [attrsN_neg hneg,attrsN_neg hneg]
    ·exact attrsN_eq hp n 20 (par t a) (by omega) (by omega) (by omega)
   have h6:=attrsN_len hf hk hp 20 (par t a) (by omega)
   rw [←h5] at h6
   omega
  rw [e,bs,appC_some hb]
  rfl
theorem p_attrs {t:Types} (hf:FewT t) {k:Int} (hk:k<=t.Nodes.length) (hp:ParOk t k) {a:Int} (h0:0<=a) (ha:a<k):types_attrs t a=some (attrsS t a):=
 lim_eq (a+1).toNat fun n hn=>by
  rw [p_attrsF hf hk hp n a h0 ha (by omega),attrsS,attrsN_eq hp n (a+1).toNat a ha (by omega) (by omega)]
theorem r_attrsF {t:Types} (hf:FewT t) {k:Int} (hk:k<=t.Nodes.length) (hp:ParOk t k):∀ (n:Nat) (a:Int),-1<=a->a<k->a+1<n->ref04_attrsF n t a=some (attrsN t n a)
 | 0,_,_,_,_=>by omega
 | n+1,a,h0,ha,hn=>by
  rw [ref04_attrsF,attrsN]
  by_cases hneg:a<0
  ·rw [if_pos (by simpa using hneg),if_pos hneg]
  ·have h1:=hp a (by omega) ha
   have h3:=hf.attrs _ (at_mem (l:=t.Nodes) (show 0<=a by omega) (by omega))
   have h4:=hf.nodes
   rw [if_neg (by simpa using hneg),if_neg hneg,idx_at (by omega) (by omega)]
   simp only [bs]
   have h5:attrsN t n (par t a)=attrsN t 20 (par t a):=by
    by_cases hneg:par t a<0
    ·rw [attrsN_neg hneg,attrsN_neg hneg]
    ·exact attrsN_eq hp n 20 (par t a) (by omega) (by omega) (by omega)
   have h6:=attrsN_len hf hk hp 20 (par t a) (by omega)
   rw [←h5] at h6
   have hb:(attrsN t n (par t a)).length+(at' t.Nodes a).Attrs.length<=nmax:=by unfold nmax; omega
   rw [show (at' t.Nodes a).Parent=par t a from rfl,r_attrsF hf hk hp n (par t a) (by omega) (by omega) (by omega),bs,appC_some (by simp; unfold nmax; omega)]
   simp only [bs,List.nil_append]
   rw [appC_some hb]; rfl
theorem r_attrs {t:Types} (hf:FewT t) {k:Int} (hk:k<=t.Nodes.length) (hp:ParOk t k) {a:Int} (h0:0<=a) (ha:a<k):ref04_attrs t a=some (attrsS t a):=
 lim_eq (a+2).toNat fun n hn=>by
  rw [r_attrsF hf hk hp n a (by omega) ha (by omega),attrsS,attrsN_eq hp n (a+1).toNat a ha (by omega) (by omega)]
end Go.Sf.Sc
