/- Plain lemmas: what the functions of the program and of the reference compute. -/
import Derived.Test.YtmaobfbhdkafkaaGreatSfRead
import Derived.Test.YtmaobfbhdkafkaaGreatFns
import Derived.Test.YtmaobfbhdkafkaaGreatSfPl
set_option maxRecDepth 100000
namespace Go.Sf
theorem TD {ρ τ:Type} {d:Int->Option ρ} {g:ρ->τ}:∀ (n:Nat) (a:Int),FP (fun i=>(d i).map g) n a=(FP d n a).map g
 | 0,_=>rfl
 | n+1,a=>by
  rw [FP,FP]
  cases d a with
  | some r=>rfl
  | none=>exact TD n (a+1)
theorem Qx {ρ τ:Type} {d:Int->Option ρ} {g:ρ->τ} {a b:Int}:fst (fun i=>(d i).map g) a b=(fst d a b).map g:=TD _ _
theorem R4 {ρ:Type} {d:Int->Option ρ} {r:ρ}:∀ {n:Nat} {a:Int},FP d n a=some r->∃ i,a<=i∧i<a+n∧d i=some r∧∀ j,a<=j->j<i->d j=none
 | 0,_,h=>by cases h
 | n+1,a,h=>by
  rw [FP] at h
  cases hd:d a with
  | some r'=>
   rw [hd] at h
   exact ⟨a,Int.le_refl _,by omega,by rw [hd]; exact h,fun j h1 h2=>by omega⟩
  | none=>
   rw [hd] at h
   obtain ⟨i,h1,h2,h3,h4⟩:=R4 h
   refine ⟨i,by omega,by omega,h3,fun j k1 k2=>?_⟩
   by_cases hj:j=a
   ·subst hj; exact hd
   ·exact h4 j (by omega) k2
theorem FE {ρ:Type} {d:Int->Option ρ} {r:ρ} {a b:Int} (h:fst d a b=some r):∃ i,a<=i∧i<b∧d i=some r∧∀ j,a<=j->j<i->d j=none:=by
 obtain ⟨i,h1,h2,h3,h4⟩:=R4 h
 exact ⟨i,h1,by omega,h3,h4⟩
def Kq (p:Int->Bool) (s:ByteArray):Int:=(fst (fun i=>if p (bt s i) then none else some i) 0 s.size).getD s.size
theorem Qo (p:Int->Bool) (s:ByteArray):0<=Kq p s∧Kq p s<=s.size∧(∀ j,0<=j->j<Kq p s->p (bt s j)=true)∧(Kq p s<s.size->p (bt s (Kq p s))=false):=by
 unfold Kq
 cases h:fst (fun i=>if p (bt s i) then none else some i) 0 s.size with
 | none=>
  rw [CY] at h
  simp only [Option.getD]
  refine ⟨by omega,by omega,fun j h1 h2=>?_,fun h1=>by omega⟩
  have:=h j h1 h2
  cases hp:p (bt s j)
  ·simp [hp] at this
  ·rfl
 | some r=>
  obtain ⟨i,h1,h2,h3,h4⟩:=FE h
  have hi:p (bt s i)=false∧i=r:=by
   cases hp:p (bt s i) <;> simp [hp] at h3
   exact ⟨rfl,h3⟩
  obtain ⟨hi,rfl⟩:=hi
  simp only [Option.getD]
  refine ⟨h1,by omega,fun j k1 k2=>?_,fun _=>hi⟩
  have:=h4 j k1 k2
  cases hp:p (bt s j)
  ·simp [hp] at this
  ·rfl
theorem VE {s:ByteArray} (h:s≠⟨#[]⟩):0<s.size:=by
 rcases Nat.eq_zero_or_pos s.size with h0 | h0
 ·exfalso; apply h
  cases s with | mk d=>congr 1; exact Array.eq_empty_of_size_eq_zero h0
 ·exact h0
end Go.Sf
namespace Go.Sf.Sc
open Go Go.Sf
def GF (c:Int):Bool:=((decide (97<=c))&&(decide (c<=122)))||((decide (65<=c))&&(decide (c<=90)))
def digitB (c:Int):Bool:=(decide (48<=c))&&(decide (c<=57))
def OJ (c:Int):Bool:=GF c||digitB c||decide (c=95)
theorem Us (c:Int):KU c=some (GF c):=rfl
theorem Sp (c:Int):J1 c=some (digitB c):=rfl
theorem Ux (c:Int):KO c=some (GF c):=rfl
theorem WQ (c:Int):Ir c=some (digitB c):=rfl
theorem fc (c:Int):MF c=some (OJ c):=by
 unfold MF OJ
 rw [Us,bs,Sp]
 cases GF c <;> cases digitB c <;> rfl
theorem XC {s:ByteArray} (hs:(s.size:Int)<=4611686018427387904) {ok:Int->Option Bool} {p:Int->Bool} (h:∀ c,ok c=some (p c)):Hy s ok=some (Kq p s):=by
 unfold Hy
 rw [O0 (c:=fun i=>(if p (bt s i) then none else some i).map .inl) (a:=0) (b:=s.size) (by omega)]
 ·rw [Qx]
  unfold Kq
  cases fst (fun i=>if p (bt s i)=true then none else some i) 0 s.size <;> rfl
 ·intro i h1 h2 _
  simp only [h2,decide_true,if_true,Nf h1 h2,bs,h]
  cases p (bt s i)
  ·simp [cnt]
  ·simp [cnt,AW (show -9223372036854775808<=i+1 by omega) (by omega)]
 ·simp
def F6 (s:ByteArray):Bool:=decide (0<s.size)&&GF (bt s 0)&&decide (s.size<=20)&&decide (Kq OJ s=s.size)
theorem So (l:List ByteArray) (v:ByteArray):∃ k,GR l v=some k∧(0<=k↔v∈l):=by
 unfold GR
 rw [CX (fun i=>if (v==AB l i)=true then some i else none)]
 ·cases h:fst (fun i=>if (v==AB l i)=true then some i else none) 0 l.length with
  | none=>
   rw [CY] at h
   refine ⟨-1,rfl,by omega,fun hm=>?_⟩
   obtain ⟨i,h1,h2,h3⟩:=DX hm
   have:=h i h1 h2
   rw [h3,if_pos (beq_self_eq_true v)] at this
   cases this
  | some k=>
   obtain ⟨i,h1,h2,h3,_⟩:=FE h
   have h4:(v==AB l i)=true∧i=k:=by
    by_cases hv:(v==AB l i)=true
    ·rw [if_pos hv] at h3; exact ⟨hv,by simpa using h3⟩
    ·rw [if_neg hv] at h3; cases h3
   obtain ⟨h4,rfl⟩:=h4
   refine ⟨i,rfl,fun _=>?_,fun _=>h1⟩
   rw [eq_of_beq h4]; exact AN h1 h2
 ·intro i h1 h2 _
  simp only [AF h1 h2,bs]
  split <;> rfl
theorem NL (l:List ByteArray) (v:ByteArray):D0 l v=some (l.contains v):=by
 unfold D0
 obtain ⟨k,h1,h2⟩:=So l v
 rw [h1,bs]
 congr 1
 rw [Bool.eq_iff_iff,zzX,h2,List.contains_iff_mem]
theorem fa {s:ByteArray} (h0:0<s.size) (hs:(s.size:Int)<=4611686018427387904):∃ k n e,Ii s=some (k,n,e)∧(((decide (e=0))&&(decide (k=1)))&&(decide (n=(s.size:Int))))=F6 s:=by
 have hr:=Qo OJ s
 unfold Ii F6
 simp only [Nf (Int.le_refl 0) (show (0:Int)<s.size by omega),bs,Us,Sp,XC hs fc,XC hs Sp,h0,decide_true,Bool.true_and]
 by_cases hl:GF (bt s 0)=true
 ·rw [if_pos hl]
  by_cases h20:20<Kq OJ s
  ·refine ⟨0,0,3,by simp [h20],?_⟩
   simp [hl]
   intro h1 h2
   omega
  ·refine ⟨1,_,0,by rw [if_neg (by simpa using h20)],?_⟩
   simp only [hl,decide_true,Bool.true_and]
   rw [Bool.eq_iff_iff]
   simp only [zzX,zzZ]
   omega
 ·rw [if_neg hl]
  have hl':GF (bt s 0)=false:=by simpa using hl
  rw [hl',Bool.false_and,Bool.false_and]
  by_cases hd:digitB (bt s 0)=true
  ·rw [if_pos hd]
   by_cases h9:9<Kq digitB s
   ·exact ⟨0,0,3,by simp [h9],by simp⟩
   ·exact ⟨2,_,0,by rw [if_neg (by simpa using h9)],by simp⟩
  ·rw [if_neg hd]
   by_cases hq:bt s 0=34
   ·have hsz:=Tn (s:=s) (a:=1) (b:=s.size) (by omega) (by omega) (by omega)
    have hq2:∀ c,Kh c=some (((decide (32<=c))&&(decide (c<=126)))&&(!decide (c=34))):=fun _=>rfl
    have hr2:=Qo (fun c=>((decide (32<=c))&&(decide (c<=126)))&&(!decide (c=34))) (s.extract (1:Int).toNat (s.size:Int).toNat)
    have hqq:∃ n e,HI s=some (n,e):=by
     unfold HI
     rw [Ig (by omega) (by omega) (by omega),bs,XC (by omega) hq2,bs]
     rw [AW (by omega) (by omega)]
     by_cases he:1+Kq (fun c=>((decide (32<=c))&&(decide (c<=126)))&&(!decide (c=34))) (s.extract (1:Int).toNat (s.size:Int).toNat)=s.size
     ·refine ⟨0,2,?_⟩
      simp only [he,decide_true,if_true,bs]
     ·simp only [he,decide_false,Bool.false_eq_true,if_false]
      rw [Nf (by omega) (by omega)]
      simp only [bs]
      split
      ·exact ⟨_,_,rfl⟩
      ·split
       ·exact ⟨_,_,rfl⟩
       ·exact ⟨_,_,rfl⟩
    obtain ⟨n,e,hne⟩:=hqq
    refine ⟨3,n,e,by rw [if_pos (by simpa using hq),hne]; rfl,by simp⟩
   ·rw [if_neg (by simpa using hq)]
    have hp:∃ b,ME s=some b:=by
     unfold ME
     by_cases h2:2<=(s.size:Int)
     ·rw [if_pos (by simpa using h2),Ig (by omega) (by omega) h2]
      simp only [bs,NL]
      exact ⟨_,rfl⟩
     ·rw [if_neg (by simpa using h2)]
      exact ⟨_,rfl⟩
    obtain ⟨b,hb⟩:=hp
    rw [hb,bs]
    cases b
    ·simp only [Bool.false_eq_true,if_false,strings_IndexByte,bs]
     split
     ·exact ⟨_,_,_,rfl,rfl⟩
     ·exact ⟨_,_,_,rfl,rfl⟩
    ·exact ⟨_,_,_,rfl,rfl⟩
theorem Ps {s:ByteArray} (hs:(s.size:Int)<=4611686018427387904):EH s=some (F6 s):=by
 unfold EH Iv
 simp only [show decide ((1:Int)=3)=false from rfl,Bool.false_eq_true,if_false,bs]
 by_cases he:s=⟨#[]⟩
 ·subst he; rfl
 ·rw [if_neg (by simpa using he)]
  obtain ⟨k,n,e,h1,h2⟩:=fa (VE he) hs
  rw [h1]
  simp only [bs]
  rw [h2]
theorem fv {s:ByteArray} (hs:(s.size:Int)<=4611686018427387904) (digits:Bool):∃ n,M1 s 0 digits=some n∧0<=n∧n<=s.size∧(digits=false->n=Kq OJ s):=by
 have hr:=Qo (fun c=>digitB c||(!digits&&(GF c||decide (c=95)))) s
 refine ⟨Kq (fun c=>digitB c||(!digits&&(GF c||decide (c=95)))) s,?_,hr.1,hr.2.1,fun hd=>?_⟩
 ·unfold M1
  rw [O0 (c:=fun i=>(if (digitB (bt s i)||(!digits&&(GF (bt s i)||decide (bt s i=95)))) then none else some i).map .inl) (a:=0) (b:=s.size) (by omega)]
  ·rw [Qx]
   unfold Kq
   cases fst (fun i=>if (digitB (bt s i)||(!digits&&(GF (bt s i)||decide (bt s i=95))))=true then none else some i) 0 s.size <;> rfl
  ·intro i h1 h2 _
   have hw:AI (0+i)=i:=by rw [AW (by omega) (by omega)]; omega
   simp only [hw,h2,decide_true,if_true,Nf h1 h2,bs,WQ,Ux]
   cases digitB (bt s i) <;> cases digits <;> cases GF (bt s i) <;> cases (decide (bt s i=95)) <;> simp [cnt,AW (show -9223372036854775808<=i+1 by omega) (by omega)]
  ·have hw:AI (0+(s.size:Int))=s.size:=by rw [AW (by omega) (by omega)]; omega
   simp only [hw,Int.lt_irrefl,decide_false,Bool.false_eq_true,if_false,bs]
 ·subst hd
  congr 1
  funext c
  unfold OJ
  cases GF c <;> cases digitB c <;> cases decide (c=95) <;> rfl
theorem Z6 {s:ByteArray} (h0:0<s.size) (hs:(s.size:Int)<=4611686018427387904):∃ n,KP s 0=some n∧(n=0∨(2<=n∧n<=s.size)):=by
 unfold KP
 rw [O0 (c:=fun i=>if decide (bt s i=34)=true then some (Sum.inr (i+1):Int ⊕ Int) else if (decide (bt s i<32)||decide (126<bt s i))=true then some (Sum.inr 0) else none) (a:=1) (b:=s.size) (by omega)]
 ·cases h:fst (fun i=>if decide (bt s i=34)=true then some (Sum.inr (i+1):Int ⊕ Int) else if (decide (bt s i<32)||decide (126<bt s i))=true then some (Sum.inr 0) else none) 1 s.size with
  | none=>exact ⟨0,rfl,.inl rfl⟩
  | some r=>
   obtain ⟨i,h1,h2,h3,_⟩:=FE h
   split at h3
   ·cases h3; exact ⟨_,rfl,.inr (by omega)⟩
   ·split at h3
    ·cases h3; exact ⟨_,rfl,.inl rfl⟩
    ·cases h3
 ·intro i h1 h2 _
  have hw:AI (0+i)=i:=by rw [AW (by omega) (by omega)]; omega
  simp only [hw,h2,decide_true,if_true,Nf (show 0<=i by omega) h2,bs,AW (show -9223372036854775808<=i+1 by omega) (by omega)]
  split
  ·rfl
  ·split <;> rfl
 ·have hw:AI (0+(s.size:Int))=s.size:=by rw [AW (by omega) (by omega)]; omega
  simp only [hw,Int.lt_irrefl,decide_false,Bool.false_eq_true,if_false]
theorem mh {s:ByteArray} (h0:0<s.size) (hs:(s.size:Int)<=4611686018427387904):∃ t n e,M0 s 0=some (t,n,e)∧(((decide (e=0))&&(decide (n=(s.size:Int))))&&(decide (t.Kind=1)))=F6 s:=by
 obtain ⟨m,hm1,hm2,hm3,hm4⟩:=fv hs (digitB (bt s 0))
 unfold M0 F6
 simp only [Nf (Int.le_refl 0) (show (0:Int)<s.size by omega),bs,Ux,WQ,h0,decide_true,Bool.true_and,hm1]
 have hw:AI (0+m)=m:=by rw [AW (by omega) (by omega)]; omega
 by_cases hl:GF (bt s 0)=true
 ·have hd:digitB (bt s 0)=false:=by
   unfold GF at hl; unfold digitB
   simp only [Bool.or_eq_true,zzZ,zzX] at hl
   rw [Bool.and_eq_false_iff]
   simp only [decide_eq_false_iff_not]
   omega
  have hm:=hm4 hd
  subst hm
  simp only [hl,if_true,hd,Bool.false_eq_true,if_false,bs,hw]
  by_cases h20:20<Kq OJ s
  ·refine ⟨_,_,_,by rw [if_pos (by simpa using h20)],?_⟩
   rw [Bool.eq_iff_iff]
   simp only [zzX,zzZ]
   omega
  ·rw [if_neg (by simpa using h20),Ig (Int.le_refl _) hm2 hm3]
   refine ⟨_,_,_,rfl,?_⟩
   rw [Bool.eq_iff_iff]
   simp only [zzX,zzZ,true_and,and_true]
   omega
 ·have hl':GF (bt s 0)=false:=by simpa using hl
  simp only [hl',Bool.false_eq_true,if_false,bs,Bool.false_and,hw]
  by_cases hd:digitB (bt s 0)=true
  ·simp only [hd,if_true,bs]
   by_cases h9:9<m
   ·exact ⟨_,_,_,by rw [if_pos (by simpa using h9)],by simp⟩
   ·rw [if_neg (by simpa using h9),Ig (Int.le_refl _) hm2 hm3]
    exact ⟨_,_,_,rfl,by simp⟩
  ·have hd':digitB (bt s 0)=false:=by simpa using hd
   simp only [hd',Bool.false_eq_true,if_false,bs]
   by_cases hq:bt s 0=34
   ·obtain ⟨n,hn,hn2⟩:=Z6 h0 hs
    rw [if_pos (by simpa using hq),hn,bs]
    rcases hn2 with rfl | hn2
    ·exact ⟨_,_,_,rfl,by simp⟩
    ·rw [if_neg (by simp; omega)]
     split
     ·exact ⟨_,_,_,rfl,by simp⟩
     ·have e1:AI (0+1)=1:=by decide
      have e2:AI (0+n)=n:=by rw [AW (by omega) (by omega)]; omega
      rw [e1,e2,AW (show -9223372036854775808<=n - 1 by omega) (by omega),Ig (by omega) (by omega) (by omega)]
      exact ⟨_,_,_,rfl,by simp⟩
   ·rw [if_neg (by simpa using hq)]
    unfold Mp
    rw [bs]
    generalize hL:([(⟨#[45,62]⟩:ByteArray),(⟨#[60,61]⟩:ByteArray),(⟨#[62,61]⟩:ByteArray),(⟨#[61,61]⟩:ByteArray),(⟨#[33,61]⟩:ByteArray),(⟨#[123]⟩:ByteArray),(⟨#[125]⟩:ByteArray),(⟨#[40]⟩:ByteArray),(⟨#[41]⟩:ByteArray),(⟨#[91]⟩:ByteArray),(⟨#[93]⟩:ByteArray),(⟨#[44]⟩:ByteArray),(⟨#[59]⟩:ByteArray),(⟨#[58]⟩:ByteArray),(⟨#[61]⟩:ByteArray),(⟨#[43]⟩:ByteArray),(⟨#[45]⟩:ByteArray),(⟨#[42]⟩:ByteArray),(⟨#[60]⟩:ByteArray),(⟨#[62]⟩:ByteArray),(⟨#[33]⟩:ByteArray),(⟨#[38]⟩:ByteArray),(⟨#[124]⟩:ByteArray),(⟨#[46]⟩:ByteArray),(⟨#[63]⟩:ByteArray)]:List ByteArray)=L
    have hsz:∀ x∈L,x.size<=2:=by subst hL; decide
    rcases UR (f:=(fun (i0:Int) (s0:E8)=>
      (AG L i0).bind fun x75=>
      (if (decide ((AI (0+(x75.size:Int)))<=(s.size:Int)))=true then ((AG L i0).bind fun x88=>
      (sslc s 0 (AI (0+(x88.size:Int)))).bind fun x92=>
      (AG L i0).bind fun x95=>
      some (x92==x95)) else some false).bind fun x98=>
      if x98=true then
      (AG L i0).bind fun x101=>
      (AG L i0).bind fun x106=>
      some (B9.ret (E8.mk 4 x101 0,(x106.size:Int),(0:Int)))
      else
      some (B9.next s0))) (fun _ s=>True) (fun _=>True) (fun r=>r.1.Kind=4) (a:=0) (b:=L.length) (s:=E8.mk 0 (⟨#[]⟩:ByteArray) 0) (by omega) trivial (fun i t h1 h2 _=>by
      have hx:=hsz _ (AN h1 h2)
      have hw2:AI (0+((AB L i).size:Int))=(AB L i).size:=by rw [AW (by omega) (by omega)]; omega
      simp only [AF h1 h2,bs,hw2]
      by_cases hc:((AB L i).size:Int)<=s.size
      ·rw [if_pos (by simpa using hc),Ig (by omega) (by omega) hc]
       simp only [bs]
       split
       ·exact .inr (.inr ⟨_,rfl,rfl⟩)
       ·exact .inl ⟨_,rfl,trivial⟩
      ·rw [if_neg (by simpa using hc)]
       simp only [bs]
       exact .inl ⟨_,rfl,trivial⟩) with ⟨s',h1,_⟩ | ⟨r,h1,h2⟩
    ·rw [h1]; exact ⟨_,_,_,rfl,by simp⟩
    ·rw [h1]; exact ⟨_,_,_,rfl,by simp [h2]⟩
theorem Pu {s:ByteArray} (hs:(s.size:Int)<=4611686018427387904):HC s=some (F6 s):=by
 unfold HC Mn NU
 simp only [show decide ((1:Int)=3)=false from rfl,Bool.false_eq_true,if_false,bs]
 by_cases he:s=⟨#[]⟩
 ·subst he; rfl
 ·rw [if_neg (by simpa using he)]
  obtain ⟨t,n,e,h1,h2⟩:=mh (VE he) hs
  rw [h1]
  simp only [bs]
  rw [h2]
end Go.Sf.Sc
namespace Go.Sf
variable {ρ β:Type}
def nz (e:Int):Option Int:=if e=0 then none else some e
theorem On (e:Int):(if (!decide (e=0))=true then some (B9.ret e) else some (B9.next ()))=some (OS (nz e)):=by
 unfold nz
 by_cases h:e=0 <;> simp [h,OS]
theorem ef (b:Bool) (r:ρ):(if b=true then some (B9.ret r) else some (B9.next ()))=some (OS (if b=true then some r else none)):=by
 cases b <;> rfl
theorem C4 {σ:Type} {s:σ} {k:σ->Option β} {kr:ρ->Option β}:thenR (some (.inl s)) k kr=k s:=rfl
theorem Tf {σ:Type} {r:ρ} {k:σ->Option β} {kr:ρ->Option β}:thenR (some (.inr r)) k kr=kr r:=rfl
theorem GJ (o:Option ρ) (k:Unit->Option β) (kr:ρ->Option β):thenR (some (bI o)) k kr=match o with | none=>k () | some r=>kr r:=by
 cases o <;> rfl
theorem GE (o:Option Int):thenR (some (bI o)) (fun _=>some 0) (fun v=>some v)=some (o.getD 0):=by
 cases o <;> rfl
theorem R5 {c:Int->Int} {a b:Int} (h:(fst (fun i=>nz (c i)) a b).getD 0=0):∀ i,a<=i->i<b->c i=0:=by
 have:fst (fun i=>nz (c i)) a b=none:=by
  cases hf:fst (fun i=>nz (c i)) a b with
  | none=>rfl
  | some r=>
   rw [hf] at h
   simp only [Option.getD] at h
   subst h
   obtain ⟨i,_,_,h3,_⟩:=FE hf
   unfold nz at h3
   split at h3
   ·cases h3
   ·rename_i hn; simp at h3; exact (hn h3).elim
 rw [CY] at this
 intro i h1 h2
 have:=this i h1 h2
 unfold nz at this
 split at this
 ·assumption
 ·cases this
theorem Na {e:Int}:nz e=none↔e=0:=by
 unfold nz
 by_cases h:e=0 <;> simp [h]
theorem UZ {α:Type} [Inhabited α] {l:List α} {f:α->Option Bool} {p:α->Bool} (h:∀ x∈l,f x=some (p x)) :
  (thenR (forR (ρ:=Int) (fun (i0:Int) (_:Unit)=>(AG l i0).bind fun x14=>(f x14).bind fun x16=>if x16=true then some (.ret i0) else some (.next ())) 0 (l.length:Int) ()) (fun _=>some (-1)) (fun v0=>some v0)) =
   some ((fst (fun i=>if p (AB l i)=true then some i else none) 0 l.length).getD (-1)):=by
 rw [CX (fun i=>if p (AB l i)=true then some i else none)]
 ·rw [GJ]; cases fst (fun i=>if p (AB l i)=true then some i else none) 0 l.length <;> rfl
 ·intro i h1 h2 _
  rw [AF h1 h2,bs,h _ (AN h1 h2),bs,ef]
theorem TJ {α:Type} [Inhabited α] {l:List α} {p:α->Bool}:decide (0<=(fst (fun i=>if p (AB l i)=true then some i else none) 0 l.length).getD (-1))=l.any p:=by
 rw [Jh,anyR]
 cases h:fst (fun i=>if p (AB l i)=true then some i else none) 0 l.length with
 | none=>
  rw [CY] at h
  symm
  show Option.isSome _=false
  rw [Option.isSome_eq_false_iff,Option.isNone_iff_eq_none,CY]
  intro i h1 h2
  have:=h i h1 h2
  by_cases hp:p (AB l i)=true
  ·rw [if_pos hp] at this; cases this
  ·rw [if_neg hp]
 | some k=>
  obtain ⟨i,h1,h2,h3,_⟩:=FE h
  have h4:p (AB l i)=true∧i=k:=by
   by_cases hv:p (AB l i)=true
   ·rw [if_pos hv] at h3; exact ⟨hv,by simpa using h3⟩
   ·rw [if_neg hv] at h3; cases h3
  simp only [Option.getD]
  rw [decide_eq_true (show (0:Int)<=k by omega)]
  symm
  show Option.isSome _=true
  rw [Option.isSome_iff_ne_none,ne_eq,CY]
  intro hn
  have:=hn i h1 h2
  rw [if_pos h4.1] at this
  cases this
theorem FQ {α:Type} [Inhabited α] {l:List α} {f:α->Option Bool} {p:α->Bool} (h:∀ x∈l,f x=some (p x)) :
  ((thenR (forR (ρ:=Int) (fun (i0:Int) (_:Unit)=>(AG l i0).bind fun x14=>(f x14).bind fun x16=>if x16=true then some (.ret i0) else some (.next ())) 0 (l.length:Int) ()) (fun _=>some (-1)) (fun v0=>some v0)).bind fun x7=>some (decide (0<=x7)))=some (l.any p):=by
 rw [UZ h,bs,TJ]
end Go.Sf
namespace Go.Sf.Sc
open Go Go.Sf
instance:Inhabited Attr:=⟨⟨⟨#[]⟩,0,0,[]⟩⟩
instance:Inhabited BF:=⟨⟨⟨#[]⟩,0,false,[]⟩⟩
instance:Inhabited CJ:=⟨⟨⟨#[]⟩,0,0,0,0,0,0⟩⟩
instance:Inhabited B6:=⟨⟨0,0,0⟩⟩
instance:Inhabited CS:=⟨⟨0,0,⟨0,0⟩⟩⟩
instance:Inhabited Test:=⟨⟨0,⟨0,0⟩,⟨0,0⟩⟩⟩
instance:Inhabited AA:=⟨⟨0,[],⟨[],[]⟩,⟨⟨[],[]⟩,[],0,[]⟩⟩⟩
theorem UF {l:List Int} {f:Int->Option Bool} {p:Int->Bool} (h:∀ x∈l,f x=some (p x)):BJ l f=some (l.any p):=FQ h
theorem Vu {l:List B6} {f:B6->Option Bool} {p:B6->Bool} (h:∀ x∈l,f x=some (p x)):BU l f=some (l.any p):=FQ h
theorem UE {l:List AA} {f:AA->Option Bool} {p:AA->Bool} (h:∀ x∈l,f x=some (p x)):BZ l f=some (l.any p):=FQ h
theorem VX {l:List BF} {p:BF->Bool}:CM l (fun x=>some (p x))=some (l.any p):=FQ (fun _ _=>rfl)
theorem VW {l:List CJ} {p:CJ->Bool}:CL l (fun x=>some (p x))=some (l.any p):=FQ (fun _ _=>rfl)
theorem cI {l:List Attr} {p:Attr->Bool}:C9 l (fun x=>some (p x))=some (l.any p):=FQ (fun _ _=>rfl)
theorem X0 {l:List Int} {p:Int->Bool}:BJ l (fun x=>some (p x))=some (l.any p):=FQ (fun _ _=>rfl)
theorem cJ {l:List B6} {p:B6->Bool}:BU l (fun x=>some (p x))=some (l.any p):=FQ (fun _ _=>rfl)
theorem cK {l:List CS} {p:CS->Bool}:DA l (fun x=>some (p x))=some (l.any p):=FQ (fun _ _=>rfl)
theorem fF (l:List Int) (v:Int):ID l v=some ((fst (fun i=>if decide (v=AB l i)=true then some i else none) 0 l.length).getD (-1)):=by
 have:=UZ (l:=l) (f:=fun x=>some (decide (v=x))) (p:=fun x=>decide (v=x)) (fun _ _=>rfl)
 unfold ID
 simpa only [bs] using this
theorem UH (l:List Int) (v:Int):DB l v=some (l.any fun x=>decide (v=x)):=by
 unfold DB
 rw [fF,bs,TJ (p:=fun x=>decide (v=x))]
theorem cN (l:List Bool) (v:Bool):GB l v=some (l.any fun x=>v==x):=by
 have:=FQ (l:=l) (f:=fun x=>some (v==x)) (p:=fun x=>v==x) (fun _ _=>rfl)
 unfold GB Iy
 simpa only [bs] using this
structure QH (a:Attr):Prop where
 name:(a.Name.size:Int)<=40
 names:a.Names.length<=25
 each:∀ x∈a.Names,(x.size:Int)<=40
structure BS (t:Types):Prop where
 nodes:t.Nodes.length<=20
 edges:t.Edges.length<=30
 name:∀ n∈t.Nodes,(n.Name.size:Int)<=40
 attrs:∀ n∈t.Nodes,n.Attrs.length<=30
 each:∀ n∈t.Nodes,∀ a∈n.Attrs,QH a
 ename:∀ e∈t.Edges,(e.Name.size:Int)<=40
def par (t:Types) (i:Int):Int:=(AB t.Nodes i).Parent
def FO (t:Types) (k:Int):Prop:=∀ i,0<=i->i<k->-1<=par t i∧par t i<i
def CE (t:Types):Nat->Int->List Attr
 | 0,_=>[]
 | n+1,a=>if a<0 then [] else CE t n (par t a)++(AB t.Nodes a).Attrs
def AZ (t:Types) (a:Int):List Attr:=CE t (a+1).toNat a
theorem IN {t:Types} {n:Nat} {a:Int} (h:a<0):CE t n a=[]:=by
 cases n with
 | zero=>rfl
 | succ n=>rw [CE,if_pos h]
theorem LO {t:Types} {k:Int} (hp:FO t k):∀ (n m:Nat) (a:Int),a<k->a<n->a<m->CE t n a=CE t m a
 | n,m,a,hk,hn,hm=>by
  by_cases h0:a<0
  ·rw [IN h0,IN h0]
  ·cases n with
   | zero=>omega
   | succ n=>
    cases m with
    | zero=>omega
    | succ m=>
     rw [CE,CE,if_neg h0,if_neg h0]
     have:=hp a (by omega) hk
     rw [LO hp n m (par t a) (by omega) (by omega) (by omega)]
theorem Lb {t:Types} (hf:BS t) {k:Int} (hk:k<=t.Nodes.length) (hp:FO t k):∀ (n:Nat) (a:Int),a<k->((CE t n a).length:Int)<=30*n
 | 0,_,_=>by simp [CE]
 | n+1,a,ha=>by
  rw [CE]
  split
  ·simp; omega
  ·rename_i h0
   have h1:=hp a (by omega) ha
   have h2:=Lb hf hk hp n (par t a) (by omega)
   have h3:=hf.attrs _ (AN (l:=t.Nodes) (show 0<=a by omega) (by omega))
   rw [List.length_append]
   omega
theorem Rr {t:Types} (hf:BS t) {k:Int} (hk:k<=t.Nodes.length) (hp:FO t k):∀ (n:Nat) (a:Int),a<k->∀ x∈CE t n a,QH x
 | 0,_,_=>by simp [CE]
 | n+1,a,ha=>by
  rw [CE]
  split
  ·simp
  ·rename_i h0
   have h1:=hp a (by omega) ha
   intro x hx
   rcases List.mem_append.1 hx with hx | hx
   ·exact Rr hf hk hp n (par t a) (by omega) x hx
   ·exact hf.each _ (AN (l:=t.Nodes) (show 0<=a by omega) (by omega)) x hx
theorem Ld {t:Types} (hf:BS t) {k a:Int} (hk:k<=t.Nodes.length) (hp:FO t k) (ha:a<k):(AZ t a).length<=600:=by
 have:=Lb hf hk hp (a+1).toNat a ha
 have:=hf.nodes
 unfold AZ
 omega
theorem Lc {t:Types} (hf:BS t) {k a:Int} (hk:k<=t.Nodes.length) (hp:FO t k) (ha:a<k):∀ x∈AZ t a,QH x:=Rr hf hk hp _ a ha
theorem Uo {t:Types} (hf:BS t) {k:Int} (hk:k<=t.Nodes.length) (hp:FO t k):∀ (n:Nat) (a:Int),0<=a->a<k->a<n->DS n t a=some (CE t n a)
 | 0,_,_,_,_=>by omega
 | n+1,a,h0,ha,hn=>by
  have h1:=hp a (by omega) ha
  have h2:=Lb hf hk hp n (par t a) (by omega)
  have h3:=hf.attrs _ (AN (l:=t.Nodes) h0 (by omega))
  have h4:=hf.nodes
  rw [DS,CE,if_neg (by omega),AF h0 (by omega)]
  simp only [bs]
  show ((if decide (0<=par t a)=true then (DS n t (par t a)).bind fun x17=>some x17 else some []).bind _)=_
  have e:(if decide (0<=par t a)=true then (DS n t (par t a)).bind fun x17=>some x17 else some [])=some (CE t n (par t a)):=by
   by_cases hq:0<=par t a
   ·rw [if_pos (by simpa using hq),Uo hf hk hp n (par t a) hq (by omega) (by omega)]; rfl
   ·rw [if_neg (by simpa using hq),IN (by omega)]
  have hb:(CE t n (par t a)).length+(AB t.Nodes a).Attrs.length<=BC:=by
   unfold BC
   have:((CE t n (par t a)).length:Int)<=30*n:=h2
   have h5:CE t n (par t a)=CE t 20 (par t a):=by
    by_cases hneg:par t a<0
    ·rw [IN hneg,IN hneg]
    ·exact LO hp n 20 (par t a) (by omega) (by omega) (by omega)
   have h6:=Lb hf hk hp 20 (par t a) (by omega)
   rw [←h5] at h6
   omega
  rw [e,bs,BI hb]
  rfl
theorem WI {t:Types} (hf:BS t) {k:Int} (hk:k<=t.Nodes.length) (hp:FO t k) {a:Int} (h0:0<=a) (ha:a<k):J2 t a=some (AZ t a):=
 FL (a+1).toNat fun n hn=>by
  rw [Uo hf hk hp n a h0 ha (by omega),AZ,LO hp n (a+1).toNat a ha (by omega) (by omega)]
theorem Uv {t:Types} (hf:BS t) {k:Int} (hk:k<=t.Nodes.length) (hp:FO t k):∀ (n:Nat) (a:Int),-1<=a->a<k->a+1<n->HE n t a=some (CE t n a)
 | 0,_,_,_,_=>by omega
 | n+1,a,h0,ha,hn=>by
  rw [HE,CE]
  by_cases hneg:a<0
  ·rw [if_pos (by simpa using hneg),if_pos hneg]
  ·have h1:=hp a (by omega) ha
   have h3:=hf.attrs _ (AN (l:=t.Nodes) (show 0<=a by omega) (by omega))
   have h4:=hf.nodes
   rw [if_neg (by simpa using hneg),if_neg hneg,AF (by omega) (by omega)]
   simp only [bs]
   have h5:CE t n (par t a)=CE t 20 (par t a):=by
    by_cases hneg:par t a<0
    ·rw [IN hneg,IN hneg]
    ·exact LO hp n 20 (par t a) (by omega) (by omega) (by omega)
   have h6:=Lb hf hk hp 20 (par t a) (by omega)
   rw [←h5] at h6
   have hb:(CE t n (par t a)).length+(AB t.Nodes a).Attrs.length<=BC:=by unfold BC; omega
   rw [show (AB t.Nodes a).Parent=par t a from rfl,Uv hf hk hp n (par t a) (by omega) (by omega) (by omega),bs,BI (by simp; unfold BC; omega)]
   simp only [bs,List.nil_append]
   rw [BI hb]; rfl
theorem WN {t:Types} (hf:BS t) {k:Int} (hk:k<=t.Nodes.length) (hp:FO t k) {a:Int} (h0:0<=a) (ha:a<k):Mq t a=some (AZ t a):=
 FL (a+2).toNat fun n hn=>by
  rw [Uv hf hk hp n a (by omega) ha (by omega),AZ,LO hp n (a+1).toNat a ha (by omega) (by omega)]
end Go.Sf.Sc
namespace Go.Sf.Sc
open Go Go.Sf
def KL (l:List ByteArray):Int:=
 if (20:Int)<l.length then 3 else (fst (fun i=>if F6 (AB l i)=false then some 2 else if anyR (fun j=>AB l j==AB l i) 0 i=true then some 5 else none) 0 l.length).getD 0
theorem UG {l:List ByteArray} {x:ByteArray} {b:Int} (h0:0<=b) (h1:b<=l.length):(l.take b.toNat).contains x=anyR (fun j=>AB l j==x) 0 b:=by
 rw [List.contains_eq_any_beq,O2 h0 h1]
 exact Rp (fun i _ _=>by rw [Bool.beq_comm])
theorem cv {l:List ByteArray} (hl:∀ x∈l,(x.size:Int)<=40):H0 l=some (KL l):=by
 unfold H0 KL
 by_cases h20:(20:Int)<l.length
 ·rw [if_pos (by simpa using h20),if_pos h20]
 ·rw [if_neg (by simpa using h20),if_neg h20]
  rw [CX (fun i=>if F6 (AB l i)=false then some 2 else if anyR (fun j=>AB l j==AB l i) 0 i=true then some 5 else none),GE]
  intro i h1 h2 _
  have hx:=hl _ (AN h1 h2)
  rw [AF h1 h2,bs,Ps (by omega),bs,JY h1 (by omega)]
  simp only [bs,NL,UG h1 (show i<=l.length by omega)]
  cases F6 (AB l i) <;> cases anyR (fun j=>AB l j==AB l i) 0 i <;> rfl
theorem dF {l:List ByteArray} (hl:∀ x∈l,(x.size:Int)<=40):K3 l=some (KL l):=by
 unfold K3 KL
 by_cases h20:(20:Int)<l.length
 ·rw [if_pos (by simpa using h20),if_pos h20]
 ·rw [if_neg (by simpa using h20),if_neg h20]
  rw [CX (fun i=>if F6 (AB l i)=false then some 2 else if anyR (fun j=>AB l j==AB l i) 0 i=true then some 5 else none),GE]
  intro i h1 h2 _
  have hx:=hl _ (AN h1 h2)
  rw [AF h1 h2,bs,Pu (by omega),bs,CB (fun j=>AB l j==AB l i) 5]
  ·cases F6 (AB l i) <;> cases anyR (fun j=>AB l j==AB l i) 0 i <;> rfl
  ·intro j k1 k2 _
   rw [AF k1 (by omega),bs,bs]
   split <;> rfl
def LB (all:List Attr) (k:Int):Int:=
 let x:=AB all k
 if F6 x.Name=false then 2 else if anyR (fun j=>(AB all j).Name==x.Name) 0 k=true then 5 else
 if x.Names.length=0 then (if -1000000<=x.Low∧x.Low<=x.High∧x.High<=1000000 then 0 else 6) else
 if KL x.Names≠0 then KL x.Names else if x.Low=0∧x.High=x.Names.length - 1 then 0 else 6
theorem Vg {all:List Attr} (hl:∀ x∈all,QH x) {k:Int} (h0:0<=k) (h1:k<all.length):E2 (AB all k) (all.take k.toNat)=some (LB all k):=by
 have hx:=hl _ (AN h0 h1)
 have hn:=hx.name
 unfold E2 LB
 dsimp only
 rw [Ps (by omega),bs,show (fun y0=>Iz y0 (AB all k))=(fun y0=>some (y0.Name==(AB all k).Name)) from rfl,cI,bs,O2 h0 (by omega),cv hx.each,bs]
 have hl2:=hx.names
 have hw:AI ((AB all k).Names.length - 1)=(AB all k).Names.length - 1:=AW (by omega) (by omega)
 rw [hw]
 have hz:(AB all k).Names.length=0->KL (AB all k).Names=0:=fun h=>by rw [List.eq_nil_of_length_eq_zero h]; rfl
 generalize KL (AB all k).Names=e at hz ⊢
 simp only [bs,zzX,Bool.or_eq_true,zzZ,Bool.not_eq_true',decide_eq_false_iff_not,Bool.not_eq_false',Bool.or_eq_false_iff,Bool.and_eq_false_iff,ne_eq]
 repeat' (first | rfl | (exfalso; omega; done) | split)
 all_goals (first | rfl | (exfalso; omega) | omega | simp_all | (simp_all; omega))
theorem Vj {x:Attr} (hx:QH x):Ib x=some (
 if x.Names.length=0 then (if -1000000<=x.Low∧x.Low<=x.High∧x.High<=1000000 then 0 else 6) else
 if KL x.Names≠0 then KL x.Names else if x.Low=0∧x.High=x.Names.length - 1 then 0 else 6):=by
 have hl2:=hx.names
 have hw:AI (x.Names.length - 1)=x.Names.length - 1:=AW (by omega) (by omega)
 unfold Ib D3
 simp only [bs,hw,dF hx.each]
 generalize KL x.Names=e
 simp only [bs,zzX,Bool.or_eq_true,zzZ,Bool.not_eq_true',decide_eq_false_iff_not,Bool.not_eq_false',Bool.or_eq_false_iff,Bool.and_eq_false_iff,ne_eq]
 repeat' (first | rfl | (exfalso; omega; done) | split)
 all_goals (first | rfl | (exfalso; omega) | omega | simp_all | (simp_all; omega))
def Ix (t:Types) (i:Int):Int:=
 let n:=AB t.Nodes i
 if F6 n.Name=false then 2 else if anyR (fun j=>(AB t.Nodes j).Name==n.Name) 0 i=true then 5 else
 if n.Parent < -1∨i<=n.Parent then 6 else if 4<n.Attrs.length∨8<(AZ t i).length then 3 else
 (fst (fun k=>nz (LB (AZ t i) k)) ((AZ t i).length - n.Attrs.length) (AZ t i).length).getD 0
theorem Rt {t:Types} {i:Int} (h0:0<=i):(AB t.Nodes i).Attrs.length<=(AZ t i).length:=by
 unfold AZ
 rw [show (i+1).toNat=i.toNat+1 by omega,CE,if_neg (by omega),List.length_append]
 omega
theorem FO.next {t:Types} {i:Int} (h:FO t i) (h1:-1<=par t i) (h2:par t i<i):FO t (i+1):=by
 intro j k1 k2
 by_cases hj:j=i
 ·subst hj; exact ⟨h1,h2⟩
 ·exact h j k1 (by omega)
theorem fb {t:Types} (hf:BS t) {i:Int} (h0:0<=i) (h1:i<t.Nodes.length) (hp:FO t i):Il t i=some (Ix t i):=by
 have hn:=hf.name _ (AN h0 h1)
 unfold Il Ix
 dsimp only
 rw [AF h0 h1,bs,Ps (by omega),bs,JY h0 (by omega),bs,show (fun y0=>MH y0 (AB t.Nodes i))=(fun y0=>some (y0.Name==(AB t.Nodes i).Name)) from rfl,VX,bs,O2 h0 (by omega)]
 cases F6 (AB t.Nodes i).Name
 ·rfl
 ·cases anyR (fun j=>(AB t.Nodes j).Name==(AB t.Nodes i).Name) 0 i
  ·by_cases hr:(AB t.Nodes i).Parent < -1∨i<=(AB t.Nodes i).Parent
   ·rcases hr with hr | hr <;> simp [hr]
   ·have hp':FO t (i+1):=hp.next (by unfold par; omega) (by unfold par; omega)
    have hr2:(decide ((AB t.Nodes i).Parent < -1)||decide (i<=(AB t.Nodes i).Parent))=false:=by
     rw [Bool.eq_false_iff]; simpa using hr
    rw [WI hf (k:=i+1) (by omega) hp' h0 (by omega),bs]
    have hlen:=Ld hf (k:=i+1) (a:=i) (by omega) hp' (by omega)
    have hsub:=Rt (t:=t) h0
    have hfew:=Lc hf (k:=i+1) (a:=i) (by omega) hp' (by omega)
    rw [AW (by omega) (by omega),CX (fun k=>nz (LB (AZ t i) k)),GE]
    ·simp only [hr2,hr,Bool.not_true,Bool.false_eq_true,if_false]
     simp only [bs,zzX,Bool.or_eq_true,zzZ,Bool.not_eq_true',decide_eq_false_iff_not,Bool.not_eq_false',Bool.or_eq_false_iff,Bool.and_eq_false_iff,ne_eq]
     repeat' (first | rfl | (exfalso; omega; done) | split)
     all_goals (first | rfl | (exfalso; omega) | omega | simp_all | (simp_all; omega))
    ·intro k k1 k2 _
     rw [AF (by omega) k2,bs,JY (by omega) (by omega),bs,Vg hfew (by omega) k2,bs,On]
  ·rfl
theorem ft {t:Types} (hf:BS t) {i:Int} (h0:0<=i) (h1:i<t.Nodes.length) (hp:FO t i):L3 t i=some (Ix t i):=by
 have hn:=hf.name _ (AN h0 h1)
 have hl:=hf.nodes
 unfold L3 Ix D3
 dsimp only
 rw [AF h0 h1,bs,Pu (by omega),bs,CB (fun j=>(AB t.Nodes j).Name==(AB t.Nodes i).Name) 5]
 ·cases F6 (AB t.Nodes i).Name
  ·rfl
  ·cases anyR (fun j=>(AB t.Nodes j).Name==(AB t.Nodes i).Name) 0 i
   ·simp only [Bool.not_true,Bool.false_eq_true,if_false,C4,bs]
    rw [AW (by omega) (by omega)]
    by_cases hr:(AB t.Nodes i).Parent < -1∨i<=(AB t.Nodes i).Parent
    ·rw [if_pos,if_neg (by decide),if_pos hr]
     simp; omega
    ·have hp':FO t (i+1):=hp.next (by unfold par; omega) (by unfold par; omega)
     rw [if_neg (by simp; omega),if_neg (by decide),if_neg hr]
     rw [WN hf (k:=i+1) (by omega) hp' h0 (by omega),bs]
     have hlen:=Ld hf (k:=i+1) (a:=i) (by omega) hp' (by omega)
     have hsub:=Rt (t:=t) h0
     have hfew:=Lc hf (k:=i+1) (a:=i) (by omega) hp' (by omega)
     rw [AW (by omega) (by omega)]
     rw [CX (fun k=>nz (LB (AZ t i) k)),GE]
     ·simp only [bs,zzX,Bool.or_eq_true,zzZ,Bool.not_eq_true',decide_eq_false_iff_not,Bool.not_eq_false',Bool.or_eq_false_iff,Bool.and_eq_false_iff,ne_eq]
      repeat' (first | rfl | (exfalso; omega; done) | split)
      all_goals (first | rfl | (exfalso; omega) | omega | simp_all | (simp_all; omega))
     ·intro k k1 k2 _
      have hx:=hfew _ (AN (show 0<=k by omega) k2)
      have hxn:=hx.name
      simp only [AF (show 0<=k by omega) k2,bs]
      rw [Pu (by omega),bs,CB (fun j=>(AB (AZ t i) j).Name==(AB (AZ t i) k).Name) 5]
      ·rw [Vj hx]
       simp only [bs,On]
       unfold LB
       dsimp only
       cases F6 (AB (AZ t i) k).Name
       ·rfl
       ·cases anyR (fun j=>(AB (AZ t i) j).Name==(AB (AZ t i) k).Name) 0 k <;> rfl
      ·intro j j1 j2 _
       rw [AF j1 (by omega),bs]
       split <;> rfl
   ·rfl
 ·intro j k1 k2 _
  rw [AF k1 (by omega),bs]
  split <;> rfl
def Lf (low high:Int):Bool:=((decide (0<=low))&&(decide (low<=40)))&&((decide (high=(-1)))||((decide (low<=high))&&(decide (high<=40))))
theorem dA (low high:Int):Js low high=some (Lf low high):=by
 unfold Js Lf D3
 simp only [bs]
 cases (decide (0<=low)&&decide (low<=40)) <;> cases decide (high=-1) <;> rfl
def KX (t:Types) (i:Int):Int:=
 let x:=AB t.Edges i
 if F6 x.Name=false then 2 else if anyR (fun j=>(AB t.Edges j).Name==x.Name) 0 i=true then 5 else
 if (0<=x.From∧x.From<t.Nodes.length)∧(0<=x.To∧x.To<t.Nodes.length)∧Lf x.OutLow x.OutHigh=true∧Lf x.InLow x.InHigh=true then 0 else 6
theorem fW {t:Types} (hf:BS t) {i:Int} (h0:0<=i) (h1:i<t.Edges.length):Ik t i=some (KX t i):=by
 have hn:=hf.ename _ (AN h0 h1)
 unfold Ik KX KV
 dsimp only
 rw [AF h0 h1,bs,Ps (by omega),bs,JY h0 (by omega),bs,show (fun y0=>MG y0 (AB t.Edges i))=(fun y0=>some (y0.Name==(AB t.Edges i).Name)) from rfl,VW,bs,O2 h0 (by omega)]
 simp only [show ∀ a b,Jo a b=some (Lf a b) from fun _ _=>rfl,bs]
 generalize F6 (AB t.Edges i).Name=b1
 generalize anyR (fun j=>(AB t.Edges j).Name==(AB t.Edges i).Name) 0 i=b2
 generalize Lf (AB t.Edges i).OutLow (AB t.Edges i).OutHigh=b3
 generalize Lf (AB t.Edges i).InLow (AB t.Edges i).InHigh=b4
 cases b1
 ·rfl
 ·cases b2
  ·cases b3 <;> cases b4
   all_goals
    by_cases ha:0<=(AB t.Edges i).From∧(AB t.Edges i).From<t.Nodes.length
    ·by_cases hb:0<=(AB t.Edges i).To∧(AB t.Edges i).To<t.Nodes.length
     ·simp [ha,hb]
     ·have:(decide (0<=(AB t.Edges i).To)&&decide ((AB t.Edges i).To<t.Nodes.length))=false:=by rw [Bool.eq_false_iff]; simpa using hb
      simp [ha,hb,this]
    ·have:(decide (0<=(AB t.Edges i).From)&&decide ((AB t.Edges i).From<t.Nodes.length))=false:=by rw [Bool.eq_false_iff]; simpa using ha
     simp [ha,this]
  ·rfl
theorem fk {t:Types} (hf:BS t) {i:Int} (h0:0<=i) (h1:i<t.Edges.length):L0 t i=some (KX t i):=by
 have hn:=hf.ename _ (AN h0 h1)
 have hl:=hf.nodes
 unfold L0 KX D3
 dsimp only
 rw [AF h0 h1,bs,Pu (by omega),bs,CB (fun j=>(AB t.Edges j).Name==(AB t.Edges i).Name) 5]
 ·simp only [AW (show -9223372036854775808<=(t.Nodes.length:Int) - 1 by omega) (by omega),dA,bs]
  generalize F6 (AB t.Edges i).Name=b1
  generalize anyR (fun j=>(AB t.Edges j).Name==(AB t.Edges i).Name) 0 i=b2
  generalize Lf (AB t.Edges i).OutLow (AB t.Edges i).OutHigh=b3
  generalize Lf (AB t.Edges i).InLow (AB t.Edges i).InHigh=b4
  cases b1
  ·rfl
  ·cases b2
   ·cases b3 <;> cases b4
    all_goals
     by_cases ha:0<=(AB t.Edges i).From∧(AB t.Edges i).From<t.Nodes.length
     ·have ha':(AB t.Edges i).From<=(t.Nodes.length:Int) - 1:=by omega
      by_cases hb:0<=(AB t.Edges i).To∧(AB t.Edges i).To<t.Nodes.length
      ·have hb':(AB t.Edges i).To<=(t.Nodes.length:Int) - 1:=by omega
       simp [ha,hb,ha',hb',C4]
      ·have:(decide (0<=(AB t.Edges i).To)&&decide ((AB t.Edges i).To<=(t.Nodes.length:Int) - 1))=false:=by rw [Bool.eq_false_iff]; simp; omega
       simp [ha,hb,ha',this,C4]
     ·have:(decide (0<=(AB t.Edges i).From)&&decide ((AB t.Edges i).From<=(t.Nodes.length:Int) - 1))=false:=by rw [Bool.eq_false_iff]; simp; omega
      simp [ha,this,C4]
   ·rfl
 ·intro j k1 k2 _
  rw [AF k1 (by omega),bs]
  split <;> rfl
def A6 (t:Types):ByteArray × Int:=
 if t.Nodes.length=0 then (⟨#[]⟩,7) else if 12<t.Nodes.length∨20<t.Edges.length then (⟨#[]⟩,3) else
 match fst (fun i=>(nz (Ix t i)).map fun e=>((AB t.Nodes i).Name,e)) 0 t.Nodes.length with
 | some r=>r
 | none=>(fst (fun i=>(nz (KX t i)).map fun e=>((AB t.Edges i).Name,e)) 0 t.Edges.length).getD (⟨#[]⟩,0)
theorem YN {t:Types} {i:Int} (h:Ix t i=0):-1<=par t i∧par t i<i:=by
 unfold Ix at h
 dsimp only at h
 unfold par
 by_cases hr:(AB t.Nodes i).Parent < -1∨i<=(AB t.Nodes i).Parent
 ·rw [if_pos hr] at h
  split at h
  ·cases h
  ·split at h <;> cases h
 ·omega
theorem MV {α β:Type} {o:Option α} {g:α->β}:o.map g=none↔o=none:=by cases o <;> simp
theorem Rb {t:Types} {i:Int} (h:∀ j,0<=j->j<i->Ix t j=0):FO t i:=fun j h1 h2=>YN (h j h1 h2)
theorem Qz {ρ:Type} (e:Int) (n:ByteArray):(if (!decide (e=0))=true then some (B9.ret (n,e)) else some (B9.next ()))=some (OS ((nz e).map fun e=>(n,e))):=by
 unfold nz
 by_cases h:e=0 <;> simp [h,OS]
theorem Q3 {t:Types} (hf:BS t):E7 t=some (A6 t):=by
 unfold E7 A6
 rw [CX (fun i=>(nz (Ix t i)).map fun e=>((AB t.Nodes i).Name,e)),GJ]
 ·rw [CX (fun i=>(nz (KX t i)).map fun e=>((AB t.Edges i).Name,e)),GJ]
  ·cases fst (fun i=>(nz (Ix t i)).map fun e=>((AB t.Nodes i).Name,e)) 0 t.Nodes.length <;> cases fst (fun i=>(nz (KX t i)).map fun e=>((AB t.Edges i).Name,e)) 0 t.Edges.length
   all_goals dsimp only
   all_goals try simp only [Option.getD]
   all_goals
    simp only [bs,zzX,Bool.or_eq_true,zzZ,Bool.not_eq_true',decide_eq_false_iff_not,Bool.not_eq_false',Bool.or_eq_false_iff,Bool.and_eq_false_iff,ne_eq]
    repeat' (first | rfl | (exfalso; omega; done) | split)
    all_goals (first | rfl | (exfalso; omega) | omega | simp_all | (simp_all; omega))
  ·intro i h1 h2 _
   rw [AF h1 h2,bs,fW hf h1 h2,bs]
   exact Qz (ρ:=Unit) _ _
 ·intro i h1 h2 h3
  have hp:FO t i:=Rb fun j k1 k2=>Na.1 (MV.1 (h3 j k1 k2))
  rw [AF h1 h2,bs,fb hf h1 h2 hp,bs]
  exact Qz (ρ:=Unit) _ _
theorem Q6 {t:Types} (hf:BS t):Hw t=some (A6 t):=by
 unfold Hw A6
 rw [CX (fun i=>(nz (Ix t i)).map fun e=>((AB t.Nodes i).Name,e)),GJ]
 ·rw [CX (fun i=>(nz (KX t i)).map fun e=>((AB t.Edges i).Name,e)),GJ]
  ·cases fst (fun i=>(nz (Ix t i)).map fun e=>((AB t.Nodes i).Name,e)) 0 t.Nodes.length <;> cases fst (fun i=>(nz (KX t i)).map fun e=>((AB t.Edges i).Name,e)) 0 t.Edges.length
   all_goals dsimp only
   all_goals try simp only [Option.getD]
   all_goals
    simp only [bs,zzX,Bool.or_eq_true,zzZ,Bool.not_eq_true',decide_eq_false_iff_not,Bool.not_eq_false',Bool.or_eq_false_iff,Bool.and_eq_false_iff,ne_eq]
    repeat' (first | rfl | (exfalso; omega; done) | split)
    all_goals (first | rfl | (exfalso; omega) | omega | simp_all | (simp_all; omega))
  ·intro i h1 h2 _
   simp only [fk hf h1 h2,AF h1 h2,bs]
   exact Qz (ρ:=Unit) _ _
 ·intro i h1 h2 h3
  have hp:FO t i:=Rb fun j k1 k2=>Na.1 (MV.1 (h3 j k1 k2))
  simp only [ft hf h1 h2 hp,AF h1 h2,bs]
  exact Qz (ρ:=Unit) _ _
end Go.Sf.Sc
namespace Go.Sf.Sc
open Go Go.Sf
theorem KJ {α:Type} {c:Bool} {a b:α}:(if c=true then some a else some b)=some (if c=true then a else b):=by cases c <;> rfl
def Ka (n:Int):Bool:=(decide (0<=n))&&(decide (n<=99))
def Pc (e:B6) (n:Int):Bool:=Ka e.Type'&&(decide (0<=e.From)&&decide (e.From<n))&&(decide (0<=e.To)&&decide (e.To<n))
def C1 (g:Graph):Int:=
 if 40<g.Nodes.length∨80<g.Edges.length then 3 else if (g.Nodes.any fun n=>!Ka n)=true then 6 else if (g.Edges.any fun e=>!Pc e g.Nodes.length)=true then 6 else 0
structure Jq (g:Graph):Prop where
 nodes:g.Nodes.length<=40
 edges:g.Edges.length<=80
 kind:∀ n∈g.Nodes,0<=n∧n<=99
 fit:∀ e∈g.Edges,(0<=e.Type'∧e.Type'<=99)∧(0<=e.From∧e.From<g.Nodes.length)∧(0<=e.To∧e.To<g.Nodes.length)
theorem E4 {g:Graph} (h:C1 g=0):Jq g:=by
 unfold C1 at h
 split at h
 ·cases h
 ·split at h
  ·cases h
  ·split at h
   ·cases h
   ·rename_i h1 h2 h3
    refine ⟨by omega,by omega,fun n hn=>?_,fun e he=>?_⟩
    ·rw [Bool.not_eq_true,List.any_eq_false] at h2
     have:=h2 n hn
     simp [Ka] at this
     exact this
    ·rw [Bool.not_eq_true,List.any_eq_false] at h3
     have:=h3 e he
     simp only [Pc,Ka,Bool.not_eq_true',Bool.not_eq_false,zzZ,zzX] at this
     omega
theorem fZ {e:B6} {n:Nat} (h:n<=40):Lr e n=some (Pc e n):=by
 unfold Lr H8 Pc Ka
 simp only [bs,AW (show -9223372036854775808<=(n:Int) - 1 by omega) (by omega)]
 have e1:decide (e.From<=(n:Int) - 1)=decide (e.From<n):=by rw [decide_eq_decide]; omega
 have e2:decide (e.To<=(n:Int) - 1)=decide (e.To<n):=by rw [decide_eq_decide]; omega
 rw [e1,e2]
 generalize (decide (0<=e.Type')&&decide (e.Type'<=99))=b1
 generalize (decide (0<=e.From)&&decide (e.From<n))=b2
 cases b1 <;> cases b2 <;> simp
theorem Nb (g:Graph):DZ g=some (C1 g):=by
 unfold DZ C1
 by_cases h:40<g.Nodes.length∨80<g.Edges.length
 ·rw [if_pos (by simp; omega),if_pos h]
 ·rw [if_neg (by simp; omega),if_neg h,show LC=(fun n=>some (!Ka n)) from rfl,X0,Vu (p:=fun e=>!Pc e g.Nodes.length) (fun e _=>by
   unfold LD
   rw [fZ (by omega)]; rfl)]
  simp only [bs]
  cases g.Nodes.any fun n=>!Ka n
  ·cases g.Edges.any fun e=>!Pc e g.Nodes.length <;> rfl
  ·rfl
theorem Nd (g:Graph):FU g=some (C1 g):=by
 unfold FU C1
 by_cases h:40<g.Nodes.length∨80<g.Edges.length
 ·rw [if_pos (by simp; omega),if_pos h]
 ·rw [if_neg (by simp; omega),if_neg h,Jh,Jh,CB (fun i=>!Ka (AB g.Nodes i)) 6]
  ·rw [CB (fun i=>!Pc (AB g.Edges i) g.Nodes.length) 6]
   ·cases anyR (fun i=>!Ka (AB g.Nodes i)) 0 g.Nodes.length
    ·cases anyR (fun i=>!Pc (AB g.Edges i) g.Nodes.length) 0 g.Edges.length <;> rfl
    ·rfl
   ·intro i h1 h2 _
    rw [AF h1 h2,bs]
    unfold Mr Pc
    simp only [show ∀ n,Ke n=some (Ka n) from fun _=>rfl,bs]
    generalize Ka (AB g.Edges i).Type'=b1
    cases b1 <;> cases decide (0<=(AB g.Edges i).From) <;> cases decide ((AB g.Edges i).From<g.Nodes.length) <;> cases decide (0<=(AB g.Edges i).To) <;> cases decide ((AB g.Edges i).To<g.Nodes.length) <;> rfl
  ·intro i h1 h2 _
   rw [AF h1 h2,bs,show Ke (AB g.Nodes i)=some (Ka (AB g.Nodes i)) from rfl,bs]
   cases Ka (AB g.Nodes i) <;> rfl
def E6 (t:Types) (g:Graph):Bool:=!(g.Nodes.any fun n=>decide (t.Nodes.length<=n))&&!(g.Edges.any fun e=>decide (t.Edges.length<=e.Type'))
theorem Mb {t:Types} {g:Graph} (hg:Jq g) (h:E6 t g=true):(∀ n∈g.Nodes,0<=n∧n<t.Nodes.length)∧∀ e∈g.Edges,0<=e.Type'∧e.Type'<t.Edges.length:=by
 unfold E6 at h
 simp only [zzZ,Bool.not_eq_true',List.any_eq_false,zzX] at h
 refine ⟨fun n hn=>?_,fun e he=>?_⟩
 ·have:=h.1 n hn
  have:=hg.kind n hn
  omega
 ·have:=h.2 e he
  have:=hg.fit e he
  omega
theorem St {t:Types} {g:Graph} (hg:Jq g):It t g=some (E6 t g):=by
 unfold It E6
 rw [Jh,Jh,CB (fun i=>decide (t.Nodes.length<=AB g.Nodes i)) false]
 ·rw [CB (fun i=>decide (t.Edges.length<=(AB g.Edges i).Type')) false]
  ·cases anyR (fun i=>decide (t.Nodes.length<=AB g.Nodes i)) 0 g.Nodes.length
   ·cases anyR (fun i=>decide (t.Edges.length<=(AB g.Edges i).Type')) 0 g.Edges.length <;> rfl
   ·rfl
  ·intro i h1 h2 _
   have:=(hg.fit _ (AN h1 h2)).1.1
   simp only [AF h1 h2,bs]
   rw [if_neg (by simp; omega),bs,KJ]
 ·intro i h1 h2 _
  have:=(hg.kind _ (AN h1 h2)).1
  simp only [AF h1 h2,bs]
  rw [if_neg (by simp; omega),bs,KJ]
structure GT (t:Types):Prop where
 nodes:t.Nodes.length<=12
 edges:t.Edges.length<=20
 node:∀ i:Int,0<=i->i<t.Nodes.length->Ix t i=0
 edge:∀ i:Int,0<=i->i<t.Edges.length->KX t i=0
theorem GG {t:Types} (h:(A6 t).2=0):GT t:=by
 unfold A6 at h
 split at h
 ·cases h
 ·split at h
  ·cases h
  ·rename_i h1 h2
   have hn:∀ i:Int,0<=i->i<t.Nodes.length->Ix t i=0:=by
    split at h
    ·rename_i r hr
     obtain ⟨i,_,_,k3,_⟩:=FE hr
     unfold nz at k3
     split at k3
     ·cases k3
     ·rename_i hne
      cases k3; exact absurd h hne
    ·rename_i hr
     intro i k1 k2
     exact Na.1 (MV.1 (CY.1 hr i k1 k2))
   have he:∀ i:Int,0<=i->i<t.Edges.length->KX t i=0:=by
    split at h
    ·rename_i r hr
     obtain ⟨i,k1,k2,k3,_⟩:=FE hr
     rw [hn i k1 k2] at k3
     cases k3
    ·cases hr:fst (fun i=>(nz (KX t i)).map fun e=>((AB t.Edges i).Name,e)) 0 t.Edges.length with
     | some r=>
      rw [hr] at h
      obtain ⟨i,_,_,k3,_⟩:=FE hr
      unfold nz at k3
      split at k3
      ·cases k3
      ·rename_i hne
       cases k3; exact absurd h hne
     | none=>
      intro i k1 k2
      exact Na.1 (MV.1 (CY.1 hr i k1 k2))
   exact ⟨by omega,by omega,hn,he⟩
theorem GT.par {t:Types} (h:GT t):FO t t.Nodes.length:=Rb h.node
theorem GT.ends {t:Types} (h:GT t) {i:Int} (h0:0<=i) (h1:i<t.Edges.length):(0<=(AB t.Edges i).From∧(AB t.Edges i).From<t.Nodes.length)∧(0<=(AB t.Edges i).To∧(AB t.Edges i).To<t.Nodes.length):=by
 have:=h.edge i h0 h1
 unfold KX at this
 dsimp only at this
 split at this
 ·cases this
 ·split at this
  ·cases this
  ·split at this
   ·rename_i hc; exact ⟨hc.1,hc.2.1⟩
   ·cases this
def IH (t:Types) (a:Int):Bool:=decide (0<=a)&&decide (a<t.Nodes.length)
theorem LQ {t:Types} {a:Int}:IH t a=true↔0<=a∧a<t.Nodes.length:=by unfold IH; simp
theorem Sr {t:Types} (hf:BS t) (l:List Int):FX t l=some (if (A6 t).2≠0 then (A6 t).2 else if (l.all (IH t))=true then 0 else 6):=by
 unfold FX
 rw [Q3 hf,bs,UF (p:=fun a=>!IH t a) (fun a _=>by unfold LG IH; rw [show decide (a<0)=!decide (0<=a) from by rw [←decide_not,decide_eq_decide]; omega,show decide ((t.Nodes.length:Int)<=a)=!decide (a<t.Nodes.length) from by rw [←decide_not,decide_eq_decide]; omega,Bool.not_and]),bs]
 rw [show (l.any fun a=>!IH t a)=!(l.all (IH t)) from by rw [List.all_eq_not_any_not,Bool.not_not]]
 cases l.all (IH t) <;> by_cases h:(A6 t).2=0 <;> simp [h]
theorem WR {t:Types} (hf:BS t) (a b:Int):Jt t a b=some (if (A6 t).2≠0 then (A6 t).2 else if (IH t a&&IH t b)=true then 0 else 6):=by
 have hl:=hf.nodes
 have e:∀ a,decide (a<=(t.Nodes.length:Int) - 1)=decide (a<(t.Nodes.length:Int)):=fun a=>by rw [decide_eq_decide]; omega
 unfold Jt D3
 rw [Q6 hf,bs]
 simp only [AW (show -9223372036854775808<=(t.Nodes.length:Int) - 1 by omega) (by omega),bs,e]
 change (if (!decide ((A6 t).snd=0))=true then some (A6 t).snd else (if (!IH t a)=true then some true else some (!IH t b)).bind fun x32=>if x32=true then some 6 else some 0)=_
 cases IH t a <;> cases IH t b <;> by_cases h:(A6 t).2=0 <;> simp [h]
theorem Yq {α:Type} [Inhabited α] {l:List α} {i:Int} (h0:0<=i) (h1:i<l.length):B8 l i (AB l i)=l:=by
 unfold B8 AB
 rw [List.getD_eq_getElem?_getD,List.getElem?_eq_getElem (by omega)]
 exact List.set_getElem_self _
theorem JF {α:Type} [Inhabited α] {l:List α} {i:Int} (h0:0<=i) (h1:i<l.length):l.take (i+1).toNat=l.take i.toNat++[AB l i]:=by
 unfold AB
 rw [show (i+1).toNat=i.toNat+1 by omega,List.take_add_one,List.getD_eq_getElem?_getD,List.getElem?_eq_getElem (by omega)]
 rfl
theorem F1 {α:Type} {l:List α} (h:l.length<=BC):A3 [] l=some l:=by rw [BI (by simpa using h)]; rfl
def H4 (t:Types) (a:Int):List Attr × Int:=if (A6 t).2≠0 then ([],(A6 t).2) else if IH t a=true then (AZ t a,0) else ([],6)
theorem WH {t:Types} (hf:BS t) (a:Int):G4 t a=some (H4 t a):=by
 unfold G4 H4
 rw [Sr hf,bs]
 by_cases h:(A6 t).2=0
 ·have hok:=GG h
  have e:[a].all (IH t)=IH t a:=by simp
  rw [e]
  simp only [h,ne_eq,not_true_eq_false,if_false]
  cases hi:IH t a
  ·rfl
  ·rw [if_pos rfl,if_pos rfl]
   have hr:=LQ.1 hi
   have hl:=Ld hf (Int.le_refl _) hok.par hr.2
   have hw:=Lc hf (Int.le_refl _) hok.par hr.2
   rw [if_neg (by decide),WI hf (Int.le_refl _) hok.par hr.1 hr.2,bs]
   obtain ⟨s',h1,rfl⟩:=MU (f:=(fun (i0:Int) (s0:List Attr)=>
 (AG s0 i0).bind fun x28=>
 (slices_Clone_string x28.Names).bind fun x31=>
 (AG s0 i0).bind fun x32=>
 some (B8 s0 i0 (Attr.mk x32.Name x32.Low x32.High x31)))) (fun _ s=>s=AZ t a) (a:=0) (b:=(AZ t a).length) (s:=AZ t a) (by omega) rfl (fun i s k1 k2 hs=>by
     subst hs
     have:=(hw _ (AN k1 k2)).names
     refine ⟨AZ t a,?_,rfl⟩
     unfold slices_Clone_string
     rw [AF k1 k2,bs,F1 (by unfold BC; omega),bs,bs]
     congr 1
     exact Yq k1 k2)
   rw [h1]; rfl
 ·simp only [h,ne_eq,not_false_eq_true,if_true,decide_false,Bool.not_false]
theorem Q5 {t:Types} (hf:BS t) (a:Int):Hv t a=some (H4 t a):=by
 unfold Hv H4
 rw [WR hf,bs]
 by_cases h:(A6 t).2=0
 ·have hok:=GG h
  rw [Bool.and_self]
  simp only [h,ne_eq,not_true_eq_false,if_false]
  cases hi:IH t a
  ·rfl
  ·rw [if_pos rfl,if_pos rfl]
   have hr:=LQ.1 hi
   have hl:=Ld hf (Int.le_refl _) hok.par hr.2
   have hw:=Lc hf (Int.le_refl _) hok.par hr.2
   rw [if_neg (by decide),WN hf (Int.le_refl _) hok.par hr.1 hr.2,bs]
   rw [GX (fun i=>(AZ t a).take i.toNat) (by omega) (by simp)]
   ·rw [bs,Int.toNat_natCast,List.take_length]
   ·intro i k1 k2
    have:=(hw _ (AN k1 k2)).names
    rw [AF k1 k2,bs,F1 (by unfold BC; omega),bs,BI (by rw [List.length_take]; simp; unfold BC; omega),JF k1 k2]
    rfl
 ·simp only [h,ne_eq,not_false_eq_true,if_true,decide_false,Bool.not_false]
end Go.Sf.Sc
namespace Go.Sf.Sc
open Go Go.Sf
def M7 (t:Types):Nat->Int->List Int
 | 0,_=>[]
 | n+1,a=>if a<0 then [] else a::M7 t n (par t a)
theorem Wd (t:Types):∀ (n:Nat) (a:Int),(M7 t n a).length<=n
 | 0,_=>by simp [M7]
 | n+1,a=>by
  rw [M7]
  split
  ·simp
  ·have:=Wd t n (par t a); simp; omega
def IX (t:Types) (a b:Int):Bool:=(M7 t (a+1).toNat a).any fun x=>decide (b=x)
theorem V9 {t:Types} (h12:t.Nodes.length<=12) (hp:FO t t.Nodes.length):∀ (n:Nat) (a:Int) (l:List Int),a<t.Nodes.length->a<n->l.length+n<=1000 ->
  ∃ x,La (ρ:=List Int) (fun (s0:Int × List Int)=>
 if (decide (0<=s0.1))=true then
 (A3 s0.2 [s0.1]).bind fun x17=>
 (AG t.Nodes s0.1).bind fun x11=>
 some (.next (x11.Parent,x17))
 else
 some (.brk (s0.1,s0.2))) (a,l) (.inl (x,l++M7 t n a))
 | 0,a,l,h1,h2,_=>by
  refine ⟨a,.brk ?_⟩
  rw [if_neg (by simp; omega)]
  simp [M7]
 | n+1,a,l,h1,h2,h3=>by
  by_cases h0:a<0
  ·refine ⟨a,.brk ?_⟩
   rw [if_neg (by simp; omega)]
   simp [M7,h0]
  ·have hq:=hp a (by omega) h1
   obtain ⟨x,hx⟩:=V9 h12 hp n (par t a) (l++[a]) (by omega) (by omega) (by simp; omega)
   refine ⟨x,.next (s':=(par t a,l++[a])) ?_ ?_⟩
   ·rw [if_pos (by simp; omega),BI (by simp; unfold BC; omega),bs,AF (by omega) h1]; rfl
   ·rw [M7,if_neg h0,show l++a::M7 t n (par t a)=(l++[a])++M7 t n (par t a) by simp]
    exact hx
theorem Zu {t:Types} (h:GT t) {a b:Int} (ha:0<=a) (ha2:a<t.Nodes.length):Iw t a b=some (IX t a b):=by
 have h12:=h.nodes
 obtain ⟨x,hx⟩:=V9 h12 h.par (a+1).toNat a [] ha2 (by omega) (by simp; omega)
 have hl:=Wd t (a+1).toNat a
 unfold Iw Ja
 rw [hx.eq,C4]
 simp only [List.nil_append]
 unfold slices_Reverse_int
 rw [if_pos (by unfold BC; omega)]
 simp only [bs]
 rw [UH,bs]
 unfold IX
 rw [List.any_reverse]
theorem Rf {t:Types} (hp:FO t t.Nodes.length) {b:Int} (hb:0<=b):∀ (n m:Nat) (a:Int),-1<=a->a<t.Nodes.length->a+1<n->a<m->GH n t a b=some ((M7 t m a).any fun x=>decide (b=x))
 | 0,_,_,_,_,_,_=>by omega
 | n+1,m,a,h0,h1,h2,h3=>by
  rw [GH]
  by_cases ha:a<0
  ·rw [if_neg (by simp; omega),if_neg (by simp; omega)]
   cases m <;> simp [M7,ha]
  ·cases m with
   | zero=>omega
   | succ m=>
    have hq:=hp a (by omega) h1
    rw [M7,if_neg ha,List.any_cons,if_pos (show decide (0<=a)=true by simp; omega),AF (by omega) h1]
    simp only [bs]
    rw [show (AB t.Nodes a).Parent=par t a from rfl,Rf hp hb n m (par t a) (by omega) (by omega) (by omega) (by omega)]
    by_cases hab:a=b
    ·simp [hab]
    ·have:¬ b=a:=fun e=>hab e.symm
     simp [hab,this]
theorem Ss {t:Types} (h:GT t) {a b:Int} (ha:0<=a) (ha2:a<t.Nodes.length) (hb:0<=b):HD t a b=some (IX t a b):=
 FL (a+2).toNat fun n hn=>Rf h.par hb n (a+1).toNat a (by omega) ha2 (by omega) (by omega)
def Pd (t:Types) (e f g:Int):Bool:=
 decide ((A6 t).2=0)&&(IH t f&&IH t g)&&(decide (0<=e)&&decide (e<t.Edges.length))&&(IX t f (AB t.Edges e).From&&IX t g (AB t.Edges e).To)
theorem fT {t:Types} (hf:BS t) (e f g:Int):Ij t e f g=some (Pd t e f g):=by
 unfold Ij Pd
 rw [Sr hf,bs,show [f,g].all (IH t)=(IH t f&&IH t g) by simp]
 by_cases h:(A6 t).2=0
 ·simp only [h,ne_eq,not_true_eq_false,if_false]
  have hok:=GG h
  cases hi:(IH t f&&IH t g)
  ·rfl
  ·rw [zzZ,LQ,LQ] at hi
   by_cases he:0<=e∧e<t.Edges.length
   ·rw [if_neg (by simp; omega),AF he.1 he.2]
    simp only [bs,Zu hok hi.1.1 hi.1.2,Zu hok hi.2.1 hi.2.2,he.1,he.2,decide_true,Bool.true_and]
    cases IX t f (AB t.Edges e).From <;> rfl
   ·rw [if_pos (by simp; omega)]
    have:(decide (0<=e)&&decide (e<t.Edges.length))=false:=by rw [Bool.eq_false_iff]; simpa using he
    rw [this]; simp
 ·simp [h]
theorem Ya {t:Types} (hf:BS t) (e f g:Int):Kd t e f g=some (Pd t e f g):=by
 have hl:=hf.edges
 unfold Kd Pd D3
 rw [WR hf,bs]
 by_cases h:(A6 t).2=0
 ·simp only [h,ne_eq,not_true_eq_false,if_false]
  have hok:=GG h
  cases hi:(IH t f&&IH t g)
  ·rfl
  ·rw [zzZ,LQ,LQ] at hi
   rw [AW (by omega) (by omega)]
   simp only [bs]
   by_cases he:0<=e∧e<t.Edges.length
   ·have he2:=hok.ends he.1 he.2
    have he3:e<=(t.Edges.length:Int) - 1:=by omega
    rw [if_neg (by simp),bs,if_neg (by simp [he.1,he3]),AF he.1 he.2]
    simp only [bs,Ss hok hi.1.1 hi.1.2 he2.1.1,Ss hok hi.2.1 hi.2.2 he2.2.1,he.1,he.2,decide_true,Bool.true_and]
    cases IX t f (AB t.Edges e).From <;> rfl
   ·have:(decide (0<=e)&&decide (e<t.Edges.length))=false:=by rw [Bool.eq_false_iff]; simpa using he
    have h2:(decide (0<=e)&&decide (e<=(t.Edges.length:Int) - 1))=false:=by rw [Bool.eq_false_iff]; simp; omega
    rw [this,h2]; simp
 ·simp [h]
def MD (n:Int) (x:Term):Bool:=(((decide ((-1)<=x.Var))&&(decide (x.Var<n)))&&(decide ((-1000000)<=x.Add)))&&(decide (x.Add<=1000000))
def Mw (n:Int) (x:Test):Int:=if ¬ x.Kind=1∧¬ x.Kind=2 then 1 else if (MD n x.Left&&MD n x.Right)=true then 0 else 6
def Ih (n:Int) (l:List Test):Int:=if n<0∨12<n then 6 else if 40<l.length then 3 else (fst (fun i=>nz (Mw n (AB l i))) 0 l.length).getD 0
theorem fe (n:Int) (x:Test):I3 n x=some (Mw n x):=by
 unfold I3 Mw
 simp only [show ∀ n x,IS n x=some (MD n x) from fun _ _=>rfl,bs]
 generalize MD n x.Left=b1
 generalize MD n x.Right=b2
 cases b1 <;> cases b2
 all_goals
  simp only [bs,zzX,Bool.or_eq_true,zzZ,Bool.not_eq_true',decide_eq_false_iff_not,Bool.not_eq_false',Bool.or_eq_false_iff,Bool.and_eq_false_iff,ne_eq]
  repeat' (first | rfl | (exfalso; omega; done) | split)
  all_goals (first | rfl | (exfalso; omega) | omega | simp_all | (simp_all; omega))
theorem Z8 (n:Int) (x:Term):I7 n x=some (if MD n x=true then 0 else 6):=by
 unfold I7 MD
 simp only [bs,zzX,Bool.or_eq_true,zzZ,Bool.not_eq_true',decide_eq_false_iff_not,Bool.not_eq_false',Bool.or_eq_false_iff,Bool.and_eq_false_iff,ne_eq]
 repeat' (first | rfl | (exfalso; omega; done) | split)
 all_goals (first | rfl | (exfalso; omega) | omega | simp_all | (simp_all; omega))
theorem fw (n:Int) (x:Test):M2 n x=some (Mw n x):=by
 unfold M2 Mw
 simp only [Z8,bs]
 generalize MD n x.Left=b1
 generalize MD n x.Right=b2
 cases b1 <;> cases b2
 all_goals
  simp only [bs,zzX,Bool.or_eq_true,zzZ,Bool.not_eq_true',decide_eq_false_iff_not,Bool.not_eq_false',Bool.or_eq_false_iff,Bool.and_eq_false_iff,ne_eq]
  repeat' (first | rfl | (exfalso; omega; done) | split)
  all_goals (first | rfl | (exfalso; omega) | omega | simp_all | (simp_all; omega))
theorem cy (n:Int) (l:List Test):H6 n l=some (Ih n l):=by
 unfold H6 Ih
 rw [CX (fun i=>nz (Mw n (AB l i))),GE]
 ·simp only [bs,zzX,Bool.or_eq_true,zzZ,Bool.not_eq_true',decide_eq_false_iff_not,Bool.not_eq_false',Bool.or_eq_false_iff,Bool.and_eq_false_iff,ne_eq]
  repeat' (first | rfl | (exfalso; omega; done) | split)
  all_goals (first | rfl | (exfalso; omega) | omega | simp_all | (simp_all; omega))
 ·intro i h1 h2 _
  rw [AF h1 h2,bs,fe,bs,On]
theorem dJ (n:Int) (l:List Test):K1 n l=some (Ih n l):=by
 unfold K1 Ih
 rw [CX (fun i=>nz (Mw n (AB l i))),GE]
 ·simp only [bs,zzX,Bool.or_eq_true,zzZ,Bool.not_eq_true',decide_eq_false_iff_not,Bool.not_eq_false',Bool.or_eq_false_iff,Bool.and_eq_false_iff,ne_eq]
  repeat' (first | rfl | (exfalso; omega; done) | split)
  all_goals (first | rfl | (exfalso; omega) | omega | simp_all | (simp_all; omega))
 ·intro i h1 h2 _
  rw [AF h1 h2,bs,fw,bs,On]
def N1 (t:Types) (p:Pattern) (node ix:Int):Attr × Bool:=
 if node<0∨p.Graph.Nodes.length<=node then (default,false) else
 let l:=(H4 t (AB p.Graph.Nodes node)).1
 if ix<0∨l.length<=ix then (default,false) else (AB l ix,true)
theorem NP {t:Types} (hf:BS t) (a:Int):(H4 t a).1.length<=600∧((H4 t a).2≠0->(H4 t a).1=[]):=by
 unfold H4
 split
 ·simp
 ·rename_i h
  have hok:=GG (t:=t) (by omega)
  split
  ·rename_i hi
   exact ⟨Ld hf (Int.le_refl _) hok.par (LQ.1 hi).2,by simp⟩
  ·simp
theorem cq {t:Types} (hf:BS t) {p:Pattern} (hg:Jq p.Graph) (s:CS):FI t p s=some (N1 t p s.Node s.Attr):=by
 have hn:=hg.nodes
 unfold FI N1 C7
 dsimp only
 rw [AW (by omega) (by omega),bs]
 by_cases h:s.Node<0∨p.Graph.Nodes.length<=s.Node
 ·rw [if_pos (by simp; omega),if_pos h]; rfl
 ·rw [if_neg (by simp; omega),if_neg h,AF (by omega) (by omega),bs,WH hf,bs]
  have hl:=(NP hf (AB p.Graph.Nodes s.Node)).1
  rw [AW (by omega) (by omega),bs]
  by_cases h2:s.Attr<0∨(H4 t (AB p.Graph.Nodes s.Node)).1.length<=s.Attr
  ·rw [if_pos (by simp; omega),if_pos h2]; rfl
  ·rw [if_neg (by simp; omega),if_neg h2,AF (by omega) (by omega)]; rfl
theorem c9 {t:Types} (hf:BS t) {p:Pattern} (node ix:Int):MA t p node ix=some (N1 t p node ix):=by
 unfold MA N1
 dsimp only
 by_cases h:node<0∨p.Graph.Nodes.length<=node
 ·rw [if_pos (by simp; omega),if_pos h]; rfl
 ·rw [if_neg (by simp; omega),if_neg h,AF (by omega) (by omega),bs,Q5 hf,bs]
  have hl:=(NP hf (AB p.Graph.Nodes node)).2
  by_cases h2:ix<0∨(H4 t (AB p.Graph.Nodes node)).1.length<=ix
  ·rw [if_pos (by simp; omega),if_pos h2]; rfl
  ·by_cases he:(H4 t (AB p.Graph.Nodes node)).2=0
   ·rw [if_neg (by simp [he]; omega),if_neg h2,AF (by omega) (by omega)]; rfl
   ·rw [hl he] at h2; simp at h2; omega
end Go.Sf.Sc
namespace Go.Sf
variable {σ ρ:Type}
def gW (s:σ) (o:Option ρ):B9 σ ρ:=match o with
 | none=>.next s
 | some r=>.ret r
def bg (s:σ) (o:Option ρ):σ ⊕ ρ:=match o with
 | none=>.inl s
 | some r=>.inr r
theorem UQ {f:Int->σ->Option (B9 σ ρ)} (g:Int->σ) (c:Int->Option ρ):∀ (n:Nat) (a:Int),
  (∀ i,a<=i->i<a+n->(∀ j,a<=j->j<i->c j=none)->f i (g i)=some (gW (g (i+1)) (c i)))->forGo f n a (g a)=some (bg (g (a+n)) (FP c n a))
 | 0,a,_=>by simp [forGo,FP,bg]
 | n+1,a,h=>by
  have h0:=h a (Int.le_refl _) (by omega) (fun j h1 h2=>by omega)
  rw [F5,h0,FP]
  cases hc:c a with
  | some r=>rfl
  | none=>
   simp only [gW]
   rw [show a+((n+1:Nat):Int)=a+1+n by omega]
   refine UQ g c n (a+1) (fun i h1 h2 h3=>h i (by omega) (by omega) (fun j h4 h5=>?_))
   by_cases hj:j=a
   ·subst hj; exact hc
   ·exact h3 j (by omega) h5
theorem Si {f:Int->σ->Option (B9 σ ρ)} (g:Int->σ) (c:Int->Option ρ) {a b:Int} {s:σ} (hab:a<=b) (hs:s=g a) (h:∀ i,a<=i->i<b->(∀ j,a<=j->j<i->c j=none)->f i (g i)=some (gW (g (i+1)) (c i))):forR f a b s=some (bg (g b) (fst c a b)):=by
 subst hs
 unfold forR fst
 have:=UQ g c (b - a).toNat a (fun i h1 h2 h3=>h i h1 (by omega) h3)
 rwa [show a+((b - a).toNat:Int)=b by omega] at this
variable {α:Type}
theorem IP {e:Int} {X:Option Int} {Y:Int} (h:e=0->X=some Y):(if (!decide (e=0))=true then some e else X)=some (if e≠0 then e else Y):=by
 by_cases he:e=0
 ·simp [he,h he]
 ·simp [he]
theorem Lh {e:Int} {v:α} {X:Option α} {Y:α} (h:e=0->X=some Y):(if (!decide (e=0))=true then some v else X)=some (if e≠0 then v else Y):=by
 by_cases he:e=0
 ·simp [he,h he]
 ·simp [he]
theorem Oc {P:Prop} [Decidable P] {b:Bool} {v:α} {X:Option α} {Y:α} (hb:b=true↔P) (h:¬ P->X=some Y):(if b=true then some v else X)=some (if P then v else Y):=by
 by_cases hp:P
 ·rw [if_pos (hb.2 hp),if_pos hp]
 ·rw [if_neg (fun h=>hp (hb.1 h)),if_neg hp,h hp]
theorem Vv {b:Bool} {v:α} {X:Option α} {Y:α} (h:b=true->X=some Y):(if (!b)=true then some v else X)=some (if b=false then v else Y):=by
 cases b
 ·rfl
 ·simpa using h rfl
theorem nt {b:Bool} {v:α} {X:Option α} {Y:α} (h:b=false->X=some Y):(if b=true then some v else X)=some (if b=true then v else Y):=by
 cases b
 ·simpa using h rfl
 ·rfl
end Go.Sf
namespace Go.Sf.Sc
open Go Go.Sf
def O5 (t:Types) (p:Pattern) (s:CS):Bool:=!(N1 t p s.Node s.Attr).2||decide (s.Term.Var < -1)||decide (p.Vars<=s.Term.Var)||(decide (s.Term.Add < -1000000)||decide (1000000<s.Term.Add))
def KM (p:Pattern) (v:Int):Bool:=p.Slots.any fun s=>decide (s.Term.Var=v)
def GK (t:Types) (p:Pattern):Int:=
 if (A6 t).2≠0 then (A6 t).2 else if C1 p.Graph≠0 then C1 p.Graph else if E6 t p.Graph=false then 13 else
 if p.Vars<0∨12<p.Vars then 6 else if 10<p.Slots.length∨10<p.Tests.length then 3 else
 if (p.Slots.any (O5 t p))=true then 6 else if Ih p.Vars p.Tests≠0 then Ih p.Vars p.Tests else
 if anyR (fun v=>!KM p v) 0 p.Vars=true then 9 else 0
def Jb (p:Pattern) (i:Int):List Bool:=(List.range p.Vars.toNat).map fun (v:Nat)=>(p.Slots.take i.toNat).any fun s=>decide (s.Term.Var=(v:Int))
theorem Xe {p:Pattern}:Jb p 0=List.replicate p.Vars.toNat false:=by
 unfold Jb
 refine List.ext_getElem (by simp) (fun n h1 h2=>by simp)
theorem ZB (p:Pattern) (i:Int):(Jb p i).length=p.Vars.toNat:=by simp [Jb]
theorem ZC {p:Pattern} {i:Int} (h0:0<=i) (h1:i<p.Slots.length) (hv:0<=(AB p.Slots i).Term.Var):B8 (Jb p i) (AB p.Slots i).Term.Var true=Jb p (i+1):=by
 unfold B8
 refine List.ext_getElem (by simp [Jb]) (fun n k1 k2=>?_)
 simp only [Jb,List.getElem_set,List.getElem_map,List.getElem_range,JF h0 h1,List.any_append,List.any_cons,List.any_nil,Bool.or_false]
 by_cases hn:(AB p.Slots i).Term.Var.toNat=n
 ·rw [if_pos hn,decide_eq_true (show (AB p.Slots i).Term.Var=(n:Int) by omega),Bool.or_true]
 ·rw [if_neg hn,decide_eq_false (show ¬ (AB p.Slots i).Term.Var=(n:Int) by omega),Bool.or_false]
theorem Xd {p:Pattern} {i:Int} (h0:0<=i) (h1:i<p.Slots.length) (hv:(AB p.Slots i).Term.Var<0):Jb p i=Jb p (i+1):=by
 refine List.ext_getElem (by simp [Jb]) (fun n k1 k2=>?_)
 simp only [Jb,List.getElem_map,List.getElem_range,JF h0 h1,List.any_append,List.any_cons,List.any_nil,Bool.or_false]
 rw [decide_eq_false (show ¬ (AB p.Slots i).Term.Var=(n:Int) by omega),Bool.or_false]
theorem ZA (p:Pattern):((Jb p p.Slots.length).any fun x=>false==x)=anyR (fun v=>!KM p v) 0 p.Vars:=by
 rw [Bool.eq_iff_iff,List.any_eq_true,HP]
 simp only [Jb,Int.toNat_natCast,List.take_length,List.mem_map,List.mem_range]
 constructor
 ·rintro ⟨x,⟨v,hv,rfl⟩,hx⟩
  refine ⟨v,by omega,by omega,?_⟩
  unfold KM
  revert hx
  cases p.Slots.any fun s=>decide (s.Term.Var=(v:Int)) <;> simp
 ·rintro ⟨v,h0,h1,hx⟩
  refine ⟨_,⟨v.toNat,by omega,rfl⟩,?_⟩
  rw [Int.toNat_of_nonneg h0]
  unfold KM at hx
  revert hx
  cases p.Slots.any fun s=>decide (s.Term.Var=v) <;> simp
theorem cb {α ρ:Type} [Inhabited α] {l:List α} {q:α->Bool} {v:ρ}:fst (fun i=>if q (AB l i)=true then some v else none) 0 l.length=if l.any q=true then some v else none:=by
 rw [N8,Jh]
theorem Tv {t:Types} (hf:BS t) (p:Pattern):DT t p=some (GK t p):=by
 unfold DT GK
 rw [Q3 hf,bs,Nb,bs]
 refine IP fun ht=>IP fun hg=>?_
 have hgo:=E4 hg
 have e:((BJ p.Graph.Nodes (fun y0=>HV y0 t)).bind fun x32=>
   (if x32=true then some true else ((BU p.Graph.Edges (fun y0=>HY y0 t)).bind fun x38=>some (x38))))=some (!E6 t p.Graph):=by
  unfold E6
  rw [show (fun y0=>HV y0 t)=(fun (n:Int)=>some (decide (t.Nodes.length<=n))) from rfl,X0,show (fun y0=>HY y0 t)=(fun (e:B6)=>some (decide (t.Edges.length<=e.Type'))) from rfl,cJ]
  simp only [bs]
  cases p.Graph.Nodes.any fun n=>decide (t.Nodes.length<=n) <;> simp
 rw [←Option.bind_assoc,e,bs]
 refine Vv fun htd=>?_
 unfold C7
 simp only [bs]
 refine Oc (by simp; try omega) fun hv=>Oc (by simp; try omega) fun hl=>?_
 unfold J8
 rw [if_pos (by omega),bs,←Xe,AW (show -9223372036854775808<=p.Vars - 1 by omega) (by omega),Si (Jb p) (fun i=>if O5 t p (AB p.Slots i)=true then some 6 else none) (by omega) rfl,cb]
 ·cases hb:p.Slots.any (O5 t p)
  ·simp only [Bool.false_eq_true,if_false,bg,C4,cy,bs,cN,ZA]
   by_cases hte:Ih p.Vars p.Tests=0
   ·simp only [hte]
    cases anyR (fun v=>!KM p v) 0 p.Vars <;> rfl
   ·simp [hte]
  ·rfl
 ·intro i h1 h2 _
  rw [AF h1 h2,bs,cq hf hgo,bs]
  unfold O5
  by_cases hb:(N1 t p (AB p.Slots i).Node (AB p.Slots i).Attr).2=true
  ·by_cases hvar:(AB p.Slots i).Term.Var < -1∨p.Vars<=(AB p.Slots i).Term.Var
   ·have e1:(decide (-1<=(AB p.Slots i).Term.Var)&&decide ((AB p.Slots i).Term.Var<=p.Vars - 1))=false:=by rw [Bool.eq_false_iff]; simp; omega
    have e2:(decide ((AB p.Slots i).Term.Var < -1)||decide (p.Vars<=(AB p.Slots i).Term.Var))=true:=by simp; omega
    rw [hb,e1,Bool.or_assoc (!true),e2]; rfl
   ·have e1:(decide (-1<=(AB p.Slots i).Term.Var)&&decide ((AB p.Slots i).Term.Var<=p.Vars - 1))=true:=by simp; omega
    have e2:(decide ((AB p.Slots i).Term.Var < -1)||decide (p.Vars<=(AB p.Slots i).Term.Var))=false:=by rw [Bool.eq_false_iff]; simp; omega
    rw [hb,e1,Bool.or_assoc (!true),e2]
    by_cases ha:(AB p.Slots i).Term.Add < -1000000∨1000000<(AB p.Slots i).Term.Add
    ·have e3:(decide (-1000000<=(AB p.Slots i).Term.Add)&&decide ((AB p.Slots i).Term.Add<=1000000))=false:=by rw [Bool.eq_false_iff]; simp; omega
     have e4:(decide ((AB p.Slots i).Term.Add < -1000000)||decide (1000000<(AB p.Slots i).Term.Add))=true:=by simp; omega
     rw [e3,e4]; rfl
    ·have e3:(decide (-1000000<=(AB p.Slots i).Term.Add)&&decide ((AB p.Slots i).Term.Add<=1000000))=true:=by simp; omega
     have e4:(decide ((AB p.Slots i).Term.Add < -1000000)||decide (1000000<(AB p.Slots i).Term.Add))=false:=by rw [Bool.eq_false_iff]; simp; omega
     rw [e3,e4]
     by_cases h0:0<=(AB p.Slots i).Term.Var
     ·simp only [Bool.not_true,Bool.false_eq_true,if_false,bs,h0,decide_true,if_true,Bool.or_false]
      rw [AF h0 (by rw [ZB]; omega),bs,ZC h1 h2 h0]; rfl
     ·simp only [Bool.not_true,Bool.false_eq_true,if_false,bs,h0,decide_false,Bool.or_false]
      rw [Xd h1 h2 (by omega)]; rfl
  ·rw [Bool.not_eq_true] at hb
   rw [hb]; rfl
theorem bW (p:Pattern) (v:Int):KS p v=some (KM p v):=by
 unfold KS KM
 rw [CB (fun i=>decide ((AB p.Slots i).Term.Var=v)) true,Jh]
 ·cases anyR (fun i=>decide ((AB p.Slots i).Term.Var=v)) 0 p.Slots.length <;> rfl
 ·intro i h1 h2 _
  rw [AF h1 h2,bs,KJ]
theorem SO {t:Types} (hf:BS t) (p:Pattern):FV t p=some (GK t p):=by
 unfold FV GK
 rw [Q6 hf,bs,Nd,bs]
 refine IP fun ht=>IP fun hg=>?_
 have hgo:=E4 hg
 rw [St hgo,bs]
 refine Vv fun htd=>Oc (by simp; try omega) fun hv=>Oc (by simp; try omega) fun hl=>?_
 rw [CB (fun i=>O5 t p (AB p.Slots i)) 6,←Jh]
 ·cases hb:p.Slots.any (O5 t p)
  ·simp only [Bool.false_eq_true,if_false,C4,dJ,bs]
   by_cases hte:Ih p.Vars p.Tests=0
   ·simp only [hte]
    rw [CB (fun v=>!KM p v) 9]
    ·cases anyR (fun v=>!KM p v) 0 p.Vars <;> rfl
    ·intro i h1 h2 _
     rw [bW,bs,KJ]
   ·simp [hte]
  ·rfl
 ·intro i h1 h2 _
  rw [AF h1 h2,bs,c9 hf,bs]
  unfold O5 LE
  simp only [bs]
  have e:(!(decide (-1000000<=(AB p.Slots i).Term.Add)&&decide ((AB p.Slots i).Term.Add<=1000000)))=(decide ((AB p.Slots i).Term.Add < -1000000)||decide (1000000<(AB p.Slots i).Term.Add)):=by
   rw [Bool.not_and,←decide_not,←decide_not]
   congr 1 <;> rw [decide_eq_decide] <;> omega
  rw [e]
  cases (!(N1 t p (AB p.Slots i).Node (AB p.Slots i).Attr).2||decide ((AB p.Slots i).Term.Var < -1)||decide (p.Vars<=(AB p.Slots i).Term.Var))
  ·simp only [Bool.false_eq_true,if_false,bs,Bool.false_or,KJ]
  ·rfl
end Go.Sf.Sc
namespace Go.Sf
theorem Vi {l:List Int} {R:Int->Int->Prop} (h:l.Pairwise R) {i j:Int} (h0:0<=i) (h1:i<j) (h2:j<l.length):R (AB l i) (AB l j):=by
 have:=(List.pairwise_iff_getElem.1 h) i.toNat j.toNat (by omega) (by omega) (by omega)
 unfold AB
 rw [List.getD_eq_getElem?_getD,List.getD_eq_getElem?_getD,List.getElem?_eq_getElem (by omega),List.getElem?_eq_getElem (by omega)]
 exact this
theorem VV {l:List Int} {R:Int->Int->Prop} (h:∀ i j:Int,0<=i->i<j->j<l.length->R (AB l i) (AB l j)):l.Pairwise R:=by
 refine List.pairwise_iff_getElem.2 (fun i j h1 h2 h3=>?_)
 have:=h i j (by omega) (by omega) (by omega)
 unfold AB at this
 rw [List.getD_eq_getElem?_getD,List.getD_eq_getElem?_getD,Int.toNat_natCast,Int.toNat_natCast,List.getElem?_eq_getElem h1,List.getElem?_eq_getElem h2] at this
 exact this
end Go.Sf
namespace Go.Sf.Sc
open Go Go.Sf
theorem TE {c:Int->Option Int} {a b:Int} (hc:∀ i,c i≠some 0) (h:(fst c a b).getD 0=0):∀ i,a<=i->i<b->c i=none:=by
 have:fst c a b=none:=by
  cases hf:fst c a b with
  | none=>rfl
  | some r=>
   rw [hf] at h
   simp only [Option.getD] at h
   subst h
   obtain ⟨i,_,_,h3,_⟩:=FE hf
   exact (hc i h3).elim
 exact CY.1 this
end Go.Sf.Sc
namespace Go.Sf.Sc
open Go Go.Sf
def Ky (a b:Graph) (m:Morphism) (i:Int):Option Int:=
 if AB m.Nodes i<0∨b.Nodes.length<=AB m.Nodes i then some 6 else if AB b.Nodes (AB m.Nodes i)≠AB a.Nodes i then some 13 else none
def IY (a b:Graph) (m:Morphism) (i:Int):Option Int:=
 if AB m.Edges i<0∨b.Edges.length<=AB m.Edges i then some 6 else
 if (AB a.Edges i).Type'≠(AB b.Edges (AB m.Edges i)).Type' then some 13 else
 if AB m.Nodes (AB a.Edges i).From≠(AB b.Edges (AB m.Edges i)).From∨AB m.Nodes (AB a.Edges i).To≠(AB b.Edges (AB m.Edges i)).To then some 11 else none
def MW (a b:Graph) (m:Morphism):Int:=
 if C1 a≠0 then C1 a else if C1 b≠0 then C1 b else if m.Nodes.length≠a.Nodes.length∨m.Edges.length≠a.Edges.length then 20 else
 match fst (Ky a b m) 0 m.Nodes.length with
 | some e=>e
 | none=>(fst (IY a b m) 0 m.Edges.length).getD 0
structure bF (a b:Graph) (m:Morphism):Prop where
 ga:Jq a
 gb:Jq b
 nlen:m.Nodes.length=a.Nodes.length
 elen:m.Edges.length=a.Edges.length
 node:∀ i:Int,0<=i->i<m.Nodes.length->(0<=AB m.Nodes i∧AB m.Nodes i<b.Nodes.length)∧AB b.Nodes (AB m.Nodes i)=AB a.Nodes i
 edge:∀ i:Int,0<=i->i<m.Edges.length->(0<=AB m.Edges i∧AB m.Edges i<b.Edges.length)∧(AB a.Edges i).Type'=(AB b.Edges (AB m.Edges i)).Type' ∧
  AB m.Nodes (AB a.Edges i).From=(AB b.Edges (AB m.Edges i)).From∧AB m.Nodes (AB a.Edges i).To=(AB b.Edges (AB m.Edges i)).To
theorem bP {a b:Graph} {m:Morphism} (h:MW a b m=0):bF a b m:=by
 unfold MW at h
 split at h
 ·omega
 split at h
 ·omega
 split at h
 ·cases h
 rename_i h1 h2 h3
 have hn:fst (Ky a b m) 0 m.Nodes.length=none:=by
  split at h
  ·rename_i r hr
   obtain ⟨i,_,_,k,_⟩:=FE hr
   subst h
   unfold Ky at k
   split at k
   ·cases k
   ·split at k <;> cases k
  ·assumption
 rw [hn] at h
 have he:=TE (fun i=>by
  unfold IY
  split
  ·simp
  ·split
   ·simp
   ·split <;> simp) h
 refine ⟨E4 (by omega),E4 (by omega),by omega,by omega,fun i i1 i2=>?_,fun i i1 i2=>?_⟩
 ·have:=CY.1 hn i i1 i2
  unfold Ky at this
  split at this
  ·cases this
  ·split at this
   ·cases this
   ·rename_i x y
    exact ⟨by omega,Classical.not_not.1 y⟩
 ·have:=he i i1 i2
  unfold IY at this
  split at this
  ·cases this
  ·split at this
   ·cases this
   ·split at this
    ·cases this
    ·rename_i x y z
     exact ⟨by omega,Classical.not_not.1 y,Classical.not_not.1 (fun h=>z (.inl h)),Classical.not_not.1 (fun h=>z (.inr h))⟩
theorem bQ (a b:Graph) (m:Morphism):EI a b m=some (MW a b m):=by
 unfold EI MW
 rw [Nb,bs,Nb,bs]
 refine IP fun ha=>IP fun hb=>Oc (by simp; try omega) fun hl=>?_
 have ga:=E4 ha
 have gb:=E4 hb
 rw [CX (Ky a b m),GJ]
 ·cases hn:fst (Ky a b m) 0 m.Nodes.length with
  | some e=>rfl
  | none=>
   have hn2:=CY.1 hn
   dsimp only
   rw [CX (IY a b m),GE]
   intro i i1 i2 _
   unfold IY
   rw [AF i1 i2,bs]
   by_cases h1:AB m.Edges i<0∨b.Edges.length<=AB m.Edges i
   ·rw [if_pos (by simpa using h1),if_pos h1]; rfl
   ·have hf:=ga.fit _ (AN (l:=a.Edges) i1 (by omega))
    rw [if_neg (by simpa using h1),if_neg h1,AF i1 (by omega),bs,AF (by omega) (by omega),bs]
    by_cases h2:(AB a.Edges i).Type'=(AB b.Edges (AB m.Edges i)).Type'
    ·rw [if_neg (by simpa using h2),if_neg (by simpa using h2),AF (by omega) (by omega),bs]
     by_cases h3:AB m.Nodes (AB a.Edges i).From=(AB b.Edges (AB m.Edges i)).From
     ·rw [if_neg (by simpa using h3),AF (by omega) (by omega),bs,bs]
      by_cases h4:AB m.Nodes (AB a.Edges i).To=(AB b.Edges (AB m.Edges i)).To
      ·rw [if_neg (by simpa using h4),if_neg (by simp [h3,h4])]; rfl
      ·rw [if_pos (by simpa using h4),if_pos (.inr h4)]; rfl
     ·rw [if_pos (by simpa using h3),bs,if_pos rfl,if_pos (.inl h3)]; rfl
    ·rw [if_pos (by simpa using h2),if_pos h2]; rfl
 ·intro i i1 i2 _
  unfold Ky
  rw [AF i1 i2,bs]
  by_cases h1:AB m.Nodes i<0∨b.Nodes.length<=AB m.Nodes i
  ·rw [if_pos (by simpa using h1),if_pos h1]; rfl
  ·rw [if_neg (by simpa using h1),if_neg h1,AF (by omega) (by omega),bs,AF i1 (by omega),bs]
   by_cases h2:AB b.Nodes (AB m.Nodes i)=AB a.Nodes i
   ·rw [if_neg (by simpa using h2),if_neg (by simpa using h2)]; rfl
   ·rw [if_pos (by simpa using h2),if_pos h2]; rfl
theorem Un {x y:Prop} [Decidable x] [Decidable y]:(if decide x=true then some true else some (decide y))=some (decide (x∨y)):=by
 by_cases hx:x <;> simp [hx]
theorem bU (a b:Graph) (m:Morphism):Jv a b m=some (MW a b m):=by
 unfold Jv MW
 rw [Nd,bs,Nd,bs]
 refine IP fun ha=>IP fun hb=>Oc (by simp; try omega) fun hl=>?_
 have ga:=E4 ha
 have gb:=E4 hb
 rw [show (a.Nodes.length:Int)=m.Nodes.length by omega,show (a.Edges.length:Int)=m.Edges.length by omega,CX (Ky a b m),GJ]
 ·cases hn:fst (Ky a b m) 0 m.Nodes.length with
  | some e=>rfl
  | none=>
   have hn2:=CY.1 hn
   dsimp only
   rw [CX (IY a b m),GE]
   intro i i1 i2 _
   unfold IY
   rw [AF i1 i2]
   simp only [bs,Un]
   by_cases h1:AB m.Edges i<0∨b.Edges.length<=AB m.Edges i
   ·rw [if_pos (by simpa using h1),if_pos h1]; rfl
   ·have hf:=ga.fit _ (AN (l:=a.Edges) i1 (by omega))
    rw [if_neg (by simpa using h1),if_neg h1,AF i1 (by omega),bs,AF (by omega) (by omega),bs]
    by_cases h2:(AB a.Edges i).Type'=(AB b.Edges (AB m.Edges i)).Type'
    ·rw [if_neg (by simpa using h2),if_neg (by simpa using h2),AF (by omega) (by omega),bs]
     by_cases h3:AB m.Nodes (AB a.Edges i).From=(AB b.Edges (AB m.Edges i)).From
     ·rw [if_neg (by simpa using h3),AF (by omega) (by omega),bs,bs]
      by_cases h4:AB m.Nodes (AB a.Edges i).To=(AB b.Edges (AB m.Edges i)).To
      ·rw [if_neg (by simpa using h4),if_neg (by simp [h3,h4])]; rfl
      ·rw [if_pos (by simpa using h4),if_pos (.inr h4)]; rfl
     ·rw [if_pos (by simpa using h3),bs,if_pos rfl,if_pos (.inl h3)]; rfl
    ·rw [if_pos (by simpa using h2),if_pos h2]; rfl
 ·intro i i1 i2 _
  unfold Ky
  rw [AF i1 i2]
  simp only [bs,Un]
  by_cases h1:AB m.Nodes i<0∨b.Nodes.length<=AB m.Nodes i
  ·rw [if_pos (by simpa using h1),if_pos h1]; rfl
  ·rw [if_neg (by simpa using h1),if_neg h1,AF (by omega) (by omega),bs,AF i1 (by omega),bs]
   by_cases h2:AB b.Nodes (AB m.Nodes i)=AB a.Nodes i
   ·rw [if_neg (by simpa using h2),if_neg (by simpa using h2)]; rfl
   ·rw [if_pos (by simpa using h2),if_pos h2]; rfl
def MP (l:List Int):Bool:=!anyR (fun i=>anyR (fun j=>decide (AB l i=AB l j)) 0 i) 0 l.length
theorem MQ {l:List Int}:MP l=true↔l.Nodup:=by
 unfold MP
 rw [Bool.not_eq_true',DH]
 constructor
 ·intro h
  refine VV (fun i j h0 h1 h2=>?_)
  have:=h j (by omega) h2
  rw [DH] at this
  have:=this i h0 h1
  rw [decide_eq_false_iff_not] at this
  exact fun e=>this e.symm
 ·intro h i i1 i2
  rw [DH]
  intro j j1 j2
  rw [decide_eq_false_iff_not]
  exact fun e=>Vi h j1 j2 i2 e.symm
theorem bT (l:List Int):H3 l=some (MP l):=by
 unfold H3 MP
 rw [CB (fun i=>anyR (fun j=>decide (AB l i=AB l j)) 0 i) false]
 ·cases anyR (fun i=>anyR (fun j=>decide (AB l i=AB l j)) 0 i) 0 l.length <;> rfl
 ·intro i i1 i2 _
  rw [CB (fun j=>decide (AB l i=AB l j)) false]
  ·cases anyR (fun j=>decide (AB l i=AB l j)) 0 i <;> rfl
  ·intro j j1 j2 _
   rw [AF i1 i2,bs,AF j1 (by omega),bs,KJ]
theorem Ur {l:List Int} (hl:l.length<=1000):∃ k,HN l=some k∧decide (k=(l.length:Int))=MP l:=by
 have hs:(OC l).length=l.length:=(NT l).length_eq
 refine ⟨((Go.Lib.compact (OC l)).length:Int),?_,?_⟩
 ·unfold HN slices_Clone_int slices_Sort_int slices_Compact_int
  rw [F1 (by unfold BC; omega),bs,if_pos (by unfold BC; omega),bs,if_pos (by rw [hs]; unfold BC; omega),bs]
 ·rw [Bool.eq_iff_iff,MQ,zzX,←(NT l).nodup_iff,←P8 (Nn l),hs]
  omega
def NC (m:Morphism):Bool:=MP m.Nodes&&MP m.Edges
theorem mb {a b:Graph} {m:Morphism} (h:MW a b m=0):DV a b m=some (NC m):=by
 have ho:=bP h
 have:=ho.ga.nodes
 have:=ho.ga.edges
 have:=ho.nlen
 have:=ho.elen
 obtain ⟨k,k1,k2⟩:=Ur (l:=m.Nodes) (by omega)
 obtain ⟨j,j1,j2⟩:=Ur (l:=m.Edges) (by omega)
 unfold DV NC
 rw [bQ,h,bs,if_pos (decide_eq_true rfl),k1]
 simp only [bs,j1,k2,j2]
 cases MP m.Nodes <;> rfl
theorem mf {a b:Graph} {m:Morphism} (h:MW a b m=0):Ic a b m=some (NC m):=by
 unfold Ic NC
 rw [bU,h,bs,if_pos (decide_eq_true rfl),bT]
 simp only [bs,bT]
 cases MP m.Nodes <;> rfl
def RU (t:Types) (g:Graph) (i:Int):Bool:=Pd t (AB g.Edges i).Type' (AB g.Nodes (AB g.Edges i).From) (AB g.Nodes (AB g.Edges i).To)
end Go.Sf.Sc
namespace Go.Sf.Sc
open Go Go.Sf
structure QI (p:Pattern):Prop where
 nodes:p.Graph.Nodes.length<=45
 edges:p.Graph.Edges.length<=90
 slots:p.Slots.length<=15
 tests:p.Tests.length<=15
structure Wk (m:Morphism):Prop where
 nodes:m.Nodes.length<=140
 edges:m.Edges.length<=140
inductive DF:AA->Prop where
 | mk (c:AA) (hq:QI c.Pattern) (hm:Wk c.Map) (hk:∀ k∈c.Kids,DF k):DF c
theorem DF.q {c:AA} (h:DF c):QI c.Pattern:=by cases h; assumption
theorem DF.m {c:AA} (h:DF c):Wk c.Map:=by cases h; assumption
theorem DF.k {c:AA} (h:DF c):∀ k∈c.Kids,DF k:=by cases h; assumption
theorem EG {c k:AA} (h:k∈c.Kids):SizeOf.sizeOf k<SizeOf.sizeOf c:=by
 have:=List.sizeOf_lt_of_mem h
 cases c
 simp only [AA.mk.sizeOf_spec] at *
 omega
theorem DW (c:AA):0<SizeOf.sizeOf c:=by
 cases c
 simp only [AA.mk.sizeOf_spec]
 omega
def NQ (c:AA):Bool:=decide (c.Map.Nodes.length=0∧c.Map.Edges.length=0∧c.Pattern.Graph.Nodes.length=0∧c.Pattern.Graph.Edges.length=0∧c.Pattern.Slots.length=0∧c.Pattern.Tests.length=0∧c.Pattern.Vars=0)
theorem fU {c:AA} (hf:DF c):FJ c=some (NQ c):=by
 have h1:=hf.q
 have h2:=hf.m
 have:=h1.nodes
 have:=h1.edges
 have:=h1.slots
 have:=h1.tests
 have:=h2.nodes
 have:=h2.edges
 unfold FJ NQ
 rw [AW (n:=(c.Map.Nodes.length:Int)+c.Map.Edges.length) (by omega) (by omega),AW (n:=(c.Map.Nodes.length:Int)+c.Map.Edges.length+c.Pattern.Graph.Nodes.length) (by omega) (by omega),
  AW (n:=(c.Map.Nodes.length:Int)+c.Map.Edges.length+c.Pattern.Graph.Nodes.length+c.Pattern.Graph.Edges.length) (by omega) (by omega),
  AW (n:=(c.Map.Nodes.length:Int)+c.Map.Edges.length+c.Pattern.Graph.Nodes.length+c.Pattern.Graph.Edges.length+c.Pattern.Slots.length) (by omega) (by omega),
  AW (n:=(c.Map.Nodes.length:Int)+c.Map.Edges.length+c.Pattern.Graph.Nodes.length+c.Pattern.Graph.Edges.length+c.Pattern.Slots.length+c.Pattern.Tests.length) (by omega) (by omega)]
 congr 1
 rw [Bool.eq_iff_iff]
 simp only [zzZ,zzX]
 omega
theorem Z7 {c:AA} (hf:DF c):H9 c=some (NQ c):=by
 have h1:=hf.q
 have h2:=hf.m
 have:=h1.nodes
 have:=h1.edges
 have:=h1.slots
 have:=h1.tests
 have:=h2.nodes
 have:=h2.edges
 unfold H9 NQ
 rw [AW (n:=(c.Map.Nodes.length:Int)+c.Map.Edges.length) (by omega) (by omega),AW (n:=(c.Map.Nodes.length:Int)+c.Map.Edges.length+c.Pattern.Graph.Nodes.length) (by omega) (by omega),
  AW (n:=(c.Map.Nodes.length:Int)+c.Map.Edges.length+c.Pattern.Graph.Nodes.length+c.Pattern.Graph.Edges.length) (by omega) (by omega),
  AW (n:=(c.Pattern.Slots.length:Int)+c.Pattern.Tests.length) (by omega) (by omega)]
 congr 1
 rw [Bool.eq_iff_iff]
 simp only [zzZ,zzX]
 omega
def N9 (c:AA):Bool:=
 if c.Kind=1 then decide (c.Kids.length=0)&&NQ c else if c.Kind=2 then decide (c.Kids.length=1)&&NQ c else
 if c.Kind=3∨c.Kind=4 then decide (1<=c.Kids.length)&&NQ c else if c.Kind=5 then decide (c.Kids.length=1) else false
def ML:Nat->AA->Bool
 | 0,_=>false
 | n+1,c=>N9 c&&c.Kids.all (ML n)
theorem fg:∀ (N:Nat) (c:AA),SizeOf.sizeOf c<=N->DF c->∀ n,2*N<=n->BM n c=some (ML N c)
 | 0,c,h,_,_,_=>by have:=DW c; omega
 | N+1,c,h,hf,n,hn=>by
  obtain ⟨n,rfl⟩:∃ m,n=m+2:=⟨n - 2,by omega⟩
  rw [BM,ML,fU hf]
  have hk:BZ c.Kids (BR (n+1))=some (!c.Kids.all (ML N)):=by
   rw [UE (p:=fun k=>!ML N k) (fun k hk=>by
    have:=EG hk
    rw [BR,fg N k (by omega) (hf.k k hk) n (by omega)]; rfl),List.all_eq_not_any_not,Bool.not_not]
  rw [hk]
  unfold N9
  simp only [bs,zzX]
  generalize NQ c=b
  generalize c.Kids.all (ML N)=w
  have e0:decide ((c.Kids.length:Int)=0)=decide (c.Kids.length=0):=by rw [decide_eq_decide]; omega
  have e1:decide ((c.Kids.length:Int)=1)=decide (c.Kids.length=1):=by rw [decide_eq_decide]; omega
  have e2:decide (1<=(c.Kids.length:Int))=decide (1<=c.Kids.length):=by rw [decide_eq_decide]; omega
  simp only [show ((c.Kids.length:Int)=0)↔c.Kids.length=0 by omega,show ((c.Kids.length:Int)=1)↔c.Kids.length=1 by omega,show (1<=(c.Kids.length:Int))↔1<=c.Kids.length by omega]
  by_cases k1:c.Kind=1
  ·rw [if_pos k1,if_pos k1]
   by_cases h0:c.Kids.length=0 <;> cases b <;> cases w <;> simp [h0]
  ·rw [if_neg k1,if_neg k1]
   by_cases k2:c.Kind=2
   ·rw [if_pos k2,if_pos k2]
    by_cases h0:c.Kids.length=1 <;> cases b <;> cases w <;> simp [h0]
   ·rw [if_neg k2,if_neg k2]
    by_cases k3:c.Kind=3
    ·simp only [k3,if_true,true_or]
     by_cases h0:1<=c.Kids.length <;> cases b <;> cases w <;> simp [h0]
    ·by_cases k4:c.Kind=4
     ·simp only [k4,if_true,or_true,show ¬ (4:Int)=3 by decide,if_false]
      by_cases h0:1<=c.Kids.length <;> cases b <;> cases w <;> simp [h0]
     ·simp only [k3,k4,if_false,or_false]
      by_cases k5:c.Kind=5
      ·rw [if_pos k5,if_pos k5]
       by_cases h0:c.Kids.length=1 <;> cases w <;> simp [h0]
      ·rw [if_neg k5,if_neg k5]
       cases w <;> rfl
theorem fm {c:AA} (hf:DF c):LA c=some (N9 c):=by
 unfold LA N9
 rw [Z7 hf]
 simp only [bs,zzX]
 generalize NQ c=b
 simp only [show ((c.Kids.length:Int)=0)↔c.Kids.length=0 by omega,show ((c.Kids.length:Int)=1)↔c.Kids.length=1 by omega,show (0<(c.Kids.length:Int))↔1<=c.Kids.length by omega]
 by_cases k1:c.Kind=1
 ·rw [if_pos k1,if_pos k1]
  by_cases h0:c.Kids.length=0 <;> cases b <;> simp [h0]
 ·rw [if_neg k1,if_neg k1]
  by_cases k2:c.Kind=2
  ·rw [if_pos k2,if_pos k2]
   by_cases h0:c.Kids.length=1 <;> cases b <;> simp [h0]
  ·rw [if_neg k2,if_neg k2]
   by_cases k3:c.Kind=3
   ·simp only [k3,if_true,true_or,decide_true,bs]
    by_cases h0:1<=c.Kids.length <;> cases b <;> simp [h0]
   ·by_cases k4:c.Kind=4
    ·simp only [k4,if_true,or_true,show ¬ (4:Int)=3 by decide,if_false,decide_true,bs]
     by_cases h0:1<=c.Kids.length <;> cases b <;> simp [h0]
    ·simp only [k3,k4,if_false,or_false,decide_false,bs,Bool.false_eq_true]
     by_cases k5:c.Kind=5
     ·rw [if_pos k5,if_pos k5]
     ·rw [if_neg k5,if_neg k5]
theorem ed {α:Type} [Inhabited α] {l:List α} {p:α->Bool}:l.all p=!anyR (fun i=>!p (AB l i)) 0 l.length:=by
 rw [List.all_eq_not_any_not,Jh]
theorem bS:∀ (N:Nat) (c:AA),SizeOf.sizeOf c<=N->DF c->∀ n,N<=n->E1 n c=some (ML N c)
 | 0,c,h,_,_,_=>by have:=DW c; omega
 | N+1,c,h,hf,n,hn=>by
  obtain ⟨n,rfl⟩:∃ m,n=m+1:=⟨n - 1,by omega⟩
  rw [E1,ML,fm hf,bs,ed,CB (fun i=>!ML N (AB c.Kids i)) false]
  ·cases N9 c
   ·rfl
   ·cases anyR (fun i=>!ML N (AB c.Kids i)) 0 c.Kids.length <;> rfl
  ·intro i i1 i2 _
   have hm:=AN (l:=c.Kids) i1 i2
   have:=EG hm
   rw [AF i1 i2,bs,bS N _ (by omega) (hf.k _ hm) n (by omega),bs,KJ]
noncomputable def ZG (c:AA):Bool:=ML (SizeOf.sizeOf c) c
theorem md {c:AA} (hf:DF c):F4 c=some (ZG c):=FL (2*SizeOf.sizeOf c) fun n hn=>fg _ c (Nat.le_refl _) hf n hn
theorem mi {c:AA} (hf:DF c):Ma c=some (ZG c):=FL (SizeOf.sizeOf c) fun n hn=>bS _ c (Nat.le_refl _) hf n hn
def JU:Nat->AA->Int × Int
 | 0,_=>(0,0)
 | n+1,c=>
  let s:=c.Kids.foldl (fun s k=>(AI (s.1+(JU n k).1),max s.2 (JU n k).2)) ((1,0):Int × Int)
  (s.1,if c.Kind=5 then AI (s.2+1) else s.2)
theorem TO {α σ:Type} [Inhabited α] {l:List α} {g:σ->α->σ} {s:σ} {f:Int->σ->Option σ} (h:∀ (i:Int) s,0<=i->i<l.length->f i s=some (g s (AB l i))):forA f 0 l.length s=some (l.foldl g s):=by
 rw [GX (fun i=>(l.take i.toNat).foldl g s) (by omega) (by simp)]
 ·rw [Int.toNat_natCast,List.take_length]
 ·intro i i1 i2
  rw [h i _ i1 i2,JF i1 i2,List.foldl_append]; rfl
theorem YS:∀ (N:Nat) (c:AA),SizeOf.sizeOf c<=N->∀ n,N<=n->CP n c=some (JU N c)
 | 0,c,h,_,_=>by have:=DW c; omega
 | N+1,c,h,n,hn=>by
  obtain ⟨n,rfl⟩:∃ m,n=m+1:=⟨n - 1,by omega⟩
  rw [CP,JU,TO (g:=fun s k=>(AI (s.1+(JU N k).1),max s.2 (JU N k).2))]
  ·simp only [bs,zzX]
   by_cases h5:c.Kind=5
   ·rw [if_pos h5,if_pos h5]; rfl
   ·rw [if_neg h5,if_neg h5]; rfl
  ·intro i s i1 i2
   have:=EG (AN (l:=c.Kids) i1 i2)
   rw [AF i1 i2,bs,YS N _ (by omega) n (by omega)]; rfl
theorem Yg:∀ (N:Nat) (c:AA),SizeOf.sizeOf c<=N->∀ n,N<=n->FM n c=some (JU N c)
 | 0,c,h,_,_=>by have:=DW c; omega
 | N+1,c,h,n,hn=>by
  obtain ⟨n,rfl⟩:∃ m,n=m+1:=⟨n - 1,by omega⟩
  rw [FM,JU,TO (g:=fun s k=>(AI (s.1+(JU N k).1),max s.2 (JU N k).2))]
  ·simp only [bs,zzX]
   by_cases h5:c.Kind=5
   ·rw [if_pos h5,if_pos h5]; rfl
   ·rw [if_neg h5,if_neg h5]; rfl
  ·intro i s i1 i2
   have:=EG (AN (l:=c.Kids) i1 i2)
   rw [AF i1 i2,bs,Yg N _ (by omega) n (by omega)]; rfl
noncomputable def Pj (c:AA):Int × Int:=JU (SizeOf.sizeOf c) c
noncomputable def KT (c:AA):Int:=if ZG c=false then 1 else if 12<(Pj c).1∨3<(Pj c).2 then 3 else 0
theorem cw {c:AA} (hf:DF c):EY c=some (KT c):=by
 unfold EY KT
 rw [md hf,bs,show HZ c=some (Pj c) from FL (SizeOf.sizeOf c) fun n hn=>YS _ c (Nat.le_refl _) n hn,bs]
 exact Vv fun _=>Oc (by simp) fun _=>rfl
theorem dH {c:AA} (hf:DF c):K8 c=some (KT c):=by
 unfold K8 KT
 rw [mi hf,bs,show NJ c=some (Pj c) from FL (SizeOf.sizeOf c) fun n hn=>Yg _ c (Nat.le_refl _) n hn,bs]
 exact Vv fun _=>Oc (by simp) fun _=>rfl
theorem R7 (g:Graph):C1 g≠9:=by
 unfold C1
 split
 ·decide
 ·split
  ·decide
  ·split <;> decide
theorem Pt {t:Types} {p:Pattern} (ht:(A6 t).2=0) (h:GK t p=0∨GK t p=9):0<=p.Vars∧p.Vars<=12:=by
 have hg:=R7 p.Graph
 unfold GK at h
 rw [if_neg (by simp [ht])] at h
 split at h
 ·omega
 ·split at h
  ·omega
  ·split at h
   ·omega
   ·omega
def Ko (t:Types) (q:Pattern) (v:Int):Int:=if GK t q≠9 then GK t q else if anyR (fun i=>!KM q i) v q.Vars=true then 9 else 0
theorem ns {α:Type} {P:Prop} [Decidable P] {v:α} {X:Option α} {Y:α} (h:P->X=some Y):(if (!decide P)=true then some v else X)=some (if ¬ P then v else Y):=by
 by_cases hp:P
 ·simp [hp,h hp]
 ·simp [hp]
theorem mc {t:Types} (hf:BS t) (ht:(A6 t).2=0) {q:Pattern} {v:Int} (h0:0<=v) (h1:v<=q.Vars):D2 t q v=some (Ko t q v):=by
 unfold D2 Ko
 rw [Tv hf,bs]
 refine ns fun h9=>?_
 have hv:=Pt ht (.inr h9)
 rw [O0 (c:=fun i=>(if (!KM q i)=true then some () else none).map fun _=>.inr 9) (a:=v) (b:=q.Vars) h1]
 ·rw [Qx,N8]
  cases anyR (fun i=>!KM q i) v q.Vars <;> rfl
 ·intro i i1 i2 _
  rw [if_pos (by simpa using i2),show (fun y0=>IF y0 i)=(fun y=>some (decide (y.Term.Var=i))) from rfl,cK,bs,show (q.Slots.any fun y=>decide (y.Term.Var=i))=KM q i from rfl,h9,AW (by omega) (by omega)]
  cases KM q i <;> rfl
 ·rw [if_neg (by simp)]
theorem dG (p:Pattern) (v:Int):MC p v=some (KM p v):=bW p v
theorem mg {t:Types} (hf:BS t) (q:Pattern) (v:Int):K9 t v q=some (if q.Vars<v then 20 else Ko t q v):=by
 unfold K9 Ko
 refine Oc (by simp) fun _=>?_
 rw [SO hf,bs]
 refine ns fun h9=>?_
 rw [h9,CB (fun i=>!KM q i) 9]
 ·cases anyR (fun i=>!KM q i) v q.Vars <;> rfl
 ·intro i i1 i2 _
  rw [dG,bs,KJ]
def GN:Nat->Types->Pattern->AA->Int
 | 0,_,_,_=>0
 | N+1,t,p,c=>
  if c.Kind=5 then
   if c.Pattern.Vars<p.Vars then 20 else if Ko t c.Pattern p.Vars≠0 then Ko t c.Pattern p.Vars else
   if MW p.Graph c.Pattern.Graph c.Map≠0 then MW p.Graph c.Pattern.Graph c.Map else if NC c.Map=false then 1 else
   (fst (fun i=>nz (GN N t c.Pattern (AB c.Kids i))) 0 c.Kids.length).getD 0
  else (fst (fun i=>nz (GN N t p (AB c.Kids i))) 0 c.Kids.length).getD 0
theorem Ze {t:Types} (ht:(A6 t).2=0) {q:Pattern} {v:Int} (h:Ko t q v=0):0<=q.Vars:=by
 unfold Ko at h
 split at h
 ·exact (Pt ht (.inl h)).1
 ·rename_i h9
  exact (Pt ht (.inr (Classical.not_not.1 h9))).1
theorem YU {t:Types} (hf:BS t) (ht:(A6 t).2=0):∀ (N:Nat) (c:AA) (p:Pattern),0<=p.Vars->SizeOf.sizeOf c<=N->∀ n,N<=n->CC n t p c=some (GN N t p c)
 | 0,c,p,_,h,_,_=>by have:=DW c; omega
 | N+1,c,p,hp,h,n,hn=>by
  obtain ⟨n,rfl⟩:∃ m,n=m+1:=⟨n - 1,by omega⟩
  rw [CC,GN]
  have hkids:∀ q:Pattern,0<=q.Vars->(thenR (forR (ρ:=Int) (fun (i0:Int) (_:Unit)=>
    (AG c.Kids i0).bind fun x55=>
    (CC n t q x55).bind fun x60=>
    if (!decide (x60=0))=true then
    some (.ret x60)
    else
    some (.next ())) 0 (c.Kids.length:Int) ()) (fun _=>
    some 0) (fun v0=>some v0))=some ((fst (fun i=>nz (GN N t q (AB c.Kids i))) 0 c.Kids.length).getD 0):=by
   intro q hq
   rw [CX (fun i=>nz (GN N t q (AB c.Kids i))),GE]
   intro i i1 i2 _
   have:=EG (AN (l:=c.Kids) i1 i2)
   rw [AF i1 i2,bs,YU hf ht N _ q hq (by omega) n (by omega),bs,On]
  by_cases h5:c.Kind=5
  ·rw [if_pos (by simpa using h5),if_pos h5]
   refine Oc (by simp) fun hv=>?_
   rw [mc hf ht hp (by omega),bs]
   refine IP fun hi=>?_
   rw [bQ,bs]
   refine IP fun hm=>?_
   rw [mb hm,bs]
   exact Vv fun _=>hkids _ (Ze ht hi)
  ·rw [if_neg (by simpa using h5),if_neg h5]
   exact hkids p hp
theorem Yh {t:Types} (hf:BS t):∀ (N:Nat) (c:AA) (p:Pattern),SizeOf.sizeOf c<=N->∀ n,N<=n->FW n t p c=some (GN N t p c)
 | 0,c,p,h,_,_=>by have:=DW c; omega
 | N+1,c,p,h,n,hn=>by
  obtain ⟨n,rfl⟩:∃ m,n=m+1:=⟨n - 1,by omega⟩
  rw [FW,GN]
  have hkids:∀ q:Pattern,(thenR (forR (ρ:=Int) (fun (i0:Int) (_:Unit)=>
    (AG c.Kids i0).bind fun x55=>
    (FW n t q x55).bind fun x60=>
    if (!decide (x60=0))=true then
    some (.ret x60)
    else
    some (.next ())) 0 (c.Kids.length:Int) ()) (fun _=>
    some 0) (fun v0=>some v0))=some ((fst (fun i=>nz (GN N t q (AB c.Kids i))) 0 c.Kids.length).getD 0):=by
   intro q
   rw [CX (fun i=>nz (GN N t q (AB c.Kids i))),GE]
   intro i i1 i2 _
   have:=EG (AN (l:=c.Kids) i1 i2)
   rw [AF i1 i2,bs,Yh hf N _ q (by omega) n (by omega),bs,On]
  by_cases h5:c.Kind=5
  ·rw [if_pos (by simpa using h5),if_pos h5,mg hf,bs]
   by_cases hv:c.Pattern.Vars<p.Vars
   ·simp [hv]
   ·simp only [if_neg hv]
    refine IP fun hi=>?_
    rw [bU,bs]
    refine IP fun hm=>?_
    rw [mf hm,bs]
    exact Vv fun _=>hkids _
  ·rw [if_neg (by simpa using h5),if_neg h5]
   exact hkids p
noncomputable def HK (t:Types) (p:Pattern) (c:AA):Int:=if GK t p≠0 then GK t p else if KT c≠0 then KT c else GN (SizeOf.sizeOf c) t p c
theorem fV {t:Types} (hf:BS t) (ht:(A6 t).2=0) (p:Pattern) {c:AA} (hc:DF c):DU t p c=some (HK t p c):=by
 unfold DU HK
 rw [Tv hf,bs]
 refine IP fun h=>?_
 rw [cw hc,bs,Option.bind_fun_some]
 exact IP fun _=>FL (SizeOf.sizeOf c) fun n hn=>YU hf ht _ c p (Pt ht (.inl h)).1 (Nat.le_refl _) n hn
theorem Yd {t:Types} (hf:BS t) (p:Pattern) {c:AA} (hc:DF c):Jz t p c=some (HK t p c):=by
 unfold Jz HK
 rw [SO hf,bs]
 refine IP fun h=>?_
 rw [dH hc,bs,Option.bind_fun_some]
 exact IP fun _=>FL (SizeOf.sizeOf c) fun n hn=>Yh hf _ c p (Nat.le_refl _) n hn
end Go.Sf.Sc
namespace Go.Sf.Sc
open Go Go.Sf
def leafB (t:Types) (l:List Int):Bool:=!(l.any fun k=>t.Nodes.any fun n=>decide (n.Parent=k))
end Go.Sf.Sc
namespace Go.Sf
theorem Q8 {ρ:Type} {f:Int->Option (B9 Int ρ)} (p:Int->Bool) (v:ρ) {a b:Int} (hab:a<=b) (h:∀ i,a<=i->i<b->f i=some (if p i=true then .ret v else .next (i+1))) (hb:f b=some (.brk b)):FC f a=some (if anyR p a b=true then .inr v else .inl b):=by
 rw [O0 (c:=fun i=>(if p i=true then some () else none).map fun _=>.inr v) hab]
 ·rw [Qx,N8]
  cases anyR p a b <;> rfl
 ·intro i h1 h2 _
  rw [h i h1 h2]
  cases p i <;> rfl
 ·exact hb
theorem NZ {α:Type} {e:α->TV} {n:Nat} {l:List α} (h:TV.Sm (.list n (l.map e))):(l.length:Int)<=140737488351232∧∀ x∈l,(e x).Sm:=by
 simp only [TV.Sm,List.length_map] at h
 refine ⟨by have:=h.1; unfold reachBytes at this; omega,fun x hx=>Ow.1 h.2 _ (List.mem_map.2 ⟨x,hx,rfl⟩)⟩
end Go.Sf
namespace Go.Sf.Sc
open Go Go.Sf
def UC (a:Attr):Bool:=(decide (40<(a.Name.size:Int))||decide (25<(a.Names.length:Int)))||anyR (fun i=>decide (40<((AB a.Names i).size:Int))) 0 a.Names.length
theorem ZU {a:Attr} (h:UC a=false):QH a:=by
 unfold UC at h
 simp only [Bool.or_eq_false_iff,decide_eq_false_iff_not,DH] at h
 refine ⟨by omega,by omega,fun x hx=>?_⟩
 obtain ⟨i,i1,i2,rfl⟩:=DX hx
 have:=h.2 i i1 i2
 omega
theorem YA {t:Types} (hs:(AU t).Sm):∃ b,M3 t=some b∧(b=true->BS t):=by
 have hs':TV.Sms [_,_]:=hs
 obtain ⟨hn,hn2⟩:=NZ (e:=Ht) hs'.1
 unfold M3
 by_cases hl:20<t.Nodes.length∨30<t.Edges.length
 ·rw [if_pos (by simp; omega)]
  exact ⟨false,rfl,fun h=>by cases h⟩
 rw [if_neg (by simp; omega)]
 rcases UR (f:=(fun (i0:Int) (s0:Int)=>
 (AG t.Nodes i0).bind fun x30=>
 (if (decide (30<(AI (s0+(x30.Attrs.length:Int)))))=true then some true else ((AG t.Nodes i0).bind fun x41=>
 some (decide (40<(x41.Name.size:Int))))).bind fun x46=>
 if x46=true then
 some (B9.ret false)
 else
 thenR (FC (ρ:=Bool) (fun (s2:Int)=>
 (AG t.Nodes i0).bind fun x51=>
 if (decide (s2<(x51.Attrs.length:Int)))=true then
 (AG t.Nodes i0).bind fun x61=>
 (AG x61.Attrs s2).bind fun x65=>
 if ((decide (40<(x65.Name.size:Int)))||(decide (25<(x65.Names.length:Int))))=true then
 some (.ret false)
 else
 thenR (FC (ρ:=Bool) (fun (s4:Int)=>
 if (decide (s4<(x65.Names.length:Int)))=true then
 (AG x65.Names s4).bind fun x87=>
 if (decide (40<(x87.size:Int)))=true then
 some (.ret false)
 else
 some (.next (AI (s4+1)))
 else
 some (.brk s4)) 0) (fun s4=>
 some (.next (AI (s2+1)))) (fun v4=>some (.ret v4))
 else
 some (.brk s2)) 0) (fun s2=>
 some (.next (AI (s0+(x30.Attrs.length:Int))))) (fun v2=>some (.ret v2))))
  (fun i s=>0<=s∧s<=30∧∀ j,0<=j->j<i->((AB t.Nodes j).Name.size:Int)<=40∧(AB t.Nodes j).Attrs.length<=30∧∀ a∈(AB t.Nodes j).Attrs,QH a) (fun _=>False) (fun r=>r=false) (a:=0) (b:=t.Nodes.length) (s:=0) (by omega) ⟨by omega,by omega,fun j h1 h2=>by omega⟩ (fun i s i1 i2 hI=>by
   have hx:=hn2 _ (AN (l:=t.Nodes) i1 i2)
   have hx':TV.Sms [_,_,_,_]:=hx
   obtain ⟨ha,ha2⟩:=NZ (e:=IT) hx'.2.2.2.1
   obtain ⟨hI1,hI2,hI3⟩:=hI
   have hw:AI (s+(AB t.Nodes i).Attrs.length)=s+(AB t.Nodes i).Attrs.length:=AW (by omega) (by omega)
   simp only [AF i1 i2,bs,hw,Un]
   by_cases hc:30<s+(AB t.Nodes i).Attrs.length∨40<((AB t.Nodes i).Name.size:Int)
   ·rw [if_pos (by simpa using hc)]
    exact .inr (.inr ⟨_,rfl,rfl⟩)
   rw [if_neg (by simpa using hc)]
   rw [Q8 (fun j=>UC (AB (AB t.Nodes i).Attrs j)) false (b:=(AB t.Nodes i).Attrs.length) (by omega)]
   ·cases hb:anyR (fun j=>UC (AB (AB t.Nodes i).Attrs j)) 0 (AB t.Nodes i).Attrs.length
    ·refine .inl ⟨_,rfl,by omega,by omega,fun j j1 j2=>?_⟩
     by_cases hj:j=i
     ·subst hj
      refine ⟨by omega,by omega,fun a ha=>?_⟩
      obtain ⟨k,k1,k2,rfl⟩:=DX ha
      exact ZU (DH.1 hb k k1 k2)
     ·exact hI3 j j1 (by omega)
    ·exact .inr (.inr ⟨_,rfl,rfl⟩)
   ·intro j j1 j2
    rw [if_pos (by simpa using j2),AF j1 j2,bs]
    have hy:=ha2 _ (AN (l:=(AB t.Nodes i).Attrs) j1 j2)
    have hy':TV.Sms [_,_,_,_]:=hy
    obtain ⟨hm,_⟩:=NZ (e:=eS) hy'.2.2.2.1
    unfold UC
    cases h1:(decide (40<((AB (AB t.Nodes i).Attrs j).Name.size:Int))||decide (25<((AB (AB t.Nodes i).Attrs j).Names.length:Int)))
    ·rw [if_neg (by decide),Q8 (fun k=>decide (40<((AB (AB (AB t.Nodes i).Attrs j).Names k).size:Int))) false (b:=(AB (AB t.Nodes i).Attrs j).Names.length) (by omega)]
     ·cases anyR (fun k=>decide (40<((AB (AB (AB t.Nodes i).Attrs j).Names k).size:Int))) 0 (AB (AB t.Nodes i).Attrs j).Names.length
      ·rw [Bool.or_false,AW (show -9223372036854775808<=j+1 by omega) (by omega)]; rfl
      ·rfl
     ·intro k k1 k2
      rw [if_pos (by simpa using k2),AF k1 k2,bs,AW (show -9223372036854775808<=k+1 by omega) (by omega),KJ]
     ·rw [if_neg (by simp)]
    ·rfl
   ·rw [if_neg (by simp)]) with ⟨s',h1,h2⟩ | ⟨r,h1,h2⟩
 ·rw [h1]
  rcases h2 with h2 | h2
  ·rw [C4,CB (fun i=>decide (40<((AB t.Edges i).Name.size:Int))) false]
   ·cases hb:anyR (fun i=>decide (40<((AB t.Edges i).Name.size:Int))) 0 t.Edges.length
    ·refine ⟨true,rfl,fun _=>⟨by omega,by omega,fun n hn=>?_,fun n hn=>?_,fun n hn=>?_,fun e he=>?_⟩⟩
     ·obtain ⟨k,k1,k2,rfl⟩:=DX hn
      exact (h2.2.2 k k1 k2).1
     ·obtain ⟨k,k1,k2,rfl⟩:=DX hn
      exact (h2.2.2 k k1 k2).2.1
     ·obtain ⟨k,k1,k2,rfl⟩:=DX hn
      exact (h2.2.2 k k1 k2).2.2
     ·obtain ⟨k,k1,k2,rfl⟩:=DX he
      have:=DH.1 hb k k1 k2
      simpa using this
    ·exact ⟨false,rfl,fun h=>by cases h⟩
   ·intro i i1 i2 _
    rw [AF i1 i2,bs,KJ]
  ·exact h2.elim
 ·rw [h1]
  subst h2
  exact ⟨false,rfl,fun h=>by cases h⟩
theorem V1 (p:Pattern):∃ b,LV p=some b∧(b=true->QI p):=by
 refine ⟨_,rfl,fun h=>?_⟩
 simp only [zzZ,zzX] at h
 exact ⟨by omega,by omega,by omega,by omega⟩
theorem cY {a b:Int} (ha:0<=a) (ha2:a<=140737488351232) (hb:0<=b) (hb2:b<=140737488351232):AI (a+b)=a+b:=AW (by omega) (by omega)
theorem cX {m:Morphism} (hs:(BN m).Sm):∃ b,OK m 140=some b∧(b=true->Wk m):=by
 have hs':TV.Sms [_,_]:=hs
 have h1:=(NZ (e:=eI) hs'.1).1
 have h2:=(NZ (e:=eI) hs'.2.1).1
 refine ⟨_,rfl,fun h=>?_⟩
 rw [cY (by omega) h1 (by omega) h2] at h
 simp only [zzX] at h
 exact ⟨by omega,by omega⟩
theorem cM {c:AA} (h:(AJ c).Sm):(BN c.Map).Sm∧(c.Kids.length:Int)<=140737488351232∧∀ k∈c.Kids,(AJ k).Sm:=by
 have h':TV.Sms [_,_,_,_,_,_,_,_,_]:=h
 obtain ⟨_,h2,h3,h4,_⟩:=h'
 rw [Ll] at h2
 obtain ⟨k1,k2⟩:=NZ h2
 exact ⟨⟨h3,h4,trivial⟩,k1,k2⟩
end Go.Sf.Sc
