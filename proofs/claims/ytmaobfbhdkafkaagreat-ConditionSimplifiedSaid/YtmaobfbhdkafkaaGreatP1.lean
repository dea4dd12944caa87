/- Plain lemmas: what the functions of the program and of the reference compute. -/
import Derived.Test.YtmaobfbhdkafkaaGreatSfRead
import Derived.Test.YtmaobfbhdkafkaaGreatFns
import Derived.Test.YtmaobfbhdkafkaaGreatSfPl
set_option maxRecDepth 100000
namespace Go.Sf
theorem T1 {ρ τ:Type} {d:Int->Option ρ} {g:ρ->τ}:∀ (n:Nat) (a:Int),F2 (fun i=>(d i).map g) n a=(F2 d n a).map g
 | 0,_=>rfl
 | n+1,a=>by
  rw [F2,F2]
  cases d a with
  | some r=>rfl
  | none=>exact T1 n (a+1)
theorem Rf {ρ τ:Type} {d:Int->Option ρ} {g:ρ->τ} {a b:Int}:fst (fun i=>(d i).map g) a b=(fst d a b).map g:=T1 _ _
theorem Ss {ρ:Type} {d:Int->Option ρ} {r:ρ}:∀ {n:Nat} {a:Int},F2 d n a=some r->∃ i,a<=i∧i<a+n∧d i=some r∧∀ j,a<=j->j<i->d j=none
 | 0,_,h=>by cases h
 | n+1,a,h=>by
  rw [F2] at h
  cases hd:d a with
  | some r'=>
   rw [hd] at h
   exact ⟨a,Int.le_refl _,by omega,by rw [hd]; exact h,fun j h1 h2=>by omega⟩
  | none=>
   rw [hd] at h
   obtain ⟨i,h1,h2,h3,h4⟩:=Ss h
   refine ⟨i,by omega,by omega,h3,fun j k1 k2=>?_⟩
   by_cases hj:j=a
   ·subst hj; exact hd
   ·exact h4 j (by omega) k2
theorem FR {ρ:Type} {d:Int->Option ρ} {r:ρ} {a b:Int} (h:fst d a b=some r):∃ i,a<=i∧i<b∧d i=some r∧∀ j,a<=j->j<i->d j=none:=by
 obtain ⟨i,h1,h2,h3,h4⟩:=Ss h
 exact ⟨i,h1,by omega,h3,h4⟩
def LK (p:Int->Bool) (s:ByteArray):Int:=(fst (fun i=>if p (bt s i) then none else some i) 0 s.size).getD s.size
theorem RR (p:Int->Bool) (s:ByteArray):0<=LK p s∧LK p s<=s.size∧(∀ j,0<=j->j<LK p s->p (bt s j)=true)∧(LK p s<s.size->p (bt s (LK p s))=false):=by
 unfold LK
 cases h:fst (fun i=>if p (bt s i) then none else some i) 0 s.size with
 | none=>
  rw [C1] at h
  simp only [Option.getD]
  refine ⟨by omega,by omega,fun j h1 h2=>?_,fun h1=>by omega⟩
  have:=h j h1 h2
  cases hp:p (bt s j)
  ·simp [hp] at this
  ·rfl
 | some r=>
  obtain ⟨i,h1,h2,h3,h4⟩:=FR h
  have hi:p (bt s i)=false∧i=r:=by
   cases hp:p (bt s i) <;> simp [hp] at h3
   exact ⟨rfl,h3⟩
  obtain ⟨hi,rfl⟩:=hi
  simp only [Option.getD]
  refine ⟨h1,by omega,fun j k1 k2=>?_,fun _=>hi⟩
  have:=h4 j k1 k2
  cases hp:p (bt s j)
  ·simp [hp] at this
  ·rfl
theorem V8 {s:ByteArray} (h:s≠⟨#[]⟩):0<s.size:=by
 rcases Nat.eq_zero_or_pos s.size with h0 | h0
 ·exfalso; apply h
  cases s with | mk d=>congr 1; exact Array.eq_empty_of_size_eq_zero h0
 ·exact h0
end Go.Sf
namespace Go.Sf.Sc
open Go Go.Sf
def GQ (c:Int):Bool:=((decide (97<=c))&&(decide (c<=122)))||((decide (65<=c))&&(decide (c<=90)))
def digitB (c:Int):Bool:=(decide (48<=c))&&(decide (c<=57))
def PT (c:Int):Bool:=GQ c||digitB c||decide (c=95)
theorem Vo (c:Int):Ky c=some (GQ c):=rfl
theorem Tc (c:Int):KV c=some (digitB c):=rfl
theorem Vt (c:Int):Kv c=some (GQ c):=rfl
theorem XT (c:Int):JA c=some (digitB c):=rfl
theorem iR (c:Int):Mk c=some (PT c):=by
 unfold Mk PT
 rw [Vo,bs,Tc]
 cases GQ c <;> cases digitB c <;> rfl
theorem YH {s:ByteArray} (hs:(s.size:Int)<=4611686018427387904) {ok:Int->Option Bool} {p:Int->Bool} (h:∀ c,ok c=some (p c)):ID s ok=some (LK p s):=by
 unfold ID
 rw [P0 (c:=fun i=>(if p (bt s i) then none else some i).map .inl) (a:=0) (b:=s.size) (by omega)]
 ·rw [Rf]
  unfold LK
  cases fst (fun i=>if p (bt s i)=true then none else some i) 0 s.size <;> rfl
 ·intro i h1 h2 _
  simp only [h2,decide_true,if_true,OG h1 h2,bs,h]
  cases p (bt s i)
  ·simp [cnt]
  ·simp [cnt,AW (show -9223372036854775808<=i+1 by omega) (by omega)]
 ·simp
def GI (s:ByteArray):Bool:=decide (0<s.size)&&GQ (bt s 0)&&decide (s.size<=20)&&decide (LK PT s=s.size)
theorem Tb (l:List ByteArray) (v:ByteArray):∃ k,G2 l v=some k∧(0<=k↔v∈l):=by
 unfold G2
 rw [C0 (fun i=>if (v==AB l i)=true then some i else none)]
 ·cases h:fst (fun i=>if (v==AB l i)=true then some i else none) 0 l.length with
  | none=>
   rw [C1] at h
   refine ⟨-1,rfl,by omega,fun hm=>?_⟩
   obtain ⟨i,h1,h2,h3⟩:=E3 hm
   have:=h i h1 h2
   rw [h3,if_pos (beq_self_eq_true v)] at this
   cases this
  | some k=>
   obtain ⟨i,h1,h2,h3,_⟩:=FR h
   have h4:(v==AB l i)=true∧i=k:=by
    by_cases hv:(v==AB l i)=true
    ·rw [if_pos hv] at h3; exact ⟨hv,by simpa using h3⟩
    ·rw [if_neg hv] at h3; cases h3
   obtain ⟨h4,rfl⟩:=h4
   refine ⟨i,rfl,fun _=>?_,fun _=>h1⟩
   rw [eq_of_beq h4]; exact AN h1 h2
 ·intro i h1 h2 _
  simp only [AF h1 h2,bs]
  split <;> rfl
theorem Nq (l:List ByteArray) (v:ByteArray):D9 l v=some (l.contains v):=by
 unfold D9
 obtain ⟨k,h1,h2⟩:=Tb l v
 rw [h1,bs]
 congr 1
 rw [Bool.eq_iff_iff,zzX,h2,List.contains_iff_mem]
theorem iP {s:ByteArray} (h0:0<s.size) (hs:(s.size:Int)<=4611686018427387904):∃ k n e,I3 s=some (k,n,e)∧(((decide (e=0))&&(decide (k=1)))&&(decide (n=(s.size:Int))))=GI s:=by
 have hr:=RR PT s
 unfold I3 GI
 simp only [OG (Int.le_refl 0) (show (0:Int)<s.size by omega),bs,Vo,Tc,YH hs iR,YH hs Tc,h0,decide_true,Bool.true_and]
 by_cases hl:GQ (bt s 0)=true
 ·rw [if_pos hl]
  by_cases h20:20<LK PT s
  ·refine ⟨0,0,3,by simp [h20],?_⟩
   simp [hl]
   intro h1 h2
   omega
  ·refine ⟨1,_,0,by rw [if_neg (by simpa using h20)],?_⟩
   simp only [hl,decide_true,Bool.true_and]
   rw [Bool.eq_iff_iff]
   simp only [zzX,zzZ]
   omega
 ·rw [if_neg hl]
  have hl':GQ (bt s 0)=false:=by simpa using hl
  rw [hl',Bool.false_and,Bool.false_and]
  by_cases hd:digitB (bt s 0)=true
  ·rw [if_pos hd]
   by_cases h9:9<LK digitB s
   ·exact ⟨0,0,3,by simp [h9],by simp⟩
   ·exact ⟨2,_,0,by rw [if_neg (by simpa using h9)],by simp⟩
  ·rw [if_neg hd]
   by_cases hq:bt s 0=34
   ·have hsz:=Uc (s:=s) (a:=1) (b:=s.size) (by omega) (by omega) (by omega)
    have hq2:∀ c,LC c=some (((decide (32<=c))&&(decide (c<=126)))&&(!decide (c=34))):=fun _=>rfl
    have hr2:=RR (fun c=>((decide (32<=c))&&(decide (c<=126)))&&(!decide (c=34))) (s.extract (1:Int).toNat (s.size:Int).toNat)
    have hqq:∃ n e,HZ s=some (n,e):=by
     unfold HZ
     rw [I2 (by omega) (by omega) (by omega),bs,YH (by omega) hq2,bs]
     rw [AW (by omega) (by omega)]
     by_cases he:1+LK (fun c=>((decide (32<=c))&&(decide (c<=126)))&&(!decide (c=34))) (s.extract (1:Int).toNat (s.size:Int).toNat)=s.size
     ·refine ⟨0,2,?_⟩
      simp only [he,decide_true,if_true,bs]
     ·simp only [he,decide_false,Bool.false_eq_true,if_false]
      rw [OG (by omega) (by omega)]
      simp only [bs]
      split
      ·exact ⟨_,_,rfl⟩
      ·split
       ·exact ⟨_,_,rfl⟩
       ·exact ⟨_,_,rfl⟩
    obtain ⟨n,e,hne⟩:=hqq
    refine ⟨3,n,e,by rw [if_pos (by simpa using hq),hne]; rfl,by simp⟩
   ·rw [if_neg (by simpa using hq)]
    have hp:∃ b,Mj s=some b:=by
     unfold Mj
     by_cases h2:2<=(s.size:Int)
     ·rw [if_pos (by simpa using h2),I2 (by omega) (by omega) h2]
      simp only [bs,Nq]
      exact ⟨_,rfl⟩
     ·rw [if_neg (by simpa using h2)]
      exact ⟨_,rfl⟩
    obtain ⟨b,hb⟩:=hp
    rw [hb,bs]
    cases b
    ·simp only [Bool.false_eq_true,if_false,strings_IndexByte,bs]
     split
     ·exact ⟨_,_,_,rfl,rfl⟩
     ·exact ⟨_,_,_,rfl,rfl⟩
    ·exact ⟨_,_,_,rfl,rfl⟩
theorem QW {s:ByteArray} (hs:(s.size:Int)<=4611686018427387904):ES s=some (GI s):=by
 unfold ES JE
 simp only [show decide ((1:Int)=3)=false from rfl,Bool.false_eq_true,if_false,bs]
 by_cases he:s=⟨#[]⟩
 ·subst he; rfl
 ·rw [if_neg (by simpa using he)]
  obtain ⟨k,n,e,h1,h2⟩:=iP (V8 he) hs
  rw [h1]
  simp only [bs]
  rw [h2]
theorem ii {s:ByteArray} (hs:(s.size:Int)<=4611686018427387904) (digits:Bool):∃ n,NV s 0 digits=some n∧0<=n∧n<=s.size∧(digits=false->n=LK PT s):=by
 have hr:=RR (fun c=>digitB c||(!digits&&(GQ c||decide (c=95)))) s
 refine ⟨LK (fun c=>digitB c||(!digits&&(GQ c||decide (c=95)))) s,?_,hr.1,hr.2.1,fun hd=>?_⟩
 ·unfold NV
  rw [P0 (c:=fun i=>(if (digitB (bt s i)||(!digits&&(GQ (bt s i)||decide (bt s i=95)))) then none else some i).map .inl) (a:=0) (b:=s.size) (by omega)]
  ·rw [Rf]
   unfold LK
   cases fst (fun i=>if (digitB (bt s i)||(!digits&&(GQ (bt s i)||decide (bt s i=95))))=true then none else some i) 0 s.size <;> rfl
  ·intro i h1 h2 _
   have hw:AJ (0+i)=i:=by rw [AW (by omega) (by omega)]; omega
   simp only [hw,h2,decide_true,if_true,OG h1 h2,bs,XT,Vt]
   cases digitB (bt s i) <;> cases digits <;> cases GQ (bt s i) <;> cases (decide (bt s i=95)) <;> simp [cnt,AW (show -9223372036854775808<=i+1 by omega) (by omega)]
  ·have hw:AJ (0+(s.size:Int))=s.size:=by rw [AW (by omega) (by omega)]; omega
   simp only [hw,Int.lt_irrefl,decide_false,Bool.false_eq_true,if_false,bs]
 ·subst hd
  congr 1
  funext c
  unfold PT
  cases GQ c <;> cases digitB c <;> cases decide (c=95) <;> rfl
theorem bc {s:ByteArray} (h0:0<s.size) (hs:(s.size:Int)<=4611686018427387904):∃ n,Kw s 0=some n∧(n=0∨(2<=n∧n<=s.size)):=by
 unfold Kw
 rw [P0 (c:=fun i=>if decide (bt s i=34)=true then some (Sum.inr (i+1):Int ⊕ Int) else if (decide (bt s i<32)||decide (126<bt s i))=true then some (Sum.inr 0) else none) (a:=1) (b:=s.size) (by omega)]
 ·cases h:fst (fun i=>if decide (bt s i=34)=true then some (Sum.inr (i+1):Int ⊕ Int) else if (decide (bt s i<32)||decide (126<bt s i))=true then some (Sum.inr 0) else none) 1 s.size with
  | none=>exact ⟨0,rfl,.inl rfl⟩
  | some r=>
   obtain ⟨i,h1,h2,h3,_⟩:=FR h
   split at h3
   ·cases h3; exact ⟨_,rfl,.inr (by omega)⟩
   ·split at h3
    ·cases h3; exact ⟨_,rfl,.inl rfl⟩
    ·cases h3
 ·intro i h1 h2 _
  have hw:AJ (0+i)=i:=by rw [AW (by omega) (by omega)]; omega
  simp only [hw,h2,decide_true,if_true,OG (show 0<=i by omega) h2,bs,AW (show -9223372036854775808<=i+1 by omega) (by omega)]
  split
  ·rfl
  ·split <;> rfl
 ·have hw:AJ (0+(s.size:Int))=s.size:=by rw [AW (by omega) (by omega)]; omega
  simp only [hw,Int.lt_irrefl,decide_false,Bool.false_eq_true,if_false]
theorem oh {s:ByteArray} (h0:0<s.size) (hs:(s.size:Int)<=4611686018427387904):∃ t n e,NU s 0=some (t,n,e)∧(((decide (e=0))&&(decide (n=(s.size:Int))))&&(decide (t.Kind=1)))=GI s:=by
 obtain ⟨m,hm1,hm2,hm3,hm4⟩:=ii hs (digitB (bt s 0))
 unfold NU GI
 simp only [OG (Int.le_refl 0) (show (0:Int)<s.size by omega),bs,Vt,XT,h0,decide_true,Bool.true_and,hm1]
 have hw:AJ (0+m)=m:=by rw [AW (by omega) (by omega)]; omega
 by_cases hl:GQ (bt s 0)=true
 ·have hd:digitB (bt s 0)=false:=by
   unfold GQ at hl; unfold digitB
   simp only [Bool.or_eq_true,zzZ,zzX] at hl
   rw [Bool.and_eq_false_iff]
   simp only [decide_eq_false_iff_not]
   omega
  have hm:=hm4 hd
  subst hm
  simp only [hl,if_true,hd,Bool.false_eq_true,if_false,bs,hw]
  by_cases h20:20<LK PT s
  ·refine ⟨_,_,_,by rw [if_pos (by simpa using h20)],?_⟩
   rw [Bool.eq_iff_iff]
   simp only [zzX,zzZ]
   omega
  ·rw [if_neg (by simpa using h20),I2 (Int.le_refl _) hm2 hm3]
   refine ⟨_,_,_,rfl,?_⟩
   rw [Bool.eq_iff_iff]
   simp only [zzX,zzZ,true_and,and_true]
   omega
 ·have hl':GQ (bt s 0)=false:=by simpa using hl
  simp only [hl',Bool.false_eq_true,if_false,bs,Bool.false_and,hw]
  by_cases hd:digitB (bt s 0)=true
  ·simp only [hd,if_true,bs]
   by_cases h9:9<m
   ·exact ⟨_,_,_,by rw [if_pos (by simpa using h9)],by simp⟩
   ·rw [if_neg (by simpa using h9),I2 (Int.le_refl _) hm2 hm3]
    exact ⟨_,_,_,rfl,by simp⟩
  ·have hd':digitB (bt s 0)=false:=by simpa using hd
   simp only [hd',Bool.false_eq_true,if_false,bs]
   by_cases hq:bt s 0=34
   ·obtain ⟨n,hn,hn2⟩:=bc h0 hs
    rw [if_pos (by simpa using hq),hn,bs]
    rcases hn2 with rfl | hn2
    ·exact ⟨_,_,_,rfl,by simp⟩
    ·rw [if_neg (by simp; omega)]
     split
     ·exact ⟨_,_,_,rfl,by simp⟩
     ·have e1:AJ (0+1)=1:=by decide
      have e2:AJ (0+n)=n:=by rw [AW (by omega) (by omega)]; omega
      rw [e1,e2,AW (show -9223372036854775808<=n - 1 by omega) (by omega),I2 (by omega) (by omega) (by omega)]
      exact ⟨_,_,_,rfl,by simp⟩
   ·rw [if_neg (by simpa using hq)]
    unfold NK
    rw [bs]
    generalize hL:([(⟨#[45,62]⟩:ByteArray),(⟨#[60,61]⟩:ByteArray),(⟨#[62,61]⟩:ByteArray),(⟨#[61,61]⟩:ByteArray),(⟨#[33,61]⟩:ByteArray),(⟨#[123]⟩:ByteArray),(⟨#[125]⟩:ByteArray),(⟨#[40]⟩:ByteArray),(⟨#[41]⟩:ByteArray),(⟨#[91]⟩:ByteArray),(⟨#[93]⟩:ByteArray),(⟨#[44]⟩:ByteArray),(⟨#[59]⟩:ByteArray),(⟨#[58]⟩:ByteArray),(⟨#[61]⟩:ByteArray),(⟨#[43]⟩:ByteArray),(⟨#[45]⟩:ByteArray),(⟨#[42]⟩:ByteArray),(⟨#[60]⟩:ByteArray),(⟨#[62]⟩:ByteArray),(⟨#[33]⟩:ByteArray),(⟨#[38]⟩:ByteArray),(⟨#[124]⟩:ByteArray),(⟨#[46]⟩:ByteArray),(⟨#[63]⟩:ByteArray)]:List ByteArray)=L
    have hsz:∀ x∈L,x.size<=2:=by subst hL; decide
    rcases VM (f:=(fun (i0:Int) (s0:FK)=>
      (AH L i0).bind fun x75=>
      (if (decide ((AJ (0+(x75.size:Int)))<=(s.size:Int)))=true then ((AH L i0).bind fun x88=>
      (sslc s 0 (AJ (0+(x88.size:Int)))).bind fun x92=>
      (AH L i0).bind fun x95=>
      some (x92==x95)) else some false).bind fun x98=>
      if x98=true then
      (AH L i0).bind fun x101=>
      (AH L i0).bind fun x106=>
      some (B9.ret (FK.mk 4 x101 0,(x106.size:Int),(0:Int)))
      else
      some (B9.next s0))) (fun _ s=>True) (fun _=>True) (fun r=>r.1.Kind=4) (a:=0) (b:=L.length) (s:=FK.mk 0 (⟨#[]⟩:ByteArray) 0) (by omega) trivial (fun i t h1 h2 _=>by
      have hx:=hsz _ (AN h1 h2)
      have hw2:AJ (0+((AB L i).size:Int))=(AB L i).size:=by rw [AW (by omega) (by omega)]; omega
      simp only [AF h1 h2,bs,hw2]
      by_cases hc:((AB L i).size:Int)<=s.size
      ·rw [if_pos (by simpa using hc),I2 (by omega) (by omega) hc]
       simp only [bs]
       split
       ·exact .inr (.inr ⟨_,rfl,rfl⟩)
       ·exact .inl ⟨_,rfl,trivial⟩
      ·rw [if_neg (by simpa using hc)]
       simp only [bs]
       exact .inl ⟨_,rfl,trivial⟩) with ⟨s',h1,_⟩ | ⟨r,h1,h2⟩
    ·rw [h1]; exact ⟨_,_,_,rfl,by simp⟩
    ·rw [h1]; exact ⟨_,_,_,rfl,by simp [h2]⟩
theorem QY {s:ByteArray} (hs:(s.size:Int)<=4611686018427387904):HO s=some (GI s):=by
 unfold HO NJ N3
 simp only [show decide ((1:Int)=3)=false from rfl,Bool.false_eq_true,if_false,bs]
 by_cases he:s=⟨#[]⟩
 ·subst he; rfl
 ·rw [if_neg (by simpa using he)]
  obtain ⟨t,n,e,h1,h2⟩:=oh (V8 he) hs
  rw [h1]
  simp only [bs]
  rw [h2]
end Go.Sf.Sc
namespace Go.Sf
variable {ρ β:Type}
def nz (e:Int):Option Int:=if e=0 then none else some e
theorem Pr (e:Int):(if (!decide (e=0))=true then some (B9.ret e) else some (B9.next ()))=some (Pc (nz e)):=by
 unfold nz
 by_cases h:e=0 <;> simp [h,Pc]
theorem gh (b:Bool) (r:ρ):(if b=true then some (B9.ret r) else some (B9.next ()))=some (Pc (if b=true then some r else none)):=by
 cases b <;> rfl
theorem C9 {σ:Type} {s:σ} {k:σ->Option β} {kr:ρ->Option β}:thenR (some (.inl s)) k kr=k s:=rfl
theorem UU {σ:Type} {r:ρ} {k:σ->Option β} {kr:ρ->Option β}:thenR (some (.inr r)) k kr=kr r:=rfl
theorem GW (o:Option ρ) (k:Unit->Option β) (kr:ρ->Option β):thenR (some (cu o)) k kr=match o with | none=>k () | some r=>kr r:=by
 cases o <;> rfl
theorem GP (o:Option Int):thenR (some (cu o)) (fun _=>some 0) (fun v=>some v)=some (o.getD 0):=by
 cases o <;> rfl
theorem St {c:Int->Int} {a b:Int} (h:(fst (fun i=>nz (c i)) a b).getD 0=0):∀ i,a<=i->i<b->c i=0:=by
 have:fst (fun i=>nz (c i)) a b=none:=by
  cases hf:fst (fun i=>nz (c i)) a b with
  | none=>rfl
  | some r=>
   rw [hf] at h
   simp only [Option.getD] at h
   subst h
   obtain ⟨i,_,_,h3,_⟩:=FR hf
   unfold nz at h3
   split at h3
   ·cases h3
   ·rename_i hn; simp at h3; exact (hn h3).elim
 rw [C1] at this
 intro i h1 h2
 have:=this i h1 h2
 unfold nz at this
 split at this
 ·assumption
 ·cases this
theorem OC {e:Int}:nz e=none↔e=0:=by
 unfold nz
 by_cases h:e=0 <;> simp [h]
theorem VU {α:Type} [Inhabited α] {l:List α} {f:α->Option Bool} {p:α->Bool} (h:∀ x∈l,f x=some (p x)) :
  (thenR (forR (ρ:=Int) (fun (i0:Int) (_:Unit)=>(AH l i0).bind fun x14=>(f x14).bind fun x16=>if x16=true then some (.ret i0) else some (.next ())) 0 (l.length:Int) ()) (fun _=>some (-1)) (fun v0=>some v0)) =
   some ((fst (fun i=>if p (AB l i)=true then some i else none) 0 l.length).getD (-1)):=by
 rw [C0 (fun i=>if p (AB l i)=true then some i else none)]
 ·rw [GW]; cases fst (fun i=>if p (AB l i)=true then some i else none) 0 l.length <;> rfl
 ·intro i h1 h2 _
  rw [AF h1 h2,bs,h _ (AN h1 h2),bs,gh]
theorem T7 {α:Type} [Inhabited α] {l:List α} {p:α->Bool}:decide (0<=(fst (fun i=>if p (AB l i)=true then some i else none) 0 l.length).getD (-1))=l.any p:=by
 rw [J6,anyR]
 cases h:fst (fun i=>if p (AB l i)=true then some i else none) 0 l.length with
 | none=>
  rw [C1] at h
  symm
  show Option.isSome _=false
  rw [Option.isSome_eq_false_iff,Option.isNone_iff_eq_none,C1]
  intro i h1 h2
  have:=h i h1 h2
  by_cases hp:p (AB l i)=true
  ·rw [if_pos hp] at this; cases this
  ·rw [if_neg hp]
 | some k=>
  obtain ⟨i,h1,h2,h3,_⟩:=FR h
  have h4:p (AB l i)=true∧i=k:=by
   by_cases hv:p (AB l i)=true
   ·rw [if_pos hv] at h3; exact ⟨hv,by simpa using h3⟩
   ·rw [if_neg hv] at h3; cases h3
  simp only [Option.getD]
  rw [decide_eq_true (show (0:Int)<=k by omega)]
  symm
  show Option.isSome _=true
  rw [Option.isSome_iff_ne_none,ne_eq,C1]
  intro hn
  have:=hn i h1 h2
  rw [if_pos h4.1] at this
  cases this
theorem F5 {α:Type} [Inhabited α] {l:List α} {f:α->Option Bool} {p:α->Bool} (h:∀ x∈l,f x=some (p x)) :
  ((thenR (forR (ρ:=Int) (fun (i0:Int) (_:Unit)=>(AH l i0).bind fun x14=>(f x14).bind fun x16=>if x16=true then some (.ret i0) else some (.next ())) 0 (l.length:Int) ()) (fun _=>some (-1)) (fun v0=>some v0)).bind fun x7=>some (decide (0<=x7)))=some (l.any p):=by
 rw [VU h,bs,T7]
end Go.Sf
namespace Go.Sf.Sc
open Go Go.Sf
instance:Inhabited Attr:=⟨⟨⟨#[]⟩,0,0,[]⟩⟩
instance:Inhabited BI:=⟨⟨⟨#[]⟩,0,false,[]⟩⟩
instance:Inhabited CO:=⟨⟨⟨#[]⟩,0,0,0,0,0,0⟩⟩
instance:Inhabited BX:=⟨⟨0,0,0⟩⟩
instance:Inhabited B4:=⟨⟨0,0,⟨0,0⟩⟩⟩
instance:Inhabited Test:=⟨⟨0,⟨0,0⟩,⟨0,0⟩⟩⟩
instance:Inhabited AA:=⟨⟨0,[],⟨[],[]⟩,⟨⟨[],[]⟩,[],0,[]⟩⟩⟩
theorem U4 {l:List Int} {f:Int->Option Bool} {p:Int->Bool} (h:∀ x∈l,f x=some (p x)):BM l f=some (l.any p):=F5 h
theorem Wq {l:List BX} {f:BX->Option Bool} {p:BX->Bool} (h:∀ x∈l,f x=some (p x)):BV l f=some (l.any p):=F5 h
theorem Q4 {l:List AA} {f:AA->Option Bool} {p:AA->Bool} (h:∀ x∈l,f x=some (p x)):BC l f=some (l.any p):=F5 h
theorem WT {l:List BI} {p:BI->Bool}:CQ l (fun x=>some (p x))=some (l.any p):=F5 (fun _ _=>rfl)
theorem WS {l:List CO} {p:CO->Bool}:CP l (fun x=>some (p x))=some (l.any p):=F5 (fun _ _=>rfl)
theorem du {l:List Attr} {p:Attr->Bool}:DF l (fun x=>some (p x))=some (l.any p):=F5 (fun _ _=>rfl)
theorem Y4 {l:List Int} {p:Int->Bool}:BM l (fun x=>some (p x))=some (l.any p):=F5 (fun _ _=>rfl)
theorem dw {l:List BX} {p:BX->Bool}:BV l (fun x=>some (p x))=some (l.any p):=F5 (fun _ _=>rfl)
theorem dx {l:List B4} {p:B4->Bool}:DG l (fun x=>some (p x))=some (l.any p):=F5 (fun _ _=>rfl)
theorem g0 (l:List Int) (v:Int):IW l v=some ((fst (fun i=>if decide (v=AB l i)=true then some i else none) 0 l.length).getD (-1)):=by
 have:=VU (l:=l) (f:=fun x=>some (decide (v=x))) (p:=fun x=>decide (v=x)) (fun _ _=>rfl)
 unfold IW
 simpa only [bs] using this
theorem U7 (l:List Int) (v:Int):DI l v=some (l.any fun x=>decide (v=x)):=by
 unfold DI
 rw [g0,bs,T7 (p:=fun x=>decide (v=x))]
theorem eA (l:List Bool) (v:Bool):GN l v=some (l.any fun x=>v==x):=by
 have:=F5 (l:=l) (f:=fun x=>some (v==x)) (p:=fun x=>v==x) (fun _ _=>rfl)
 unfold GN JO
 simpa only [bs] using this
structure Qt (a:Attr):Prop where
 name:(a.Name.size:Int)<=40
 names:a.Names.length<=25
 each:∀ x∈a.Names,(x.size:Int)<=40
structure BW (t:Types):Prop where
 nodes:t.Nodes.length<=20
 edges:t.Edges.length<=30
 name:∀ n∈t.Nodes,(n.Name.size:Int)<=40
 attrs:∀ n∈t.Nodes,n.Attrs.length<=30
 each:∀ n∈t.Nodes,∀ a∈n.Attrs,Qt a
 ename:∀ e∈t.Edges,(e.Name.size:Int)<=40
def par (t:Types) (i:Int):Int:=(AB t.Nodes i).Parent
def F1 (t:Types) (k:Int):Prop:=∀ i,0<=i->i<k->-1<=par t i∧par t i<i
def CH (t:Types):Nat->Int->List Attr
 | 0,_=>[]
 | n+1,a=>if a<0 then [] else CH t n (par t a)++(AB t.Nodes a).Attrs
def AZ (t:Types) (a:Int):List Attr:=CH t (a+1).toNat a
theorem Ij {t:Types} {n:Nat} {a:Int} (h:a<0):CH t n a=[]:=by
 cases n with
 | zero=>rfl
 | succ n=>rw [CH,if_pos h]
theorem Lx {t:Types} {k:Int} (hp:F1 t k):∀ (n m:Nat) (a:Int),a<k->a<n->a<m->CH t n a=CH t m a
 | n,m,a,hk,hn,hm=>by
  by_cases h0:a<0
  ·rw [Ij h0,Ij h0]
  ·cases n with
   | zero=>omega
   | succ n=>
    cases m with
    | zero=>omega
    | succ m=>
     rw [CH,CH,if_neg h0,if_neg h0]
     have:=hp a (by omega) hk
     rw [Lx hp n m (par t a) (by omega) (by omega) (by omega)]
theorem MC {t:Types} (hf:BW t) {k:Int} (hk:k<=t.Nodes.length) (hp:F1 t k):∀ (n:Nat) (a:Int),a<k->((CH t n a).length:Int)<=30*n
 | 0,_,_=>by simp [CH]
 | n+1,a,ha=>by
  rw [CH]
  split
  ·simp; omega
  ·rename_i h0
   have h1:=hp a (by omega) ha
   have h2:=MC hf hk hp n (par t a) (by omega)
   have h3:=hf.attrs _ (AN (l:=t.Nodes) (show 0<=a by omega) (by omega))
   rw [List.length_append]
   omega
theorem SY {t:Types} (hf:BW t) {k:Int} (hk:k<=t.Nodes.length) (hp:F1 t k):∀ (n:Nat) (a:Int),a<k->∀ x∈CH t n a,Qt x
 | 0,_,_=>by simp [CH]
 | n+1,a,ha=>by
  rw [CH]
  split
  ·simp
  ·rename_i h0
   have h1:=hp a (by omega) ha
   intro x hx
   rcases List.mem_append.1 hx with hx | hx
   ·exact SY hf hk hp n (par t a) (by omega) x hx
   ·exact hf.each _ (AN (l:=t.Nodes) (show 0<=a by omega) (by omega)) x hx
theorem ME {t:Types} (hf:BW t) {k a:Int} (hk:k<=t.Nodes.length) (hp:F1 t k) (ha:a<k):(AZ t a).length<=600:=by
 have:=MC hf hk hp (a+1).toNat a ha
 have:=hf.nodes
 unfold AZ
 omega
theorem MD {t:Types} (hf:BW t) {k a:Int} (hk:k<=t.Nodes.length) (hp:F1 t k) (ha:a<k):∀ x∈AZ t a,Qt x:=SY hf hk hp _ a ha
theorem Vk {t:Types} (hf:BW t) {k:Int} (hk:k<=t.Nodes.length) (hp:F1 t k):∀ (n:Nat) (a:Int),0<=a->a<k->a<n->DY n t a=some (CH t n a)
 | 0,_,_,_,_=>by omega
 | n+1,a,h0,ha,hn=>by
  have h1:=hp a (by omega) ha
  have h2:=MC hf hk hp n (par t a) (by omega)
  have h3:=hf.attrs _ (AN (l:=t.Nodes) h0 (by omega))
  have h4:=hf.nodes
  rw [DY,CH,if_neg (by omega),AF h0 (by omega)]
  simp only [bs]
  show ((if decide (0<=par t a)=true then (DY n t (par t a)).bind fun x17=>some x17 else some []).bind _)=_
  have e:(if decide (0<=par t a)=true then (DY n t (par t a)).bind fun x17=>some x17 else some [])=some (CH t n (par t a)):=by
   by_cases hq:0<=par t a
   ·rw [if_pos (by simpa using hq),Vk hf hk hp n (par t a) hq (by omega) (by omega)]; rfl
   ·rw [if_neg (by simpa using hq),Ij (by omega)]
  have hb:(CH t n (par t a)).length+(AB t.Nodes a).Attrs.length<=BA:=by
   unfold BA
   have:((CH t n (par t a)).length:Int)<=30*n:=h2
   have h5:CH t n (par t a)=CH t 20 (par t a):=by
    by_cases hneg:par t a<0
    ·rw [Ij hneg,Ij hneg]
    ·exact Lx hp n 20 (par t a) (by omega) (by omega) (by omega)
   have h6:=MC hf hk hp 20 (par t a) (by omega)
   rw [←h5] at h6
   omega
  rw [e,bs,BE hb]
  rfl
theorem XL {t:Types} (hf:BW t) {k:Int} (hk:k<=t.Nodes.length) (hp:F1 t k) {a:Int} (h0:0<=a) (ha:a<k):KW t a=some (AZ t a):=
 E2 (a+1).toNat fun n hn=>by
  rw [Vk hf hk hp n a h0 ha (by omega),AZ,Lx hp n (a+1).toNat a ha (by omega) (by omega)]
theorem Vr {t:Types} (hf:BW t) {k:Int} (hk:k<=t.Nodes.length) (hp:F1 t k):∀ (n:Nat) (a:Int),-1<=a->a<k->a+1<n->HQ n t a=some (CH t n a)
 | 0,_,_,_,_=>by omega
 | n+1,a,h0,ha,hn=>by
  rw [HQ,CH]
  by_cases hneg:a<0
  ·rw [if_pos (by simpa using hneg),if_pos hneg]
  ·have h1:=hp a (by omega) ha
   have h3:=hf.attrs _ (AN (l:=t.Nodes) (show 0<=a by omega) (by omega))
   have h4:=hf.nodes
   rw [if_neg (by simpa using hneg),if_neg hneg,AF (by omega) (by omega)]
   simp only [bs]
   have h5:CH t n (par t a)=CH t 20 (par t a):=by
    by_cases hneg:par t a<0
    ·rw [Ij hneg,Ij hneg]
    ·exact Lx hp n 20 (par t a) (by omega) (by omega) (by omega)
   have h6:=MC hf hk hp 20 (par t a) (by omega)
   rw [←h5] at h6
   have hb:(CH t n (par t a)).length+(AB t.Nodes a).Attrs.length<=BA:=by unfold BA; omega
   rw [show (AB t.Nodes a).Parent=par t a from rfl,Vr hf hk hp n (par t a) (by omega) (by omega) (by omega),bs,BE (by simp; unfold BA; omega)]
   simp only [bs,List.nil_append]
   rw [BE hb]; rfl
theorem XS {t:Types} (hf:BW t) {k:Int} (hk:k<=t.Nodes.length) (hp:F1 t k) {a:Int} (h0:0<=a) (ha:a<k):NL t a=some (AZ t a):=
 E2 (a+2).toNat fun n hn=>by
  rw [Vr hf hk hp n a (by omega) ha (by omega),AZ,Lx hp n (a+1).toNat a ha (by omega) (by omega)]
end Go.Sf.Sc
namespace Go.Sf.Sc
open Go Go.Sf
def Ks (l:List ByteArray):Int:=
 if (20:Int)<l.length then 3 else (fst (fun i=>if GI (AB l i)=false then some 2 else if anyR (fun j=>AB l j==AB l i) 0 i=true then some 5 else none) 0 l.length).getD 0
theorem U6 {l:List ByteArray} {x:ByteArray} {b:Int} (h0:0<=b) (h1:b<=l.length):(l.take b.toNat).contains x=anyR (fun j=>AB l j==x) 0 b:=by
 rw [List.contains_eq_any_beq,P3 h0 h1]
 exact SX (fun i _ _=>by rw [Bool.beq_comm])
theorem eu {l:List ByteArray} (hl:∀ x∈l,(x.size:Int)<=40):IF l=some (Ks l):=by
 unfold IF Ks
 by_cases h20:(20:Int)<l.length
 ·rw [if_pos (by simpa using h20),if_pos h20]
 ·rw [if_neg (by simpa using h20),if_neg h20]
  rw [C0 (fun i=>if GI (AB l i)=false then some 2 else if anyR (fun j=>AB l j==AB l i) 0 i=true then some 5 else none),GP]
  intro i h1 h2 _
  have hx:=hl _ (AN h1 h2)
  rw [AF h1 h2,bs,QW (by omega),bs,Jx h1 (by omega)]
  simp only [bs,Nq,U6 h1 (show i<=l.length by omega)]
  cases GI (AB l i) <;> cases anyR (fun j=>AB l j==AB l i) 0 i <;> rfl
theorem fG {l:List ByteArray} (hl:∀ x∈l,(x.size:Int)<=40):La l=some (Ks l):=by
 unfold La Ks
 by_cases h20:(20:Int)<l.length
 ·rw [if_pos (by simpa using h20),if_pos h20]
 ·rw [if_neg (by simpa using h20),if_neg h20]
  rw [C0 (fun i=>if GI (AB l i)=false then some 2 else if anyR (fun j=>AB l j==AB l i) 0 i=true then some 5 else none),GP]
  intro i h1 h2 _
  have hx:=hl _ (AN h1 h2)
  rw [AF h1 h2,bs,QY (by omega),bs,CD (fun j=>AB l j==AB l i) 5]
  ·cases GI (AB l i) <;> cases anyR (fun j=>AB l j==AB l i) 0 i <;> rfl
  ·intro j k1 k2 _
   rw [AF k1 (by omega),bs,bs]
   split <;> rfl
def Lj (all:List Attr) (k:Int):Int:=
 let x:=AB all k
 if GI x.Name=false then 2 else if anyR (fun j=>(AB all j).Name==x.Name) 0 k=true then 5 else
 if x.Names.length=0 then (if -1000000<=x.Low∧x.Low<=x.High∧x.High<=1000000 then 0 else 6) else
 if Ks x.Names≠0 then Ks x.Names else if x.Low=0∧x.High=x.Names.length - 1 then 0 else 6
theorem Wc {all:List Attr} (hl:∀ x∈all,Qt x) {k:Int} (h0:0<=k) (h1:k<all.length):FE (AB all k) (all.take k.toNat)=some (Lj all k):=by
 have hx:=hl _ (AN h0 h1)
 have hn:=hx.name
 unfold FE Lj
 dsimp only
 rw [QW (by omega),bs,show (fun y0=>JP y0 (AB all k))=(fun y0=>some (y0.Name==(AB all k).Name)) from rfl,du,bs,P3 h0 (by omega),eu hx.each,bs]
 have hl2:=hx.names
 have hw:AJ ((AB all k).Names.length - 1)=(AB all k).Names.length - 1:=AW (by omega) (by omega)
 rw [hw]
 have hz:(AB all k).Names.length=0->Ks (AB all k).Names=0:=fun h=>by rw [List.eq_nil_of_length_eq_zero h]; rfl
 generalize Ks (AB all k).Names=e at hz ⊢
 simp only [bs,zzX,Bool.or_eq_true,zzZ,Bool.not_eq_true',decide_eq_false_iff_not,Bool.not_eq_false',Bool.or_eq_false_iff,Bool.and_eq_false_iff,ne_eq]
 repeat' (first | rfl | (exfalso; omega; done) | split)
 all_goals (first | rfl | (exfalso; omega) | omega | simp_all | (simp_all; omega))
theorem Wf {x:Attr} (hx:Qt x):Ix x=some (
 if x.Names.length=0 then (if -1000000<=x.Low∧x.Low<=x.High∧x.High<=1000000 then 0 else 6) else
 if Ks x.Names≠0 then Ks x.Names else if x.Low=0∧x.High=x.Names.length - 1 then 0 else 6):=by
 have hl2:=hx.names
 have hw:AJ (x.Names.length - 1)=x.Names.length - 1:=AW (by omega) (by omega)
 unfold Ix EC
 simp only [bs,hw,fG hx.each]
 generalize Ks x.Names=e
 simp only [bs,zzX,Bool.or_eq_true,zzZ,Bool.not_eq_true',decide_eq_false_iff_not,Bool.not_eq_false',Bool.or_eq_false_iff,Bool.and_eq_false_iff,ne_eq]
 repeat' (first | rfl | (exfalso; omega; done) | split)
 all_goals (first | rfl | (exfalso; omega) | omega | simp_all | (simp_all; omega))
def JH (t:Types) (i:Int):Int:=
 let n:=AB t.Nodes i
 if GI n.Name=false then 2 else if anyR (fun j=>(AB t.Nodes j).Name==n.Name) 0 i=true then 5 else
 if n.Parent < -1∨i<=n.Parent then 6 else if 4<n.Attrs.length∨8<(AZ t i).length then 3 else
 (fst (fun k=>nz (Lj (AZ t i) k)) ((AZ t i).length - n.Attrs.length) (AZ t i).length).getD 0
theorem Sa {t:Types} {i:Int} (h0:0<=i):(AB t.Nodes i).Attrs.length<=(AZ t i).length:=by
 unfold AZ
 rw [show (i+1).toNat=i.toNat+1 by omega,CH,if_neg (by omega),List.length_append]
 omega
theorem F1.next {t:Types} {i:Int} (h:F1 t i) (h1:-1<=par t i) (h2:par t i<i):F1 t (i+1):=by
 intro j k1 k2
 by_cases hj:j=i
 ·subst hj; exact ⟨h1,h2⟩
 ·exact h j k1 (by omega)
theorem iQ {t:Types} (hf:BW t) {i:Int} (h0:0<=i) (h1:i<t.Nodes.length) (hp:F1 t i):I6 t i=some (JH t i):=by
 have hn:=hf.name _ (AN h0 h1)
 unfold I6 JH
 dsimp only
 rw [AF h0 h1,bs,QW (by omega),bs,Jx h0 (by omega),bs,show (fun y0=>Mn y0 (AB t.Nodes i))=(fun y0=>some (y0.Name==(AB t.Nodes i).Name)) from rfl,WT,bs,P3 h0 (by omega)]
 cases GI (AB t.Nodes i).Name
 ·rfl
 ·cases anyR (fun j=>(AB t.Nodes j).Name==(AB t.Nodes i).Name) 0 i
  ·by_cases hr:(AB t.Nodes i).Parent < -1∨i<=(AB t.Nodes i).Parent
   ·rcases hr with hr | hr <;> simp [hr]
   ·have hp':F1 t (i+1):=hp.next (by unfold par; omega) (by unfold par; omega)
    have hr2:(decide ((AB t.Nodes i).Parent < -1)||decide (i<=(AB t.Nodes i).Parent))=false:=by
     rw [Bool.eq_false_iff]; simpa using hr
    rw [XL hf (k:=i+1) (by omega) hp' h0 (by omega),bs]
    have hlen:=ME hf (k:=i+1) (a:=i) (by omega) hp' (by omega)
    have hsub:=Sa (t:=t) h0
    have hfew:=MD hf (k:=i+1) (a:=i) (by omega) hp' (by omega)
    rw [AW (by omega) (by omega),C0 (fun k=>nz (Lj (AZ t i) k)),GP]
    ·simp only [hr2,hr,Bool.not_true,Bool.false_eq_true,if_false]
     simp only [bs,zzX,Bool.or_eq_true,zzZ,Bool.not_eq_true',decide_eq_false_iff_not,Bool.not_eq_false',Bool.or_eq_false_iff,Bool.and_eq_false_iff,ne_eq]
     repeat' (first | rfl | (exfalso; omega; done) | split)
     all_goals (first | rfl | (exfalso; omega) | omega | simp_all | (simp_all; omega))
    ·intro k k1 k2 _
     rw [AF (by omega) k2,bs,Jx (by omega) (by omega),bs,Wc hfew (by omega) k2,bs,Pr]
  ·rfl
theorem ig {t:Types} (hf:BW t) {i:Int} (h0:0<=i) (h1:i<t.Nodes.length) (hp:F1 t i):MY t i=some (JH t i):=by
 have hn:=hf.name _ (AN h0 h1)
 have hl:=hf.nodes
 unfold MY JH EC
 dsimp only
 rw [AF h0 h1,bs,QY (by omega),bs,CD (fun j=>(AB t.Nodes j).Name==(AB t.Nodes i).Name) 5]
 ·cases GI (AB t.Nodes i).Name
  ·rfl
  ·cases anyR (fun j=>(AB t.Nodes j).Name==(AB t.Nodes i).Name) 0 i
   ·simp only [Bool.not_true,Bool.false_eq_true,if_false,C9,bs]
    rw [AW (by omega) (by omega)]
    by_cases hr:(AB t.Nodes i).Parent < -1∨i<=(AB t.Nodes i).Parent
    ·rw [if_pos,if_neg (by decide),if_pos hr]
     simp; omega
    ·have hp':F1 t (i+1):=hp.next (by unfold par; omega) (by unfold par; omega)
     rw [if_neg (by simp; omega),if_neg (by decide),if_neg hr]
     rw [XS hf (k:=i+1) (by omega) hp' h0 (by omega),bs]
     have hlen:=ME hf (k:=i+1) (a:=i) (by omega) hp' (by omega)
     have hsub:=Sa (t:=t) h0
     have hfew:=MD hf (k:=i+1) (a:=i) (by omega) hp' (by omega)
     rw [AW (by omega) (by omega)]
     rw [C0 (fun k=>nz (Lj (AZ t i) k)),GP]
     ·simp only [bs,zzX,Bool.or_eq_true,zzZ,Bool.not_eq_true',decide_eq_false_iff_not,Bool.not_eq_false',Bool.or_eq_false_iff,Bool.and_eq_false_iff,ne_eq]
      repeat' (first | rfl | (exfalso; omega; done) | split)
      all_goals (first | rfl | (exfalso; omega) | omega | simp_all | (simp_all; omega))
     ·intro k k1 k2 _
      have hx:=hfew _ (AN (show 0<=k by omega) k2)
      have hxn:=hx.name
      simp only [AF (show 0<=k by omega) k2,bs]
      rw [QY (by omega),bs,CD (fun j=>(AB (AZ t i) j).Name==(AB (AZ t i) k).Name) 5]
      ·rw [Wf hx]
       simp only [bs,Pr]
       unfold Lj
       dsimp only
       cases GI (AB (AZ t i) k).Name
       ·rfl
       ·cases anyR (fun j=>(AB (AZ t i) j).Name==(AB (AZ t i) k).Name) 0 k <;> rfl
      ·intro j j1 j2 _
       rw [AF j1 (by omega),bs]
       split <;> rfl
   ·rfl
 ·intro j k1 k2 _
  rw [AF k1 (by omega),bs]
  split <;> rfl
def MF (low high:Int):Bool:=((decide (0<=low))&&(decide (low<=40)))&&((decide (high=(-1)))||((decide (low<=high))&&(decide (high<=40))))
theorem fC (low high:Int):KK low high=some (MF low high):=by
 unfold KK MF EC
 simp only [bs]
 cases (decide (0<=low)&&decide (low<=40)) <;> cases decide (high=-1) <;> rfl
def K1 (t:Types) (i:Int):Int:=
 let x:=AB t.Edges i
 if GI x.Name=false then 2 else if anyR (fun j=>(AB t.Edges j).Name==x.Name) 0 i=true then 5 else
 if (0<=x.From∧x.From<t.Nodes.length)∧(0<=x.To∧x.To<t.Nodes.length)∧MF x.OutLow x.OutHigh=true∧MF x.InLow x.InHigh=true then 0 else 6
theorem iK {t:Types} (hf:BW t) {i:Int} (h0:0<=i) (h1:i<t.Edges.length):I5 t i=some (K1 t i):=by
 have hn:=hf.ename _ (AN h0 h1)
 unfold I5 K1 Kz
 dsimp only
 rw [AF h0 h1,bs,QW (by omega),bs,Jx h0 (by omega),bs,show (fun y0=>Mm y0 (AB t.Edges i))=(fun y0=>some (y0.Name==(AB t.Edges i).Name)) from rfl,WS,bs,P3 h0 (by omega)]
 simp only [show ∀ a b,KF a b=some (MF a b) from fun _ _=>rfl,bs]
 generalize GI (AB t.Edges i).Name=b1
 generalize anyR (fun j=>(AB t.Edges j).Name==(AB t.Edges i).Name) 0 i=b2
 generalize MF (AB t.Edges i).OutLow (AB t.Edges i).OutHigh=b3
 generalize MF (AB t.Edges i).InLow (AB t.Edges i).InHigh=b4
 cases b1
 ·rfl
 ·cases b2
  ·cases b3 <;> cases b4
   all_goals
    by_cases ha:0<=(AB t.Edges i).From∧(AB t.Edges i).From<t.Nodes.length
    ·by_cases hb:0<=(AB t.Edges i).To∧(AB t.Edges i).To<t.Nodes.length
     ·simp [ha,hb]
     ·have:(decide (0<=(AB t.Edges i).To)&&decide ((AB t.Edges i).To<t.Nodes.length))=false:=by rw [Bool.eq_false_iff]; simpa using hb
      simp [ha,hb,this]
    ·have:(decide (0<=(AB t.Edges i).From)&&decide ((AB t.Edges i).From<t.Nodes.length))=false:=by rw [Bool.eq_false_iff]; simpa using ha
     simp [ha,this]
  ·rfl
theorem iZ {t:Types} (hf:BW t) {i:Int} (h0:0<=i) (h1:i<t.Edges.length):MX t i=some (K1 t i):=by
 have hn:=hf.ename _ (AN h0 h1)
 have hl:=hf.nodes
 unfold MX K1 EC
 dsimp only
 rw [AF h0 h1,bs,QY (by omega),bs,CD (fun j=>(AB t.Edges j).Name==(AB t.Edges i).Name) 5]
 ·simp only [AW (show -9223372036854775808<=(t.Nodes.length:Int) - 1 by omega) (by omega),fC,bs]
  generalize GI (AB t.Edges i).Name=b1
  generalize anyR (fun j=>(AB t.Edges j).Name==(AB t.Edges i).Name) 0 i=b2
  generalize MF (AB t.Edges i).OutLow (AB t.Edges i).OutHigh=b3
  generalize MF (AB t.Edges i).InLow (AB t.Edges i).InHigh=b4
  cases b1
  ·rfl
  ·cases b2
   ·cases b3 <;> cases b4
    all_goals
     by_cases ha:0<=(AB t.Edges i).From∧(AB t.Edges i).From<t.Nodes.length
     ·have ha':(AB t.Edges i).From<=(t.Nodes.length:Int) - 1:=by omega
      by_cases hb:0<=(AB t.Edges i).To∧(AB t.Edges i).To<t.Nodes.length
      ·have hb':(AB t.Edges i).To<=(t.Nodes.length:Int) - 1:=by omega
       simp [ha,hb,ha',hb',C9]
      ·have:(decide (0<=(AB t.Edges i).To)&&decide ((AB t.Edges i).To<=(t.Nodes.length:Int) - 1))=false:=by rw [Bool.eq_false_iff]; simp; omega
       simp [ha,hb,ha',this,C9]
     ·have:(decide (0<=(AB t.Edges i).From)&&decide ((AB t.Edges i).From<=(t.Nodes.length:Int) - 1))=false:=by rw [Bool.eq_false_iff]; simp; omega
      simp [ha,this,C9]
   ·rfl
 ·intro j k1 k2 _
  rw [AF k1 (by omega),bs]
  split <;> rfl
def A7 (t:Types):ByteArray × Int:=
 if t.Nodes.length=0 then (⟨#[]⟩,7) else if 12<t.Nodes.length∨20<t.Edges.length then (⟨#[]⟩,3) else
 match fst (fun i=>(nz (JH t i)).map fun e=>((AB t.Nodes i).Name,e)) 0 t.Nodes.length with
 | some r=>r
 | none=>(fst (fun i=>(nz (K1 t i)).map fun e=>((AB t.Edges i).Name,e)) 0 t.Edges.length).getD (⟨#[]⟩,0)
theorem Za {t:Types} {i:Int} (h:JH t i=0):-1<=par t i∧par t i<i:=by
 unfold JH at h
 dsimp only at h
 unfold par
 by_cases hr:(AB t.Nodes i).Parent < -1∨i<=(AB t.Nodes i).Parent
 ·rw [if_pos hr] at h
  split at h
  ·cases h
  ·split at h <;> cases h
 ·omega
theorem M1 {α β:Type} {o:Option α} {g:α->β}:o.map g=none↔o=none:=by cases o <;> simp
theorem SK {t:Types} {i:Int} (h:∀ j,0<=j->j<i->JH t j=0):F1 t i:=fun j h1 h2=>Za (h j h1 h2)
theorem Rh {ρ:Type} (e:Int) (n:ByteArray):(if (!decide (e=0))=true then some (B9.ret (n,e)) else some (B9.next ()))=some (Pc ((nz e).map fun e=>(n,e))):=by
 unfold nz
 by_cases h:e=0 <;> simp [h,Pc]
theorem Rl {t:Types} (hf:BW t):FJ t=some (A7 t):=by
 unfold FJ A7
 rw [C0 (fun i=>(nz (JH t i)).map fun e=>((AB t.Nodes i).Name,e)),GW]
 ·rw [C0 (fun i=>(nz (K1 t i)).map fun e=>((AB t.Edges i).Name,e)),GW]
  ·cases fst (fun i=>(nz (JH t i)).map fun e=>((AB t.Nodes i).Name,e)) 0 t.Nodes.length <;> cases fst (fun i=>(nz (K1 t i)).map fun e=>((AB t.Edges i).Name,e)) 0 t.Edges.length
   all_goals dsimp only
   all_goals try simp only [Option.getD]
   all_goals
    simp only [bs,zzX,Bool.or_eq_true,zzZ,Bool.not_eq_true',decide_eq_false_iff_not,Bool.not_eq_false',Bool.or_eq_false_iff,Bool.and_eq_false_iff,ne_eq]
    repeat' (first | rfl | (exfalso; omega; done) | split)
    all_goals (first | rfl | (exfalso; omega) | omega | simp_all | (simp_all; omega))
  ·intro i h1 h2 _
   rw [AF h1 h2,bs,iK hf h1 h2,bs]
   exact Rh (ρ:=Unit) _ _
 ·intro i h1 h2 h3
  have hp:F1 t i:=SK fun j k1 k2=>OC.1 (M1.1 (h3 j k1 k2))
  rw [AF h1 h2,bs,iQ hf h1 h2 hp,bs]
  exact Rh (ρ:=Unit) _ _
theorem Rp {t:Types} (hf:BW t):IB t=some (A7 t):=by
 unfold IB A7
 rw [C0 (fun i=>(nz (JH t i)).map fun e=>((AB t.Nodes i).Name,e)),GW]
 ·rw [C0 (fun i=>(nz (K1 t i)).map fun e=>((AB t.Edges i).Name,e)),GW]
  ·cases fst (fun i=>(nz (JH t i)).map fun e=>((AB t.Nodes i).Name,e)) 0 t.Nodes.length <;> cases fst (fun i=>(nz (K1 t i)).map fun e=>((AB t.Edges i).Name,e)) 0 t.Edges.length
   all_goals dsimp only
   all_goals try simp only [Option.getD]
   all_goals
    simp only [bs,zzX,Bool.or_eq_true,zzZ,Bool.not_eq_true',decide_eq_false_iff_not,Bool.not_eq_false',Bool.or_eq_false_iff,Bool.and_eq_false_iff,ne_eq]
    repeat' (first | rfl | (exfalso; omega; done) | split)
    all_goals (first | rfl | (exfalso; omega) | omega | simp_all | (simp_all; omega))
  ·intro i h1 h2 _
   simp only [iZ hf h1 h2,AF h1 h2,bs]
   exact Rh (ρ:=Unit) _ _
 ·intro i h1 h2 h3
  have hp:F1 t i:=SK fun j k1 k2=>OC.1 (M1.1 (h3 j k1 k2))
  simp only [ig hf h1 h2 hp,AF h1 h2,bs]
  exact Rh (ρ:=Unit) _ _
end Go.Sf.Sc
namespace Go.Sf.Sc
open Go Go.Sf
theorem KZ {α:Type} {c:Bool} {a b:α}:(if c=true then some a else some b)=some (if c=true then a else b):=by cases c <;> rfl
def K5 (n:Int):Bool:=(decide (0<=n))&&(decide (n<=99))
def QG (e:BX) (n:Int):Bool:=K5 e.Type'&&(decide (0<=e.From)&&decide (e.From<n))&&(decide (0<=e.To)&&decide (e.To<n))
def C6 (g:Graph):Int:=
 if 40<g.Nodes.length∨80<g.Edges.length then 3 else if (g.Nodes.any fun n=>!K5 n)=true then 6 else if (g.Edges.any fun e=>!QG e g.Nodes.length)=true then 6 else 0
structure KI (g:Graph):Prop where
 nodes:g.Nodes.length<=40
 edges:g.Edges.length<=80
 kind:∀ n∈g.Nodes,0<=n∧n<=99
 fit:∀ e∈g.Edges,(0<=e.Type'∧e.Type'<=99)∧(0<=e.From∧e.From<g.Nodes.length)∧(0<=e.To∧e.To<g.Nodes.length)
theorem FG {g:Graph} (h:C6 g=0):KI g:=by
 unfold C6 at h
 split at h
 ·cases h
 ·split at h
  ·cases h
  ·split at h
   ·cases h
   ·rename_i h1 h2 h3
    refine ⟨by omega,by omega,fun n hn=>?_,fun e he=>?_⟩
    ·rw [Bool.not_eq_true,List.any_eq_false] at h2
     have:=h2 n hn
     simp [K5] at this
     exact this
    ·rw [Bool.not_eq_true,List.any_eq_false] at h3
     have:=h3 e he
     simp only [QG,K5,Bool.not_eq_true',Bool.not_eq_false,zzZ,zzX] at this
     omega
theorem iN {e:BX} {n:Nat} (h:n<=40):MO e n=some (QG e n):=by
 unfold MO IR QG K5
 simp only [bs,AW (show -9223372036854775808<=(n:Int) - 1 by omega) (by omega)]
 have e1:decide (e.From<=(n:Int) - 1)=decide (e.From<n):=by rw [decide_eq_decide]; omega
 have e2:decide (e.To<=(n:Int) - 1)=decide (e.To<n):=by rw [decide_eq_decide]; omega
 rw [e1,e2]
 generalize (decide (0<=e.Type')&&decide (e.Type'<=99))=b1
 generalize (decide (0<=e.From)&&decide (e.From<n))=b2
 cases b1 <;> cases b2 <;> simp
theorem OD (g:Graph):D8 g=some (C6 g):=by
 unfold D8 C6
 by_cases h:40<g.Nodes.length∨80<g.Edges.length
 ·rw [if_pos (by simp; omega),if_pos h]
 ·rw [if_neg (by simp; omega),if_neg h,show Lk=(fun n=>some (!K5 n)) from rfl,Y4,Wq (p:=fun e=>!QG e g.Nodes.length) (fun e _=>by
   unfold Ll
   rw [iN (by omega)]; rfl)]
  simp only [bs]
  cases g.Nodes.any fun n=>!K5 n
  ·cases g.Edges.any fun e=>!QG e g.Nodes.length <;> rfl
  ·rfl
theorem OF (g:Graph):F7 g=some (C6 g):=by
 unfold F7 C6
 by_cases h:40<g.Nodes.length∨80<g.Edges.length
 ·rw [if_pos (by simp; omega),if_pos h]
 ·rw [if_neg (by simp; omega),if_neg h,J6,J6,CD (fun i=>!K5 (AB g.Nodes i)) 6]
  ·rw [CD (fun i=>!QG (AB g.Edges i) g.Nodes.length) 6]
   ·cases anyR (fun i=>!K5 (AB g.Nodes i)) 0 g.Nodes.length
    ·cases anyR (fun i=>!QG (AB g.Edges i) g.Nodes.length) 0 g.Edges.length <;> rfl
    ·rfl
   ·intro i h1 h2 _
    rw [AF h1 h2,bs]
    unfold NM QG
    simp only [show ∀ n,K9 n=some (K5 n) from fun _=>rfl,bs]
    generalize K5 (AB g.Edges i).Type'=b1
    cases b1 <;> cases decide (0<=(AB g.Edges i).From) <;> cases decide ((AB g.Edges i).From<g.Nodes.length) <;> cases decide (0<=(AB g.Edges i).To) <;> cases decide ((AB g.Edges i).To<g.Nodes.length) <;> rfl
  ·intro i h1 h2 _
   rw [AF h1 h2,bs,show K9 (AB g.Nodes i)=some (K5 (AB g.Nodes i)) from rfl,bs]
   cases K5 (AB g.Nodes i) <;> rfl
def FI (t:Types) (g:Graph):Bool:=!(g.Nodes.any fun n=>decide (t.Nodes.length<=n))&&!(g.Edges.any fun e=>decide (t.Edges.length<=e.Type'))
theorem M7 {t:Types} {g:Graph} (hg:KI g) (h:FI t g=true):(∀ n∈g.Nodes,0<=n∧n<t.Nodes.length)∧∀ e∈g.Edges,0<=e.Type'∧e.Type'<t.Edges.length:=by
 unfold FI at h
 simp only [zzZ,Bool.not_eq_true',List.any_eq_false,zzX] at h
 refine ⟨fun n hn=>?_,fun e he=>?_⟩
 ·have:=h.1 n hn
  have:=hg.kind n hn
  omega
 ·have:=h.2 e he
  have:=hg.fit e he
  omega
theorem Tf {t:Types} {g:Graph} (hg:KI g):JC t g=some (FI t g):=by
 unfold JC FI
 rw [J6,J6,CD (fun i=>decide (t.Nodes.length<=AB g.Nodes i)) false]
 ·rw [CD (fun i=>decide (t.Edges.length<=(AB g.Edges i).Type')) false]
  ·cases anyR (fun i=>decide (t.Nodes.length<=AB g.Nodes i)) 0 g.Nodes.length
   ·cases anyR (fun i=>decide (t.Edges.length<=(AB g.Edges i).Type')) 0 g.Edges.length <;> rfl
   ·rfl
  ·intro i h1 h2 _
   have:=(hg.fit _ (AN h1 h2)).1.1
   simp only [AF h1 h2,bs]
   rw [if_neg (by simp; omega),bs,KZ]
 ·intro i h1 h2 _
  have:=(hg.kind _ (AN h1 h2)).1
  simp only [AF h1 h2,bs]
  rw [if_neg (by simp; omega),bs,KZ]
structure G3 (t:Types):Prop where
 nodes:t.Nodes.length<=12
 edges:t.Edges.length<=20
 node:∀ i:Int,0<=i->i<t.Nodes.length->JH t i=0
 edge:∀ i:Int,0<=i->i<t.Edges.length->K1 t i=0
theorem GR {t:Types} (h:(A7 t).2=0):G3 t:=by
 unfold A7 at h
 split at h
 ·cases h
 ·split at h
  ·cases h
  ·rename_i h1 h2
   have hn:∀ i:Int,0<=i->i<t.Nodes.length->JH t i=0:=by
    split at h
    ·rename_i r hr
     obtain ⟨i,_,_,k3,_⟩:=FR hr
     unfold nz at k3
     split at k3
     ·cases k3
     ·rename_i hne
      cases k3; exact absurd h hne
    ·rename_i hr
     intro i k1 k2
     exact OC.1 (M1.1 (C1.1 hr i k1 k2))
   have he:∀ i:Int,0<=i->i<t.Edges.length->K1 t i=0:=by
    split at h
    ·rename_i r hr
     obtain ⟨i,k1,k2,k3,_⟩:=FR hr
     rw [hn i k1 k2] at k3
     cases k3
    ·cases hr:fst (fun i=>(nz (K1 t i)).map fun e=>((AB t.Edges i).Name,e)) 0 t.Edges.length with
     | some r=>
      rw [hr] at h
      obtain ⟨i,_,_,k3,_⟩:=FR hr
      unfold nz at k3
      split at k3
      ·cases k3
      ·rename_i hne
       cases k3; exact absurd h hne
     | none=>
      intro i k1 k2
      exact OC.1 (M1.1 (C1.1 hr i k1 k2))
   exact ⟨by omega,by omega,hn,he⟩
theorem G3.par {t:Types} (h:G3 t):F1 t t.Nodes.length:=SK h.node
theorem G3.ends {t:Types} (h:G3 t) {i:Int} (h0:0<=i) (h1:i<t.Edges.length):(0<=(AB t.Edges i).From∧(AB t.Edges i).From<t.Nodes.length)∧(0<=(AB t.Edges i).To∧(AB t.Edges i).To<t.Nodes.length):=by
 have:=h.edge i h0 h1
 unfold K1 at this
 dsimp only at this
 split at this
 ·cases this
 ·split at this
  ·cases this
  ·split at this
   ·rename_i hc; exact ⟨hc.1,hc.2.1⟩
   ·cases this
def Ia (t:Types) (a:Int):Bool:=decide (0<=a)&&decide (a<t.Nodes.length)
theorem Lz {t:Types} {a:Int}:Ia t a=true↔0<=a∧a<t.Nodes.length:=by unfold Ia; simp
theorem Td {t:Types} (hf:BW t) (l:List Int):GA t l=some (if (A7 t).2≠0 then (A7 t).2 else if (l.all (Ia t))=true then 0 else 6):=by
 unfold GA
 rw [Rl hf,bs,U4 (p:=fun a=>!Ia t a) (fun a _=>by unfold Lq Ia; rw [show decide (a<0)=!decide (0<=a) from by rw [←decide_not,decide_eq_decide]; omega,show decide ((t.Nodes.length:Int)<=a)=!decide (a<t.Nodes.length) from by rw [←decide_not,decide_eq_decide]; omega,Bool.not_and]),bs]
 rw [show (l.any fun a=>!Ia t a)=!(l.all (Ia t)) from by rw [List.all_eq_not_any_not,Bool.not_not]]
 cases l.all (Ia t) <;> by_cases h:(A7 t).2=0 <;> simp [h]
theorem XU {t:Types} (hf:BW t) (a b:Int):KL t a b=some (if (A7 t).2≠0 then (A7 t).2 else if (Ia t a&&Ia t b)=true then 0 else 6):=by
 have hl:=hf.nodes
 have e:∀ a,decide (a<=(t.Nodes.length:Int) - 1)=decide (a<(t.Nodes.length:Int)):=fun a=>by rw [decide_eq_decide]; omega
 unfold KL EC
 rw [Rp hf,bs]
 simp only [AW (show -9223372036854775808<=(t.Nodes.length:Int) - 1 by omega) (by omega),bs,e]
 change (if (!decide ((A7 t).snd=0))=true then some (A7 t).snd else (if (!Ia t a)=true then some true else some (!Ia t b)).bind fun x32=>if x32=true then some 6 else some 0)=_
 cases Ia t a <;> cases Ia t b <;> by_cases h:(A7 t).2=0 <;> simp [h]
theorem Z5 {α:Type} [Inhabited α] {l:List α} {i:Int} (h0:0<=i) (h1:i<l.length):CT l i (AB l i)=l:=by
 unfold CT AB
 rw [List.getD_eq_getElem?_getD,List.getElem?_eq_getElem (by omega)]
 exact List.set_getElem_self _
theorem HY {α:Type} [Inhabited α] {l:List α} {i:Int} (h0:0<=i) (h1:i<l.length):l.take (i+1).toNat=l.take i.toNat++[AB l i]:=by
 unfold AB
 rw [show (i+1).toNat=i.toNat+1 by omega,List.take_add_one,List.getD_eq_getElem?_getD,List.getElem?_eq_getElem (by omega)]
 rfl
theorem DX {α:Type} {l:List α} (h:l.length<=BA):AX [] l=some l:=by rw [BE (by simpa using h)]; rfl
def IM (t:Types) (a:Int):List Attr × Int:=if (A7 t).2≠0 then ([],(A7 t).2) else if Ia t a=true then (AZ t a,0) else ([],6)
theorem XK {t:Types} (hf:BW t) (a:Int):HH t a=some (IM t a):=by
 unfold HH IM
 rw [Td hf,bs]
 by_cases h:(A7 t).2=0
 ·have hok:=GR h
  have e:[a].all (Ia t)=Ia t a:=by simp
  rw [e]
  simp only [h,ne_eq,not_true_eq_false,if_false]
  cases hi:Ia t a
  ·rfl
  ·rw [if_pos rfl,if_pos rfl]
   have hr:=Lz.1 hi
   have hl:=ME hf (Int.le_refl _) hok.par hr.2
   have hw:=MD hf (Int.le_refl _) hok.par hr.2
   rw [if_neg (by decide),XL hf (Int.le_refl _) hok.par hr.1 hr.2,bs]
   obtain ⟨s',h1,rfl⟩:=Mz (f:=(fun (i0:Int) (s0:List Attr)=>
 (AH s0 i0).bind fun x28=>
 (slices_Clone_string x28.Names).bind fun x31=>
 (AH s0 i0).bind fun x32=>
 some (CT s0 i0 (Attr.mk x32.Name x32.Low x32.High x31)))) (fun _ s=>s=AZ t a) (a:=0) (b:=(AZ t a).length) (s:=AZ t a) (by omega) rfl (fun i s k1 k2 hs=>by
     subst hs
     have:=(hw _ (AN k1 k2)).names
     refine ⟨AZ t a,?_,rfl⟩
     unfold slices_Clone_string
     rw [AF k1 k2,bs,DX (by unfold BA; omega),bs,bs]
     congr 1
     exact Z5 k1 k2)
   rw [h1]; rfl
 ·simp only [h,ne_eq,not_false_eq_true,if_true,decide_false,Bool.not_false]
theorem Ro {t:Types} (hf:BW t) (a:Int):IA t a=some (IM t a):=by
 unfold IA IM
 rw [XU hf,bs]
 by_cases h:(A7 t).2=0
 ·have hok:=GR h
  rw [Bool.and_self]
  simp only [h,ne_eq,not_true_eq_false,if_false]
  cases hi:Ia t a
  ·rfl
  ·rw [if_pos rfl,if_pos rfl]
   have hr:=Lz.1 hi
   have hl:=ME hf (Int.le_refl _) hok.par hr.2
   have hw:=MD hf (Int.le_refl _) hok.par hr.2
   rw [if_neg (by decide),XS hf (Int.le_refl _) hok.par hr.1 hr.2,bs]
   rw [IH (fun i=>(AZ t a).take i.toNat) (by omega) (by simp)]
   ·rw [bs,Int.toNat_natCast,List.take_length]
   ·intro i k1 k2
    have:=(hw _ (AN k1 k2)).names
    rw [AF k1 k2,bs,DX (by unfold BA; omega),bs,BE (by rw [List.length_take]; simp; unfold BA; omega),HY k1 k2]
    rfl
 ·simp only [h,ne_eq,not_false_eq_true,if_true,decide_false,Bool.not_false]
end Go.Sf.Sc
namespace Go.Sf.Sc
open Go Go.Sf
def Nc (t:Types):Nat->Int->List Int
 | 0,_=>[]
 | n+1,a=>if a<0 then [] else a::Nc t n (par t a)
theorem Xj (t:Types):∀ (n:Nat) (a:Int),(Nc t n a).length<=n
 | 0,_=>by simp [Nc]
 | n+1,a=>by
  rw [Nc]
  split
  ·simp
  ·have:=Xj t n (par t a); simp; omega
def It (t:Types) (a b:Int):Bool:=(Nc t (a+1).toNat a).any fun x=>decide (b=x)
theorem XD {t:Types} (h12:t.Nodes.length<=12) (hp:F1 t t.Nodes.length):∀ (n:Nat) (a:Int) (l:List Int),a<t.Nodes.length->a<n->l.length+n<=1000 ->
  ∃ x,MA (ρ:=List Int) (fun (s0:Int × List Int)=>
 if (decide (0<=s0.1))=true then
 (AX s0.2 [s0.1]).bind fun x17=>
 (AH t.Nodes s0.1).bind fun x11=>
 some (.next (x11.Parent,x17))
 else
 some (.brk (s0.1,s0.2))) (a,l) (.inl (x,l++Nc t n a))
 | 0,a,l,h1,h2,_=>by
  refine ⟨a,.brk ?_⟩
  rw [if_neg (by simp; omega)]
  simp [Nc]
 | n+1,a,l,h1,h2,h3=>by
  by_cases h0:a<0
  ·refine ⟨a,.brk ?_⟩
   rw [if_neg (by simp; omega)]
   simp [Nc,h0]
  ·have hq:=hp a (by omega) h1
   obtain ⟨x,hx⟩:=XD h12 hp n (par t a) (l++[a]) (by omega) (by omega) (by simp; omega)
   refine ⟨x,.next (s':=(par t a,l++[a])) ?_ ?_⟩
   ·rw [if_pos (by simp; omega),BE (by simp; unfold BA; omega),bs,AF (by omega) h1]; rfl
   ·rw [Nc,if_neg h0,show l++a::Nc t n (par t a)=(l++[a])++Nc t n (par t a) by simp]
    exact hx
theorem bR {t:Types} (h:G3 t) {a b:Int} (ha:0<=a) (ha2:a<t.Nodes.length):JF t a b=some (It t a b):=by
 have h12:=h.nodes
 obtain ⟨x,hx⟩:=XD h12 h.par (a+1).toNat a [] ha2 (by omega) (by simp; omega)
 have hl:=Xj t (a+1).toNat a
 unfold JF Jz
 rw [hx.eq,C9]
 simp only [List.nil_append]
 unfold slices_Reverse_int
 rw [if_pos (by unfold BA; omega)]
 simp only [bs]
 rw [U7,bs]
 unfold It
 rw [List.any_reverse]
theorem SN {t:Types} (hp:F1 t t.Nodes.length) {b:Int} (hb:0<=b):∀ (n m:Nat) (a:Int),-1<=a->a<t.Nodes.length->a+1<n->a<m->GT n t a b=some ((Nc t m a).any fun x=>decide (b=x))
 | 0,_,_,_,_,_,_=>by omega
 | n+1,m,a,h0,h1,h2,h3=>by
  rw [GT]
  by_cases ha:a<0
  ·rw [if_neg (by simp; omega),if_neg (by simp; omega)]
   cases m <;> simp [Nc,ha]
  ·cases m with
   | zero=>omega
   | succ m=>
    have hq:=hp a (by omega) h1
    rw [Nc,if_neg ha,List.any_cons,if_pos (show decide (0<=a)=true by simp; omega),AF (by omega) h1]
    simp only [bs]
    rw [show (AB t.Nodes a).Parent=par t a from rfl,SN hp hb n m (par t a) (by omega) (by omega) (by omega) (by omega)]
    by_cases hab:a=b
    ·simp [hab]
    ·have:¬ b=a:=fun e=>hab e.symm
     simp [hab,this]
theorem Te {t:Types} (h:G3 t) {a b:Int} (ha:0<=a) (ha2:a<t.Nodes.length) (hb:0<=b):HP t a b=some (It t a b):=
 E2 (a+2).toNat fun n hn=>SN h.par hb n (a+1).toNat a (by omega) ha2 (by omega) (by omega)
def QH (t:Types) (e f g:Int):Bool:=
 decide ((A7 t).2=0)&&(Ia t f&&Ia t g)&&(decide (0<=e)&&decide (e<t.Edges.length))&&(It t f (AB t.Edges e).From&&It t g (AB t.Edges e).To)
theorem iG {t:Types} (hf:BW t) (e f g:Int):I4 t e f g=some (QH t e f g):=by
 unfold I4 QH
 rw [Td hf,bs,show [f,g].all (Ia t)=(Ia t f&&Ia t g) by simp]
 by_cases h:(A7 t).2=0
 ·simp only [h,ne_eq,not_true_eq_false,if_false]
  have hok:=GR h
  cases hi:(Ia t f&&Ia t g)
  ·rfl
  ·rw [zzZ,Lz,Lz] at hi
   by_cases he:0<=e∧e<t.Edges.length
   ·rw [if_neg (by simp; omega),AF he.1 he.2]
    simp only [bs,bR hok hi.1.1 hi.1.2,bR hok hi.2.1 hi.2.2,he.1,he.2,decide_true,Bool.true_and]
    cases It t f (AB t.Edges e).From <;> rfl
   ·rw [if_pos (by simp; omega)]
    have:(decide (0<=e)&&decide (e<t.Edges.length))=false:=by rw [Bool.eq_false_iff]; simpa using he
    rw [this]; simp
 ·simp [h]
theorem Zp {t:Types} (hf:BW t) (e f g:Int):K8 t e f g=some (QH t e f g):=by
 have hl:=hf.edges
 unfold K8 QH EC
 rw [XU hf,bs]
 by_cases h:(A7 t).2=0
 ·simp only [h,ne_eq,not_true_eq_false,if_false]
  have hok:=GR h
  cases hi:(Ia t f&&Ia t g)
  ·rfl
  ·rw [zzZ,Lz,Lz] at hi
   rw [AW (by omega) (by omega)]
   simp only [bs]
   by_cases he:0<=e∧e<t.Edges.length
   ·have he2:=hok.ends he.1 he.2
    have he3:e<=(t.Edges.length:Int) - 1:=by omega
    rw [if_neg (by simp),bs,if_neg (by simp [he.1,he3]),AF he.1 he.2]
    simp only [bs,Te hok hi.1.1 hi.1.2 he2.1.1,Te hok hi.2.1 hi.2.2 he2.2.1,he.1,he.2,decide_true,Bool.true_and]
    cases It t f (AB t.Edges e).From <;> rfl
   ·have:(decide (0<=e)&&decide (e<t.Edges.length))=false:=by rw [Bool.eq_false_iff]; simpa using he
    have h2:(decide (0<=e)&&decide (e<=(t.Edges.length:Int) - 1))=false:=by rw [Bool.eq_false_iff]; simp; omega
    rw [this,h2]; simp
 ·simp [h]
def Mi (n:Int) (x:Term):Bool:=(((decide ((-1)<=x.Var))&&(decide (x.Var<n)))&&(decide ((-1000000)<=x.Add)))&&(decide (x.Add<=1000000))
def NR (n:Int) (x:Test):Int:=if ¬ x.Kind=1∧¬ x.Kind=2 then 1 else if (Mi n x.Left&&Mi n x.Right)=true then 0 else 6
def KE (n:Int) (l:List Test):Int:=if n<0∨12<n then 6 else if 40<l.length then 3 else (fst (fun i=>nz (NR n (AB l i))) 0 l.length).getD 0
theorem iS (n:Int) (x:Test):JU n x=some (NR n x):=by
 unfold JU NR
 simp only [show ∀ n x,Io n x=some (Mi n x) from fun _ _=>rfl,bs]
 generalize Mi n x.Left=b1
 generalize Mi n x.Right=b2
 cases b1 <;> cases b2
 all_goals
  simp only [bs,zzX,Bool.or_eq_true,zzZ,Bool.not_eq_true',decide_eq_false_iff_not,Bool.not_eq_false',Bool.or_eq_false_iff,Bool.and_eq_false_iff,ne_eq]
  repeat' (first | rfl | (exfalso; omega; done) | split)
  all_goals (first | rfl | (exfalso; omega) | omega | simp_all | (simp_all; omega))
theorem be (n:Int) (x:Term):JY n x=some (if Mi n x=true then 0 else 6):=by
 unfold JY Mi
 simp only [bs,zzX,Bool.or_eq_true,zzZ,Bool.not_eq_true',decide_eq_false_iff_not,Bool.not_eq_false',Bool.or_eq_false_iff,Bool.and_eq_false_iff,ne_eq]
 repeat' (first | rfl | (exfalso; omega; done) | split)
 all_goals (first | rfl | (exfalso; omega) | omega | simp_all | (simp_all; omega))
theorem ij (n:Int) (x:Test):NW n x=some (NR n x):=by
 unfold NW NR
 simp only [be,bs]
 generalize Mi n x.Left=b1
 generalize Mi n x.Right=b2
 cases b1 <;> cases b2
 all_goals
  simp only [bs,zzX,Bool.or_eq_true,zzZ,Bool.not_eq_true',decide_eq_false_iff_not,Bool.not_eq_false',Bool.or_eq_false_iff,Bool.and_eq_false_iff,ne_eq]
  repeat' (first | rfl | (exfalso; omega; done) | split)
  all_goals (first | rfl | (exfalso; omega) | omega | simp_all | (simp_all; omega))
theorem fA (n:Int) (l:List Test):IP n l=some (KE n l):=by
 unfold IP KE
 rw [C0 (fun i=>nz (NR n (AB l i))),GP]
 ·simp only [bs,zzX,Bool.or_eq_true,zzZ,Bool.not_eq_true',decide_eq_false_iff_not,Bool.not_eq_false',Bool.or_eq_false_iff,Bool.and_eq_false_iff,ne_eq]
  repeat' (first | rfl | (exfalso; omega; done) | split)
  all_goals (first | rfl | (exfalso; omega) | omega | simp_all | (simp_all; omega))
 ·intro i h1 h2 _
  rw [AF h1 h2,bs,iS,bs,Pr]
theorem fK (n:Int) (l:List Test):LZ n l=some (KE n l):=by
 unfold LZ KE
 rw [C0 (fun i=>nz (NR n (AB l i))),GP]
 ·simp only [bs,zzX,Bool.or_eq_true,zzZ,Bool.not_eq_true',decide_eq_false_iff_not,Bool.not_eq_false',Bool.or_eq_false_iff,Bool.and_eq_false_iff,ne_eq]
  repeat' (first | rfl | (exfalso; omega; done) | split)
  all_goals (first | rfl | (exfalso; omega) | omega | simp_all | (simp_all; omega))
 ·intro i h1 h2 _
  rw [AF h1 h2,bs,ij,bs,Pr]
def O9 (t:Types) (p:Pattern) (node ix:Int):Attr × Bool:=
 if node<0∨p.Graph.Nodes.length<=node then (default,false) else
 let l:=(IM t (AB p.Graph.Nodes node)).1
 if ix<0∨l.length<=ix then (default,false) else (AB l ix,true)
theorem Nu {t:Types} (hf:BW t) (a:Int):(IM t a).1.length<=600∧((IM t a).2≠0->(IM t a).1=[]):=by
 unfold IM
 split
 ·simp
 ·rename_i h
  have hok:=GR (t:=t) (by omega)
  split
  ·rename_i hi
   exact ⟨ME hf (Int.le_refl _) hok.par (Lz.1 hi).2,by simp⟩
  ·simp
theorem ei {t:Types} (hf:BW t) {p:Pattern} (hg:KI p.Graph) (s:B4):FV t p s=some (O9 t p s.Node s.Attr):=by
 have hn:=hg.nodes
 unfold FV O9 DC
 dsimp only
 rw [AW (by omega) (by omega),bs]
 by_cases h:s.Node<0∨p.Graph.Nodes.length<=s.Node
 ·rw [if_pos (by simp; omega),if_pos h]; rfl
 ·rw [if_neg (by simp; omega),if_neg h,AF (by omega) (by omega),bs,XK hf,bs]
  have hl:=(Nu hf (AB p.Graph.Nodes s.Node)).1
  rw [AW (by omega) (by omega),bs]
  by_cases h2:s.Attr<0∨(IM t (AB p.Graph.Nodes s.Node)).1.length<=s.Attr
  ·rw [if_pos (by simp; omega),if_pos h2]; rfl
  ·rw [if_neg (by simp; omega),if_neg h2,AF (by omega) (by omega)]; rfl
theorem fB {t:Types} (hf:BW t) {p:Pattern} (node ix:Int):Mf t p node ix=some (O9 t p node ix):=by
 unfold Mf O9
 dsimp only
 by_cases h:node<0∨p.Graph.Nodes.length<=node
 ·rw [if_pos (by simp; omega),if_pos h]; rfl
 ·rw [if_neg (by simp; omega),if_neg h,AF (by omega) (by omega),bs,Ro hf,bs]
  have hl:=(Nu hf (AB p.Graph.Nodes node)).2
  by_cases h2:ix<0∨(IM t (AB p.Graph.Nodes node)).1.length<=ix
  ·rw [if_pos (by simp; omega),if_pos h2]; rfl
  ·by_cases he:(IM t (AB p.Graph.Nodes node)).2=0
   ·rw [if_neg (by simp [he]; omega),if_neg h2,AF (by omega) (by omega)]; rfl
   ·rw [hl he] at h2; simp at h2; omega
end Go.Sf.Sc
namespace Go.Sf
variable {σ ρ:Type}
def jN (s:σ) (o:Option ρ):B9 σ ρ:=match o with
 | none=>.next s
 | some r=>.ret r
def dS (s:σ) (o:Option ρ):σ ⊕ ρ:=match o with
 | none=>.inl s
 | some r=>.inr r
theorem VL {f:Int->σ->Option (B9 σ ρ)} (g:Int->σ) (c:Int->Option ρ):∀ (n:Nat) (a:Int),
  (∀ i,a<=i->i<a+n->(∀ j,a<=j->j<i->c j=none)->f i (g i)=some (jN (g (i+1)) (c i)))->forGo f n a (g a)=some (dS (g (a+n)) (F2 c n a))
 | 0,a,_=>by simp [forGo,F2,dS]
 | n+1,a,h=>by
  have h0:=h a (Int.le_refl _) (by omega) (fun j h1 h2=>by omega)
  rw [FM,h0,F2]
  cases hc:c a with
  | some r=>rfl
  | none=>
   simp only [jN]
   rw [show a+((n+1:Nat):Int)=a+1+n by omega]
   refine VL g c n (a+1) (fun i h1 h2 h3=>h i (by omega) (by omega) (fun j h4 h5=>?_))
   by_cases hj:j=a
   ·subst hj; exact hc
   ·exact h3 j (by omega) h5
theorem TX {f:Int->σ->Option (B9 σ ρ)} (g:Int->σ) (c:Int->Option ρ) {a b:Int} {s:σ} (hab:a<=b) (hs:s=g a) (h:∀ i,a<=i->i<b->(∀ j,a<=j->j<i->c j=none)->f i (g i)=some (jN (g (i+1)) (c i))):forR f a b s=some (dS (g b) (fst c a b)):=by
 subst hs
 unfold forR fst
 have:=VL g c (b - a).toNat a (fun i h1 h2 h3=>h i h1 (by omega) h3)
 rwa [show a+((b - a).toNat:Int)=b by omega] at this
variable {α:Type}
theorem Ik {e:Int} {X:Option Int} {Y:Int} (h:e=0->X=some Y):(if (!decide (e=0))=true then some e else X)=some (if e≠0 then e else Y):=by
 by_cases he:e=0
 ·simp [he,h he]
 ·simp [he]
theorem OK {e:Int} {v:α} {X:Option α} {Y:α} (h:e=0->X=some Y):(if (!decide (e=0))=true then some v else X)=some (if e≠0 then v else Y):=by
 by_cases he:e=0
 ·simp [he,h he]
 ·simp [he]
theorem Qm {P:Prop} [Decidable P] {b:Bool} {v:α} {X:Option α} {Y:α} (hb:b=true↔P) (h:¬ P->X=some Y):(if b=true then some v else X)=some (if P then v else Y):=by
 by_cases hp:P
 ·rw [if_pos (hb.2 hp),if_pos hp]
 ·rw [if_neg (fun h=>hp (hb.1 h)),if_neg hp,h hp]
theorem Ws {b:Bool} {v:α} {X:Option α} {Y:α} (h:b=true->X=some Y):(if (!b)=true then some v else X)=some (if b=false then v else Y):=by
 cases b
 ·rfl
 ·simpa using h rfl
theorem pw {b:Bool} {v:α} {X:Option α} {Y:α} (h:b=false->X=some Y):(if b=true then some v else X)=some (if b=true then v else Y):=by
 cases b
 ·simpa using h rfl
 ·rfl
end Go.Sf
namespace Go.Sf.Sc
open Go Go.Sf
def P6 (t:Types) (p:Pattern) (s:B4):Bool:=!(O9 t p s.Node s.Attr).2||decide (s.Term.Var < -1)||decide (p.Vars<=s.Term.Var)||(decide (s.Term.Add < -1000000)||decide (1000000<s.Term.Add))
def Kt (p:Pattern) (v:Int):Bool:=p.Slots.any fun s=>decide (s.Term.Var=v)
def Ic (t:Types) (p:Pattern):Int:=
 if (A7 t).2≠0 then (A7 t).2 else if C6 p.Graph≠0 then C6 p.Graph else if FI t p.Graph=false then 13 else
 if p.Vars<0∨12<p.Vars then 6 else if 10<p.Slots.length∨10<p.Tests.length then 3 else
 if (p.Slots.any (P6 t p))=true then 6 else if KE p.Vars p.Tests≠0 then KE p.Vars p.Tests else
 if anyR (fun v=>!Kt p v) 0 p.Vars=true then 9 else 0
def J0 (p:Pattern) (i:Int):List Bool:=(List.range p.Vars.toNat).map fun (v:Nat)=>(p.Slots.take i.toNat).any fun s=>decide (s.Term.Var=(v:Int))
theorem Yi {p:Pattern}:J0 p 0=List.replicate p.Vars.toNat false:=by
 unfold J0
 refine List.ext_getElem (by simp) (fun n h1 h2=>by simp)
theorem aQ (p:Pattern) (i:Int):(J0 p i).length=p.Vars.toNat:=by simp [J0]
theorem aR {p:Pattern} {i:Int} (h0:0<=i) (h1:i<p.Slots.length) (hv:0<=(AB p.Slots i).Term.Var):CT (J0 p i) (AB p.Slots i).Term.Var true=J0 p (i+1):=by
 unfold CT
 refine List.ext_getElem (by simp [J0]) (fun n k1 k2=>?_)
 simp only [J0,List.getElem_set,List.getElem_map,List.getElem_range,HY h0 h1,List.any_append,List.any_cons,List.any_nil,Bool.or_false]
 by_cases hn:(AB p.Slots i).Term.Var.toNat=n
 ·rw [if_pos hn,decide_eq_true (show (AB p.Slots i).Term.Var=(n:Int) by omega),Bool.or_true]
 ·rw [if_neg hn,decide_eq_false (show ¬ (AB p.Slots i).Term.Var=(n:Int) by omega),Bool.or_false]
theorem Yh {p:Pattern} {i:Int} (h0:0<=i) (h1:i<p.Slots.length) (hv:(AB p.Slots i).Term.Var<0):J0 p i=J0 p (i+1):=by
 refine List.ext_getElem (by simp [J0]) (fun n k1 k2=>?_)
 simp only [J0,List.getElem_map,List.getElem_range,HY h0 h1,List.any_append,List.any_cons,List.any_nil,Bool.or_false]
 rw [decide_eq_false (show ¬ (AB p.Slots i).Term.Var=(n:Int) by omega),Bool.or_false]
theorem aP (p:Pattern):((J0 p p.Slots.length).any fun x=>false==x)=anyR (fun v=>!Kt p v) 0 p.Vars:=by
 rw [Bool.eq_iff_iff,List.any_eq_true,IL]
 simp only [J0,Int.toNat_natCast,List.take_length,List.mem_map,List.mem_range]
 constructor
 ·rintro ⟨x,⟨v,hv,rfl⟩,hx⟩
  refine ⟨v,by omega,by omega,?_⟩
  unfold Kt
  revert hx
  cases p.Slots.any fun s=>decide (s.Term.Var=(v:Int)) <;> simp
 ·rintro ⟨v,h0,h1,hx⟩
  refine ⟨_,⟨v.toNat,by omega,rfl⟩,?_⟩
  rw [Int.toNat_of_nonneg h0]
  unfold Kt at hx
  revert hx
  cases p.Slots.any fun s=>decide (s.Term.Var=v) <;> simp
theorem eO {α ρ:Type} [Inhabited α] {l:List α} {q:α->Bool} {v:ρ}:fst (fun i=>if q (AB l i)=true then some v else none) 0 l.length=if l.any q=true then some v else none:=by
 rw [PI,J6]
theorem Ui {t:Types} (hf:BW t) (p:Pattern):DZ t p=some (Ic t p):=by
 unfold DZ Ic
 rw [Rl hf,bs,OD,bs]
 refine Ik fun ht=>Ik fun hg=>?_
 have hgo:=FG hg
 have e:((BM p.Graph.Nodes (fun y0=>H1 y0 t)).bind fun x32=>
   (if x32=true then some true else ((BV p.Graph.Edges (fun y0=>H2 y0 t)).bind fun x38=>some (x38))))=some (!FI t p.Graph):=by
  unfold FI
  rw [show (fun y0=>H1 y0 t)=(fun (n:Int)=>some (decide (t.Nodes.length<=n))) from rfl,Y4,show (fun y0=>H2 y0 t)=(fun (e:BX)=>some (decide (t.Edges.length<=e.Type'))) from rfl,dw]
  simp only [bs]
  cases p.Graph.Nodes.any fun n=>decide (t.Nodes.length<=n) <;> simp
 rw [←Option.bind_assoc,e,bs]
 refine Ws fun htd=>?_
 unfold DC
 simp only [bs]
 refine Qm (by simp; try omega) fun hv=>Qm (by simp; try omega) fun hl=>?_
 unfold Kf
 rw [if_pos (by omega),bs,←Yi,AW (show -9223372036854775808<=p.Vars - 1 by omega) (by omega),TX (J0 p) (fun i=>if P6 t p (AB p.Slots i)=true then some 6 else none) (by omega) rfl,eO]
 ·cases hb:p.Slots.any (P6 t p)
  ·simp only [Bool.false_eq_true,if_false,dS,C9,fA,bs,eA,aP]
   by_cases hte:KE p.Vars p.Tests=0
   ·simp only [hte]
    cases anyR (fun v=>!Kt p v) 0 p.Vars <;> rfl
   ·simp [hte]
  ·rfl
 ·intro i h1 h2 _
  rw [AF h1 h2,bs,ei hf hgo,bs]
  unfold P6
  by_cases hb:(O9 t p (AB p.Slots i).Node (AB p.Slots i).Attr).2=true
  ·by_cases hvar:(AB p.Slots i).Term.Var < -1∨p.Vars<=(AB p.Slots i).Term.Var
   ·have e1:(decide (-1<=(AB p.Slots i).Term.Var)&&decide ((AB p.Slots i).Term.Var<=p.Vars - 1))=false:=by rw [Bool.eq_false_iff]; simp; omega
    have e2:(decide ((AB p.Slots i).Term.Var < -1)||decide (p.Vars<=(AB p.Slots i).Term.Var))=true:=by simp; omega
    rw [hb,e1,Bool.or_assoc (!true),e2]; rfl
   ·have e1:(decide (-1<=(AB p.Slots i).Term.Var)&&decide ((AB p.Slots i).Term.Var<=p.Vars - 1))=true:=by simp; omega
    have e2:(decide ((AB p.Slots i).Term.Var < -1)||decide (p.Vars<=(AB p.Slots i).Term.Var))=false:=by rw [Bool.eq_false_iff]; simp; omega
    rw [hb,e1,Bool.or_assoc (!true),e2]
    by_cases ha:(AB p.Slots i).Term.Add < -1000000∨1000000<(AB p.Slots i).Term.Add
    ·have e3:(decide (-1000000<=(AB p.Slots i).Term.Add)&&decide ((AB p.Slots i).Term.Add<=1000000))=false:=by rw [Bool.eq_false_iff]; simp; omega
     have e4:(decide ((AB p.Slots i).Term.Add < -1000000)||decide (1000000<(AB p.Slots i).Term.Add))=true:=by simp; omega
     rw [e3,e4]; rfl
    ·have e3:(decide (-1000000<=(AB p.Slots i).Term.Add)&&decide ((AB p.Slots i).Term.Add<=1000000))=true:=by simp; omega
     have e4:(decide ((AB p.Slots i).Term.Add < -1000000)||decide (1000000<(AB p.Slots i).Term.Add))=false:=by rw [Bool.eq_false_iff]; simp; omega
     rw [e3,e4]
     by_cases h0:0<=(AB p.Slots i).Term.Var
     ·simp only [Bool.not_true,Bool.false_eq_true,if_false,bs,h0,decide_true,if_true,Bool.or_false]
      rw [AF h0 (by rw [aQ]; omega),bs,aR h1 h2 h0]; rfl
     ·simp only [Bool.not_true,Bool.false_eq_true,if_false,bs,h0,decide_false,Bool.or_false]
      rw [Yh h1 h2 (by omega)]; rfl
  ·rw [Bool.not_eq_true] at hb
   rw [hb]; rfl
theorem dL (p:Pattern) (v:Int):Kx p v=some (Kt p v):=by
 unfold Kx Kt
 rw [CD (fun i=>decide ((AB p.Slots i).Term.Var=v)) true,J6]
 ·cases anyR (fun i=>decide ((AB p.Slots i).Term.Var=v)) 0 p.Slots.length <;> rfl
 ·intro i h1 h2 _
  rw [AF h1 h2,bs,KZ]
theorem TD {t:Types} (hf:BW t) (p:Pattern):F8 t p=some (Ic t p):=by
 unfold F8 Ic
 rw [Rp hf,bs,OF,bs]
 refine Ik fun ht=>Ik fun hg=>?_
 have hgo:=FG hg
 rw [Tf hgo,bs]
 refine Ws fun htd=>Qm (by simp; try omega) fun hv=>Qm (by simp; try omega) fun hl=>?_
 rw [CD (fun i=>P6 t p (AB p.Slots i)) 6,←J6]
 ·cases hb:p.Slots.any (P6 t p)
  ·simp only [Bool.false_eq_true,if_false,C9,fK,bs]
   by_cases hte:KE p.Vars p.Tests=0
   ·simp only [hte]
    rw [CD (fun v=>!Kt p v) 9]
    ·cases anyR (fun v=>!Kt p v) 0 p.Vars <;> rfl
    ·intro i h1 h2 _
     rw [dL,bs,KZ]
   ·simp [hte]
  ·rfl
 ·intro i h1 h2 _
  rw [AF h1 h2,bs,fB hf,bs]
  unfold P6 Ln
  simp only [bs]
  have e:(!(decide (-1000000<=(AB p.Slots i).Term.Add)&&decide ((AB p.Slots i).Term.Add<=1000000)))=(decide ((AB p.Slots i).Term.Add < -1000000)||decide (1000000<(AB p.Slots i).Term.Add)):=by
   rw [Bool.not_and,←decide_not,←decide_not]
   congr 1 <;> rw [decide_eq_decide] <;> omega
  rw [e]
  cases (!(O9 t p (AB p.Slots i).Node (AB p.Slots i).Attr).2||decide ((AB p.Slots i).Term.Var < -1)||decide (p.Vars<=(AB p.Slots i).Term.Var))
  ·simp only [Bool.false_eq_true,if_false,bs,Bool.false_or,KZ]
  ·rfl
end Go.Sf.Sc
namespace Go.Sf
theorem We {l:List Int} {R:Int->Int->Prop} (h:l.Pairwise R) {i j:Int} (h0:0<=i) (h1:i<j) (h2:j<l.length):R (AB l i) (AB l j):=by
 have:=(List.pairwise_iff_getElem.1 h) i.toNat j.toNat (by omega) (by omega) (by omega)
 unfold AB
 rw [List.getD_eq_getElem?_getD,List.getD_eq_getElem?_getD,List.getElem?_eq_getElem (by omega),List.getElem?_eq_getElem (by omega)]
 exact this
theorem WR {l:List Int} {R:Int->Int->Prop} (h:∀ i j:Int,0<=i->i<j->j<l.length->R (AB l i) (AB l j)):l.Pairwise R:=by
 refine List.pairwise_iff_getElem.2 (fun i j h1 h2 h3=>?_)
 have:=h i j (by omega) (by omega) (by omega)
 unfold AB at this
 rw [List.getD_eq_getElem?_getD,List.getD_eq_getElem?_getD,Int.toNat_natCast,Int.toNat_natCast,List.getElem?_eq_getElem h1,List.getElem?_eq_getElem h2] at this
 exact this
end Go.Sf
namespace Go.Sf.Sc
open Go Go.Sf
theorem T2 {c:Int->Option Int} {a b:Int} (hc:∀ i,c i≠some 0) (h:(fst c a b).getD 0=0):∀ i,a<=i->i<b->c i=none:=by
 have:fst c a b=none:=by
  cases hf:fst c a b with
  | none=>rfl
  | some r=>
   rw [hf] at h
   simp only [Option.getD] at h
   subst h
   obtain ⟨i,_,_,h3,_⟩:=FR hf
   exact (hc i h3).elim
 exact C1.1 this
end Go.Sf.Sc
namespace Go.Sf.Sc
open Go Go.Sf
def LU (a b:Graph) (m:Morphism) (i:Int):Option Int:=
 if AB m.Nodes i<0∨b.Nodes.length<=AB m.Nodes i then some 6 else if AB b.Nodes (AB m.Nodes i)≠AB a.Nodes i then some 13 else none
def Iu (a b:Graph) (m:Morphism) (i:Int):Option Int:=
 if AB m.Edges i<0∨b.Edges.length<=AB m.Edges i then some 6 else
 if (AB a.Edges i).Type'≠(AB b.Edges (AB m.Edges i)).Type' then some 13 else
 if AB m.Nodes (AB a.Edges i).From≠(AB b.Edges (AB m.Edges i)).From∨AB m.Nodes (AB a.Edges i).To≠(AB b.Edges (AB m.Edges i)).To then some 11 else none
def M2 (a b:Graph) (m:Morphism):Int:=
 if C6 a≠0 then C6 a else if C6 b≠0 then C6 b else if m.Nodes.length≠a.Nodes.length∨m.Edges.length≠a.Edges.length then 20 else
 match fst (LU a b m) 0 m.Nodes.length with
 | some e=>e
 | none=>(fst (Iu a b m) 0 m.Edges.length).getD 0
structure cq (a b:Graph) (m:Morphism):Prop where
 ga:KI a
 gb:KI b
 nlen:m.Nodes.length=a.Nodes.length
 elen:m.Edges.length=a.Edges.length
 node:∀ i:Int,0<=i->i<m.Nodes.length->(0<=AB m.Nodes i∧AB m.Nodes i<b.Nodes.length)∧AB b.Nodes (AB m.Nodes i)=AB a.Nodes i
 edge:∀ i:Int,0<=i->i<m.Edges.length->(0<=AB m.Edges i∧AB m.Edges i<b.Edges.length)∧(AB a.Edges i).Type'=(AB b.Edges (AB m.Edges i)).Type' ∧
  AB m.Nodes (AB a.Edges i).From=(AB b.Edges (AB m.Edges i)).From∧AB m.Nodes (AB a.Edges i).To=(AB b.Edges (AB m.Edges i)).To
theorem dC {a b:Graph} {m:Morphism} (h:M2 a b m=0):cq a b m:=by
 unfold M2 at h
 split at h
 ·omega
 split at h
 ·omega
 split at h
 ·cases h
 rename_i h1 h2 h3
 have hn:fst (LU a b m) 0 m.Nodes.length=none:=by
  split at h
  ·rename_i r hr
   obtain ⟨i,_,_,k,_⟩:=FR hr
   subst h
   unfold LU at k
   split at k
   ·cases k
   ·split at k <;> cases k
  ·assumption
 rw [hn] at h
 have he:=T2 (fun i=>by
  unfold Iu
  split
  ·simp
  ·split
   ·simp
   ·split <;> simp) h
 refine ⟨FG (by omega),FG (by omega),by omega,by omega,fun i i1 i2=>?_,fun i i1 i2=>?_⟩
 ·have:=C1.1 hn i i1 i2
  unfold LU at this
  split at this
  ·cases this
  ·split at this
   ·cases this
   ·rename_i x y
    exact ⟨by omega,Classical.not_not.1 y⟩
 ·have:=he i i1 i2
  unfold Iu at this
  split at this
  ·cases this
  ·split at this
   ·cases this
   ·split at this
    ·cases this
    ·rename_i x y z
     exact ⟨by omega,Classical.not_not.1 y,Classical.not_not.1 (fun h=>z (.inl h)),Classical.not_not.1 (fun h=>z (.inr h))⟩
theorem dF (a b:Graph) (m:Morphism):ET a b m=some (M2 a b m):=by
 unfold ET M2
 rw [OD,bs,OD,bs]
 refine Ik fun ha=>Ik fun hb=>Qm (by simp; try omega) fun hl=>?_
 have ga:=FG ha
 have gb:=FG hb
 rw [C0 (LU a b m),GW]
 ·cases hn:fst (LU a b m) 0 m.Nodes.length with
  | some e=>rfl
  | none=>
   have hn2:=C1.1 hn
   dsimp only
   rw [C0 (Iu a b m),GP]
   intro i i1 i2 _
   unfold Iu
   rw [AF i1 i2,bs]
   by_cases h1:AB m.Edges i<0∨b.Edges.length<=AB m.Edges i
   ·rw [if_pos (by simpa using h1),if_pos h1]; rfl
   ·have hf:=ga.fit _ (AN (l:=a.Edges) i1 (by omega))
    rw [if_neg (by simpa using h1),if_neg h1,AF i1 (by omega),bs,AF (by omega) (by omega),bs]
    by_cases h2:(AB a.Edges i).Type'=(AB b.Edges (AB m.Edges i)).Type'
    ·rw [if_neg (by simpa using h2),if_neg (by simpa using h2),AF (by omega) (by omega),bs]
     by_cases h3:AB m.Nodes (AB a.Edges i).From=(AB b.Edges (AB m.Edges i)).From
     ·rw [if_neg (by simpa using h3),AF (by omega) (by omega),bs,bs]
      by_cases h4:AB m.Nodes (AB a.Edges i).To=(AB b.Edges (AB m.Edges i)).To
      ·rw [if_neg (by simpa using h4),if_neg (by simp [h3,h4])]; rfl
      ·rw [if_pos (by simpa using h4),if_pos (.inr h4)]; rfl
     ·rw [if_pos (by simpa using h3),bs,if_pos rfl,if_pos (.inl h3)]; rfl
    ·rw [if_pos (by simpa using h2),if_pos h2]; rfl
 ·intro i i1 i2 _
  unfold LU
  rw [AF i1 i2,bs]
  by_cases h1:AB m.Nodes i<0∨b.Nodes.length<=AB m.Nodes i
  ·rw [if_pos (by simpa using h1),if_pos h1]; rfl
  ·rw [if_neg (by simpa using h1),if_neg h1,AF (by omega) (by omega),bs,AF i1 (by omega),bs]
   by_cases h2:AB b.Nodes (AB m.Nodes i)=AB a.Nodes i
   ·rw [if_neg (by simpa using h2),if_neg (by simpa using h2)]; rfl
   ·rw [if_pos (by simpa using h2),if_pos h2]; rfl
theorem Vj {x y:Prop} [Decidable x] [Decidable y]:(if decide x=true then some true else some (decide y))=some (decide (x∨y)):=by
 by_cases hx:x <;> simp [hx]
theorem dJ (a b:Graph) (m:Morphism):KN a b m=some (M2 a b m):=by
 unfold KN M2
 rw [OF,bs,OF,bs]
 refine Ik fun ha=>Ik fun hb=>Qm (by simp; try omega) fun hl=>?_
 have ga:=FG ha
 have gb:=FG hb
 rw [show (a.Nodes.length:Int)=m.Nodes.length by omega,show (a.Edges.length:Int)=m.Edges.length by omega,C0 (LU a b m),GW]
 ·cases hn:fst (LU a b m) 0 m.Nodes.length with
  | some e=>rfl
  | none=>
   have hn2:=C1.1 hn
   dsimp only
   rw [C0 (Iu a b m),GP]
   intro i i1 i2 _
   unfold Iu
   rw [AF i1 i2]
   simp only [bs,Vj]
   by_cases h1:AB m.Edges i<0∨b.Edges.length<=AB m.Edges i
   ·rw [if_pos (by simpa using h1),if_pos h1]; rfl
   ·have hf:=ga.fit _ (AN (l:=a.Edges) i1 (by omega))
    rw [if_neg (by simpa using h1),if_neg h1,AF i1 (by omega),bs,AF (by omega) (by omega),bs]
    by_cases h2:(AB a.Edges i).Type'=(AB b.Edges (AB m.Edges i)).Type'
    ·rw [if_neg (by simpa using h2),if_neg (by simpa using h2),AF (by omega) (by omega),bs]
     by_cases h3:AB m.Nodes (AB a.Edges i).From=(AB b.Edges (AB m.Edges i)).From
     ·rw [if_neg (by simpa using h3),AF (by omega) (by omega),bs,bs]
      by_cases h4:AB m.Nodes (AB a.Edges i).To=(AB b.Edges (AB m.Edges i)).To
      ·rw [if_neg (by simpa using h4),if_neg (by simp [h3,h4])]; rfl
      ·rw [if_pos (by simpa using h4),if_pos (.inr h4)]; rfl
     ·rw [if_pos (by simpa using h3),bs,if_pos rfl,if_pos (.inl h3)]; rfl
    ·rw [if_pos (by simpa using h2),if_pos h2]; rfl
 ·intro i i1 i2 _
  unfold LU
  rw [AF i1 i2]
  simp only [bs,Vj]
  by_cases h1:AB m.Nodes i<0∨b.Nodes.length<=AB m.Nodes i
  ·rw [if_pos (by simpa using h1),if_pos h1]; rfl
  ·rw [if_neg (by simpa using h1),if_neg h1,AF (by omega) (by omega),bs,AF i1 (by omega),bs]
   by_cases h2:AB b.Nodes (AB m.Nodes i)=AB a.Nodes i
   ·rw [if_neg (by simpa using h2),if_neg (by simpa using h2)]; rfl
   ·rw [if_pos (by simpa using h2),if_pos h2]; rfl
def Mv (l:List Int):Bool:=!anyR (fun i=>anyR (fun j=>decide (AB l i=AB l j)) 0 i) 0 l.length
theorem Mw {l:List Int}:Mv l=true↔l.Nodup:=by
 unfold Mv
 rw [Bool.not_eq_true',D2]
 constructor
 ·intro h
  refine WR (fun i j h0 h1 h2=>?_)
  have:=h j (by omega) h2
  rw [D2] at this
  have:=this i h0 h1
  rw [decide_eq_false_iff_not] at this
  exact fun e=>this e.symm
 ·intro h i i1 i2
  rw [D2]
  intro j j1 j2
  rw [decide_eq_false_iff_not]
  exact fun e=>We h j1 j2 i2 e.symm
theorem dI (l:List Int):IK l=some (Mv l):=by
 unfold IK Mv
 rw [CD (fun i=>anyR (fun j=>decide (AB l i=AB l j)) 0 i) false]
 ·cases anyR (fun i=>anyR (fun j=>decide (AB l i=AB l j)) 0 i) 0 l.length <;> rfl
 ·intro i i1 i2 _
  rw [CD (fun j=>decide (AB l i=AB l j)) false]
  ·cases anyR (fun j=>decide (AB l i=AB l j)) 0 i <;> rfl
  ·intro j j1 j2 _
   rw [AF i1 i2,bs,AF j1 (by omega),bs,KZ]
theorem Vm {l:List Int} (hl:l.length<=1000):∃ k,Hv l=some k∧decide (k=(l.length:Int))=Mv l:=by
 have hs:(PK l).length=l.length:=(N1 l).length_eq
 refine ⟨((Go.Lib.compact (PK l)).length:Int),?_,?_⟩
 ·unfold Hv slices_Clone_int slices_Sort_int slices_Compact_int
  rw [DX (by unfold BA; omega),bs,if_pos (by unfold BA; omega),bs,if_pos (by rw [hs]; unfold BA; omega),bs]
 ·rw [Bool.eq_iff_iff,Mw,zzX,←(N1 l).nodup_iff,←Qn (OT l),hs]
  omega
def Ni (m:Morphism):Bool:=Mv m.Nodes&&Mv m.Edges
theorem oZ {a b:Graph} {m:Morphism} (h:M2 a b m=0):D1 a b m=some (Ni m):=by
 have ho:=dC h
 have:=ho.ga.nodes
 have:=ho.ga.edges
 have:=ho.nlen
 have:=ho.elen
 obtain ⟨k,k1,k2⟩:=Vm (l:=m.Nodes) (by omega)
 obtain ⟨j,j1,j2⟩:=Vm (l:=m.Edges) (by omega)
 unfold D1 Ni
 rw [dF,h,bs,if_pos (decide_eq_true rfl),k1]
 simp only [bs,j1,k2,j2]
 cases Mv m.Nodes <;> rfl
theorem od {a b:Graph} {m:Morphism} (h:M2 a b m=0):Iy a b m=some (Ni m):=by
 unfold Iy Ni
 rw [dJ,h,bs,if_pos (decide_eq_true rfl),dI]
 simp only [bs,dI]
 cases Mv m.Nodes <;> rfl
def SC (t:Types) (g:Graph) (i:Int):Bool:=QH t (AB g.Edges i).Type' (AB g.Nodes (AB g.Edges i).From) (AB g.Nodes (AB g.Edges i).To)
end Go.Sf.Sc
namespace Go.Sf.Sc
open Go Go.Sf
structure P1 (p:Pattern):Prop where
 nodes:p.Graph.Nodes.length<=45
 edges:p.Graph.Edges.length<=90
 slots:p.Slots.length<=15
 tests:p.Tests.length<=15
structure Xr (m:Morphism):Prop where
 nodes:m.Nodes.length<=140
 edges:m.Edges.length<=140
inductive CL:AA->Prop where
 | mk (c:AA) (hq:P1 c.Pattern) (hm:Xr c.Map) (hk:∀ k∈c.Kids,CL k):CL c
theorem CL.q {c:AA} (h:CL c):P1 c.Pattern:=by cases h; assumption
theorem CL.m {c:AA} (h:CL c):Xr c.Map:=by cases h; assumption
theorem CL.k {c:AA} (h:CL c):∀ k∈c.Kids,CL k:=by cases h; assumption
theorem D3 {c k:AA} (h:k∈c.Kids):SizeOf.sizeOf k<SizeOf.sizeOf c:=by
 have:=List.sizeOf_lt_of_mem h
 cases c
 simp only [AA.mk.sizeOf_spec] at *
 omega
theorem DO (c:AA):0<SizeOf.sizeOf c:=by
 cases c
 simp only [AA.mk.sizeOf_spec]
 omega
def Kc (c:AA):Bool:=decide (c.Map.Nodes.length=0∧c.Map.Edges.length=0∧c.Pattern.Graph.Nodes.length=0∧c.Pattern.Graph.Edges.length=0∧c.Pattern.Slots.length=0∧c.Pattern.Tests.length=0∧c.Pattern.Vars=0)
theorem iI {c:AA} (hf:CL c):FW c=some (Kc c):=by
 have h1:=hf.q
 have h2:=hf.m
 have:=h1.nodes
 have:=h1.edges
 have:=h1.slots
 have:=h1.tests
 have:=h2.nodes
 have:=h2.edges
 unfold FW Kc
 rw [AW (n:=(c.Map.Nodes.length:Int)+c.Map.Edges.length) (by omega) (by omega),AW (n:=(c.Map.Nodes.length:Int)+c.Map.Edges.length+c.Pattern.Graph.Nodes.length) (by omega) (by omega),
  AW (n:=(c.Map.Nodes.length:Int)+c.Map.Edges.length+c.Pattern.Graph.Nodes.length+c.Pattern.Graph.Edges.length) (by omega) (by omega),
  AW (n:=(c.Map.Nodes.length:Int)+c.Map.Edges.length+c.Pattern.Graph.Nodes.length+c.Pattern.Graph.Edges.length+c.Pattern.Slots.length) (by omega) (by omega),
  AW (n:=(c.Map.Nodes.length:Int)+c.Map.Edges.length+c.Pattern.Graph.Nodes.length+c.Pattern.Graph.Edges.length+c.Pattern.Slots.length+c.Pattern.Tests.length) (by omega) (by omega)]
 congr 1
 rw [Bool.eq_iff_iff]
 simp only [zzZ,zzX]
 omega
theorem bd {c:AA} (hf:CL c):IS c=some (Kc c):=by
 have h1:=hf.q
 have h2:=hf.m
 have:=h1.nodes
 have:=h1.edges
 have:=h1.slots
 have:=h1.tests
 have:=h2.nodes
 have:=h2.edges
 unfold IS Kc
 rw [AW (n:=(c.Map.Nodes.length:Int)+c.Map.Edges.length) (by omega) (by omega),AW (n:=(c.Map.Nodes.length:Int)+c.Map.Edges.length+c.Pattern.Graph.Nodes.length) (by omega) (by omega),
  AW (n:=(c.Map.Nodes.length:Int)+c.Map.Edges.length+c.Pattern.Graph.Nodes.length+c.Pattern.Graph.Edges.length) (by omega) (by omega),
  AW (n:=(c.Pattern.Slots.length:Int)+c.Pattern.Tests.length) (by omega) (by omega)]
 congr 1
 rw [Bool.eq_iff_iff]
 simp only [zzZ,zzX]
 omega
def N0 (c:AA):Bool:=
 if c.Kind=1 then decide (c.Kids.length=0)&&Kc c else if c.Kind=2 then decide (c.Kids.length=1)&&Kc c else
 if c.Kind=3∨c.Kind=4 then decide (1<=c.Kids.length)&&Kc c else if c.Kind=5 then decide (c.Kids.length=1) else false
def KG:Nat->AA->Bool
 | 0,_=>false
 | n+1,c=>N0 c&&c.Kids.all (KG n)
theorem iU:∀ (N:Nat) (c:AA),SizeOf.sizeOf c<=N->CL c->∀ n,2*N<=n->BO n c=some (KG N c)
 | 0,c,h,_,_,_=>by have:=DO c; omega
 | N+1,c,h,hf,n,hn=>by
  obtain ⟨n,rfl⟩:∃ m,n=m+2:=⟨n - 2,by omega⟩
  rw [BO,KG,iI hf]
  have hk:BC c.Kids (BR (n+1))=some (!c.Kids.all (KG N)):=by
   rw [Q4 (p:=fun k=>!KG N k) (fun k hk=>by
    have:=D3 hk
    rw [BR,iU N k (by omega) (hf.k k hk) n (by omega)]; rfl),List.all_eq_not_any_not,Bool.not_not]
  rw [hk]
  unfold N0
  simp only [bs,zzX]
  generalize Kc c=b
  generalize c.Kids.all (KG N)=w
  have e0:decide ((c.Kids.length:Int)=0)=decide (c.Kids.length=0):=by rw [decide_eq_decide]; omega
  have e1:decide ((c.Kids.length:Int)=1)=decide (c.Kids.length=1):=by rw [decide_eq_decide]; omega
  have e2:decide (1<=(c.Kids.length:Int))=decide (1<=c.Kids.length):=by rw [decide_eq_decide]; omega
  simp only [show ((c.Kids.length:Int)=0)↔c.Kids.length=0 by omega,show ((c.Kids.length:Int)=1)↔c.Kids.length=1 by omega,show (1<=(c.Kids.length:Int))↔1<=c.Kids.length by omega]
  by_cases k1:c.Kind=1
  ·rw [if_pos k1,if_pos k1]
   by_cases h0:c.Kids.length=0 <;> cases b <;> cases w <;> simp [h0]
  ·rw [if_neg k1,if_neg k1]
   by_cases k2:c.Kind=2
   ·rw [if_pos k2,if_pos k2]
    by_cases h0:c.Kids.length=1 <;> cases b <;> cases w <;> simp [h0]
   ·rw [if_neg k2,if_neg k2]
    by_cases k3:c.Kind=3
    ·simp only [k3,if_true,true_or]
     by_cases h0:1<=c.Kids.length <;> cases b <;> cases w <;> simp [h0]
    ·by_cases k4:c.Kind=4
     ·simp only [k4,if_true,or_true,show ¬ (4:Int)=3 by decide,if_false]
      by_cases h0:1<=c.Kids.length <;> cases b <;> cases w <;> simp [h0]
     ·simp only [k3,k4,if_false,or_false]
      by_cases k5:c.Kind=5
      ·rw [if_pos k5,if_pos k5]
       by_cases h0:c.Kids.length=1 <;> cases w <;> simp [h0]
      ·rw [if_neg k5,if_neg k5]
       cases w <;> rfl
theorem ib {c:AA} (hf:CL c):Li c=some (N0 c):=by
 unfold Li N0
 rw [bd hf]
 simp only [bs,zzX]
 generalize Kc c=b
 simp only [show ((c.Kids.length:Int)=0)↔c.Kids.length=0 by omega,show ((c.Kids.length:Int)=1)↔c.Kids.length=1 by omega,show (0<(c.Kids.length:Int))↔1<=c.Kids.length by omega]
 by_cases k1:c.Kind=1
 ·rw [if_pos k1,if_pos k1]
  by_cases h0:c.Kids.length=0 <;> cases b <;> simp [h0]
 ·rw [if_neg k1,if_neg k1]
  by_cases k2:c.Kind=2
  ·rw [if_pos k2,if_pos k2]
   by_cases h0:c.Kids.length=1 <;> cases b <;> simp [h0]
  ·rw [if_neg k2,if_neg k2]
   by_cases k3:c.Kind=3
   ·simp only [k3,if_true,true_or,decide_true,bs]
    by_cases h0:1<=c.Kids.length <;> cases b <;> simp [h0]
   ·by_cases k4:c.Kind=4
    ·simp only [k4,if_true,or_true,show ¬ (4:Int)=3 by decide,if_false,decide_true,bs]
     by_cases h0:1<=c.Kids.length <;> cases b <;> simp [h0]
    ·simp only [k3,k4,if_false,or_false,decide_false,bs,Bool.false_eq_true]
     by_cases k5:c.Kind=5
     ·rw [if_pos k5,if_pos k5]
     ·rw [if_neg k5,if_neg k5]
theorem gc {α:Type} [Inhabited α] {l:List α} {p:α->Bool}:l.all p=!anyR (fun i=>!p (AB l i)) 0 l.length:=by
 rw [List.all_eq_not_any_not,J6]
theorem dH:∀ (N:Nat) (c:AA),SizeOf.sizeOf c<=N->CL c->∀ n,N<=n->FD n c=some (KG N c)
 | 0,c,h,_,_,_=>by have:=DO c; omega
 | N+1,c,h,hf,n,hn=>by
  obtain ⟨n,rfl⟩:∃ m,n=m+1:=⟨n - 1,by omega⟩
  rw [FD,KG,ib hf,bs,gc,CD (fun i=>!KG N (AB c.Kids i)) false]
  ·cases N0 c
   ·rfl
   ·cases anyR (fun i=>!KG N (AB c.Kids i)) 0 c.Kids.length <;> rfl
  ·intro i i1 i2 _
   have hm:=AN (l:=c.Kids) i1 i2
   have:=D3 hm
   rw [AF i1 i2,bs,dH N _ (by omega) (hf.k _ hm) n (by omega),bs,KZ]
noncomputable def Xk (c:AA):Bool:=KG (SizeOf.sizeOf c) c
theorem ob {c:AA} (hf:CL c):GH c=some (Xk c):=E2 (2*SizeOf.sizeOf c) fun n hn=>iU _ c (Nat.le_refl _) hf n hn
theorem oj {c:AA} (hf:CL c):M6 c=some (Xk c):=E2 (SizeOf.sizeOf c) fun n hn=>dH _ c (Nat.le_refl _) hf n hn
def Jt:Nat->AA->Int × Int
 | 0,_=>(0,0)
 | n+1,c=>
  let s:=c.Kids.foldl (fun s k=>(AJ (s.1+(Jt n k).1),max s.2 (Jt n k).2)) ((1,0):Int × Int)
  (s.1,if c.Kind=5 then AJ (s.2+1) else s.2)
theorem UD {α σ:Type} [Inhabited α] {l:List α} {g:σ->α->σ} {s:σ} {f:Int->σ->Option σ} (h:∀ (i:Int) s,0<=i->i<l.length->f i s=some (g s (AB l i))):forA f 0 l.length s=some (l.foldl g s):=by
 rw [IH (fun i=>(l.take i.toNat).foldl g s) (by omega) (by simp)]
 ·rw [Int.toNat_natCast,List.take_length]
 ·intro i i1 i2
  rw [h i _ i1 i2,HY i1 i2,List.foldl_append]; rfl
theorem Zf:∀ (N:Nat) (c:AA),SizeOf.sizeOf c<=N->∀ n,N<=n->CU n c=some (Jt N c)
 | 0,c,h,_,_=>by have:=DO c; omega
 | N+1,c,h,n,hn=>by
  obtain ⟨n,rfl⟩:∃ m,n=m+1:=⟨n - 1,by omega⟩
  rw [CU,Jt,UD (g:=fun s k=>(AJ (s.1+(Jt N k).1),max s.2 (Jt N k).2))]
  ·simp only [bs,zzX]
   by_cases h5:c.Kind=5
   ·rw [if_pos h5,if_pos h5]; rfl
   ·rw [if_neg h5,if_neg h5]; rfl
  ·intro i s i1 i2
   have:=D3 (AN (l:=c.Kids) i1 i2)
   rw [AF i1 i2,bs,Zf N _ (by omega) n (by omega)]; rfl
theorem Zv:∀ (N:Nat) (c:AA),SizeOf.sizeOf c<=N->∀ n,N<=n->FY n c=some (Jt N c)
 | 0,c,h,_,_=>by have:=DO c; omega
 | N+1,c,h,n,hn=>by
  obtain ⟨n,rfl⟩:∃ m,n=m+1:=⟨n - 1,by omega⟩
  rw [FY,Jt,UD (g:=fun s k=>(AJ (s.1+(Jt N k).1),max s.2 (Jt N k).2))]
  ·simp only [bs,zzX]
   by_cases h5:c.Kind=5
   ·rw [if_pos h5,if_pos h5]; rfl
   ·rw [if_neg h5,if_neg h5]; rfl
  ·intro i s i1 i2
   have:=D3 (AN (l:=c.Kids) i1 i2)
   rw [AF i1 i2,bs,Zv N _ (by omega) n (by omega)]; rfl
noncomputable def N2 (c:AA):Int × Int:=Jt (SizeOf.sizeOf c) c
noncomputable def I0 (c:AA):Int:=if Xk c=false then 1 else if 12<(N2 c).1∨3<(N2 c).2 then 3 else 0
theorem XO {c:AA} (hf:CL c):EF c=some (I0 c):=by
 unfold EF I0
 rw [ob hf,bs,show H3 c=some (N2 c) from E2 (SizeOf.sizeOf c) fun n hn=>Zf _ c (Nat.le_refl _) n hn,bs]
 exact Ws fun _=>Qm (by simp) fun _=>rfl
theorem fI {c:AA} (hf:CL c):Lg c=some (I0 c):=by
 unfold Lg I0
 rw [oj hf,bs,show Np c=some (N2 c) from E2 (SizeOf.sizeOf c) fun n hn=>Zv _ c (Nat.le_refl _) n hn,bs]
 exact Ws fun _=>Qm (by simp) fun _=>rfl
theorem Sv (g:Graph):C6 g≠9:=by
 unfold C6
 split
 ·decide
 ·split
  ·decide
  ·split <;> decide
theorem QX {t:Types} {p:Pattern} (ht:(A7 t).2=0) (h:Ic t p=0∨Ic t p=9):0<=p.Vars∧p.Vars<=12:=by
 have hg:=Sv p.Graph
 unfold Ic at h
 rw [if_neg (by simp [ht])] at h
 split at h
 ·omega
 ·split at h
  ·omega
  ·split at h
   ·omega
   ·omega
def M0 (t:Types) (q:Pattern) (v:Int):Int:=if Ic t q≠9 then Ic t q else if anyR (fun i=>!Kt q i) v q.Vars=true then 9 else 0
theorem pv {α:Type} {P:Prop} [Decidable P] {v:α} {X:Option α} {Y:α} (h:P->X=some Y):(if (!decide P)=true then some v else X)=some (if ¬ P then v else Y):=by
 by_cases hp:P
 ·simp [hp,h hp]
 ·simp [hp]
theorem oa {t:Types} (hf:BW t) (ht:(A7 t).2=0) {q:Pattern} {v:Int} (h0:0<=v) (h1:v<=q.Vars):EB t q v=some (M0 t q v):=by
 unfold EB M0
 rw [Ui hf,bs]
 refine pv fun h9=>?_
 have hv:=QX ht (.inr h9)
 rw [P0 (c:=fun i=>(if (!Kt q i)=true then some () else none).map fun _=>.inr 9) (a:=v) (b:=q.Vars) h1]
 ·rw [Rf,PI]
  cases anyR (fun i=>!Kt q i) v q.Vars <;> rfl
 ·intro i i1 i2 _
  rw [if_pos (by simpa using i2),show (fun y0=>IX y0 i)=(fun y=>some (decide (y.Term.Var=i))) from rfl,dx,bs,show (q.Slots.any fun y=>decide (y.Term.Var=i))=Kt q i from rfl,h9,AW (by omega) (by omega)]
  cases Kt q i <;> rfl
 ·rw [if_neg (by simp)]
theorem fH (p:Pattern) (v:Int):Mh p v=some (Kt p v):=dL p v
theorem oe {t:Types} (hf:BW t) (q:Pattern) (v:Int):Lh t v q=some (if q.Vars<v then 20 else M0 t q v):=by
 unfold Lh M0
 refine Qm (by simp) fun _=>?_
 rw [TD hf,bs]
 refine pv fun h9=>?_
 rw [h9,CD (fun i=>!Kt q i) 9]
 ·cases anyR (fun i=>!Kt q i) v q.Vars <;> rfl
 ·intro i i1 i2 _
  rw [fH,bs,KZ]
def GZ:Nat->Types->Pattern->AA->Int
 | 0,_,_,_=>0
 | N+1,t,p,c=>
  if c.Kind=5 then
   if c.Pattern.Vars<p.Vars then 20 else if M0 t c.Pattern p.Vars≠0 then M0 t c.Pattern p.Vars else
   if M2 p.Graph c.Pattern.Graph c.Map≠0 then M2 p.Graph c.Pattern.Graph c.Map else if Ni c.Map=false then 1 else
   (fst (fun i=>nz (GZ N t c.Pattern (AB c.Kids i))) 0 c.Kids.length).getD 0
  else (fst (fun i=>nz (GZ N t p (AB c.Kids i))) 0 c.Kids.length).getD 0
theorem a7 {t:Types} (ht:(A7 t).2=0) {q:Pattern} {v:Int} (h:M0 t q v=0):0<=q.Vars:=by
 unfold M0 at h
 split at h
 ·exact (QX ht (.inl h)).1
 ·rename_i h9
  exact (QX ht (.inr (Classical.not_not.1 h9))).1
theorem Zh {t:Types} (hf:BW t) (ht:(A7 t).2=0):∀ (N:Nat) (c:AA) (p:Pattern),0<=p.Vars->SizeOf.sizeOf c<=N->∀ n,N<=n->CE n t p c=some (GZ N t p c)
 | 0,c,p,_,h,_,_=>by have:=DO c; omega
 | N+1,c,p,hp,h,n,hn=>by
  obtain ⟨n,rfl⟩:∃ m,n=m+1:=⟨n - 1,by omega⟩
  rw [CE,GZ]
  have hkids:∀ q:Pattern,0<=q.Vars->(thenR (forR (ρ:=Int) (fun (i0:Int) (_:Unit)=>
    (AH c.Kids i0).bind fun x55=>
    (CE n t q x55).bind fun x60=>
    if (!decide (x60=0))=true then
    some (.ret x60)
    else
    some (.next ())) 0 (c.Kids.length:Int) ()) (fun _=>
    some 0) (fun v0=>some v0))=some ((fst (fun i=>nz (GZ N t q (AB c.Kids i))) 0 c.Kids.length).getD 0):=by
   intro q hq
   rw [C0 (fun i=>nz (GZ N t q (AB c.Kids i))),GP]
   intro i i1 i2 _
   have:=D3 (AN (l:=c.Kids) i1 i2)
   rw [AF i1 i2,bs,Zh hf ht N _ q hq (by omega) n (by omega),bs,Pr]
  by_cases h5:c.Kind=5
  ·rw [if_pos (by simpa using h5),if_pos h5]
   refine Qm (by simp) fun hv=>?_
   rw [oa hf ht hp (by omega),bs]
   refine Ik fun hi=>?_
   rw [dF,bs]
   refine Ik fun hm=>?_
   rw [oZ hm,bs]
   exact Ws fun _=>hkids _ (a7 ht hi)
  ·rw [if_neg (by simpa using h5),if_neg h5]
   exact hkids p hp
theorem Zw {t:Types} (hf:BW t):∀ (N:Nat) (c:AA) (p:Pattern),SizeOf.sizeOf c<=N->∀ n,N<=n->F9 n t p c=some (GZ N t p c)
 | 0,c,p,h,_,_=>by have:=DO c; omega
 | N+1,c,p,h,n,hn=>by
  obtain ⟨n,rfl⟩:∃ m,n=m+1:=⟨n - 1,by omega⟩
  rw [F9,GZ]
  have hkids:∀ q:Pattern,(thenR (forR (ρ:=Int) (fun (i0:Int) (_:Unit)=>
    (AH c.Kids i0).bind fun x55=>
    (F9 n t q x55).bind fun x60=>
    if (!decide (x60=0))=true then
    some (.ret x60)
    else
    some (.next ())) 0 (c.Kids.length:Int) ()) (fun _=>
    some 0) (fun v0=>some v0))=some ((fst (fun i=>nz (GZ N t q (AB c.Kids i))) 0 c.Kids.length).getD 0):=by
   intro q
   rw [C0 (fun i=>nz (GZ N t q (AB c.Kids i))),GP]
   intro i i1 i2 _
   have:=D3 (AN (l:=c.Kids) i1 i2)
   rw [AF i1 i2,bs,Zw hf N _ q (by omega) n (by omega),bs,Pr]
  by_cases h5:c.Kind=5
  ·rw [if_pos (by simpa using h5),if_pos h5,oe hf,bs]
   by_cases hv:c.Pattern.Vars<p.Vars
   ·simp [hv]
   ·simp only [if_neg hv]
    refine Ik fun hi=>?_
    rw [dJ,bs]
    refine Ik fun hm=>?_
    rw [od hm,bs]
    exact Ws fun _=>hkids _
  ·rw [if_neg (by simpa using h5),if_neg h5]
   exact hkids p
noncomputable def G9 (t:Types) (p:Pattern) (c:AA):Int:=if Ic t p≠0 then Ic t p else if I0 c≠0 then I0 c else GZ (SizeOf.sizeOf c) t p c
theorem iJ {t:Types} (hf:BW t) (ht:(A7 t).2=0) (p:Pattern) {c:AA} (hc:CL c):D0 t p c=some (G9 t p c):=by
 unfold D0 G9
 rw [Ui hf,bs]
 refine Ik fun h=>?_
 rw [XO hc,bs,Option.bind_fun_some]
 exact Ik fun _=>E2 (SizeOf.sizeOf c) fun n hn=>Zh hf ht _ c p (QX ht (.inl h)).1 (Nat.le_refl _) n hn
theorem Zs {t:Types} (hf:BW t) (p:Pattern) {c:AA} (hc:CL c):KT t p c=some (G9 t p c):=by
 unfold KT G9
 rw [TD hf,bs]
 refine Ik fun h=>?_
 rw [fI hc,bs,Option.bind_fun_some]
 exact Ik fun _=>E2 (SizeOf.sizeOf c) fun n hn=>Zw hf _ c p (Nat.le_refl _) n hn
end Go.Sf.Sc
namespace Go.Sf.Sc
open Go Go.Sf
def leafB (t:Types) (l:List Int):Bool:=!(l.any fun k=>t.Nodes.any fun n=>decide (n.Parent=k))
end Go.Sf.Sc
namespace Go.Sf
theorem Rs {ρ:Type} {f:Int->Option (B9 Int ρ)} (p:Int->Bool) (v:ρ) {a b:Int} (hab:a<=b) (h:∀ i,a<=i->i<b->f i=some (if p i=true then .ret v else .next (i+1))) (hb:f b=some (.brk b)):FP f a=some (if anyR p a b=true then .inr v else .inl b):=by
 rw [P0 (c:=fun i=>(if p i=true then some () else none).map fun _=>.inr v) hab]
 ·rw [Rf,PI]
  cases anyR p a b <;> rfl
 ·intro i h1 h2 _
  rw [h i h1 h2]
  cases p i <;> rfl
 ·exact hb
theorem OA {α:Type} {e:α->TV} {n:Nat} {l:List α} (h:TV.Sm (.list n (l.map e))):(l.length:Int)<=140737488351232∧∀ x∈l,(e x).Sm:=by
 simp only [TV.Sm,List.length_map] at h
 refine ⟨by have:=h.1; unfold reachBytes at this; omega,fun x hx=>Pw.1 h.2 _ (List.mem_map.2 ⟨x,hx,rfl⟩)⟩
end Go.Sf
namespace Go.Sf.Sc
open Go Go.Sf
def U0 (a:Attr):Bool:=(decide (40<(a.Name.size:Int))||decide (25<(a.Names.length:Int)))||anyR (fun i=>decide (40<((AB a.Names i).size:Int))) 0 a.Names.length
theorem ai {a:Attr} (h:U0 a=false):Qt a:=by
 unfold U0 at h
 simp only [Bool.or_eq_false_iff,decide_eq_false_iff_not,D2] at h
 refine ⟨by omega,by omega,fun x hx=>?_⟩
 obtain ⟨i,i1,i2,rfl⟩:=E3 hx
 have:=h.2 i i1 i2
 omega
theorem ZK {t:Types} (hs:(AU t).Sm):∃ b,NX t=some b∧(b=true->BW t):=by
 have hs':TV.Sms [_,_]:=hs
 obtain ⟨hn,hn2⟩:=OA (e:=H8) hs'.1
 unfold NX
 by_cases hl:20<t.Nodes.length∨30<t.Edges.length
 ·rw [if_pos (by simp; omega)]
  exact ⟨false,rfl,fun h=>by cases h⟩
 rw [if_neg (by simp; omega)]
 rcases VM (f:=(fun (i0:Int) (s0:Int)=>
 (AH t.Nodes i0).bind fun x30=>
 (if (decide (30<(AJ (s0+(x30.Attrs.length:Int)))))=true then some true else ((AH t.Nodes i0).bind fun x41=>
 some (decide (40<(x41.Name.size:Int))))).bind fun x46=>
 if x46=true then
 some (B9.ret false)
 else
 thenR (FP (ρ:=Bool) (fun (s2:Int)=>
 (AH t.Nodes i0).bind fun x51=>
 if (decide (s2<(x51.Attrs.length:Int)))=true then
 (AH t.Nodes i0).bind fun x61=>
 (AH x61.Attrs s2).bind fun x65=>
 if ((decide (40<(x65.Name.size:Int)))||(decide (25<(x65.Names.length:Int))))=true then
 some (.ret false)
 else
 thenR (FP (ρ:=Bool) (fun (s4:Int)=>
 if (decide (s4<(x65.Names.length:Int)))=true then
 (AH x65.Names s4).bind fun x87=>
 if (decide (40<(x87.size:Int)))=true then
 some (.ret false)
 else
 some (.next (AJ (s4+1)))
 else
 some (.brk s4)) 0) (fun s4=>
 some (.next (AJ (s2+1)))) (fun v4=>some (.ret v4))
 else
 some (.brk s2)) 0) (fun s2=>
 some (.next (AJ (s0+(x30.Attrs.length:Int))))) (fun v2=>some (.ret v2))))
  (fun i s=>0<=s∧s<=30∧∀ j,0<=j->j<i->((AB t.Nodes j).Name.size:Int)<=40∧(AB t.Nodes j).Attrs.length<=30∧∀ a∈(AB t.Nodes j).Attrs,Qt a) (fun _=>False) (fun r=>r=false) (a:=0) (b:=t.Nodes.length) (s:=0) (by omega) ⟨by omega,by omega,fun j h1 h2=>by omega⟩ (fun i s i1 i2 hI=>by
   have hx:=hn2 _ (AN (l:=t.Nodes) i1 i2)
   have hx':TV.Sms [_,_,_,_]:=hx
   obtain ⟨ha,ha2⟩:=OA (e:=Ip) hx'.2.2.2.1
   obtain ⟨hI1,hI2,hI3⟩:=hI
   have hw:AJ (s+(AB t.Nodes i).Attrs.length)=s+(AB t.Nodes i).Attrs.length:=AW (by omega) (by omega)
   simp only [AF i1 i2,bs,hw,Vj]
   by_cases hc:30<s+(AB t.Nodes i).Attrs.length∨40<((AB t.Nodes i).Name.size:Int)
   ·rw [if_pos (by simpa using hc)]
    exact .inr (.inr ⟨_,rfl,rfl⟩)
   rw [if_neg (by simpa using hc)]
   rw [Rs (fun j=>U0 (AB (AB t.Nodes i).Attrs j)) false (b:=(AB t.Nodes i).Attrs.length) (by omega)]
   ·cases hb:anyR (fun j=>U0 (AB (AB t.Nodes i).Attrs j)) 0 (AB t.Nodes i).Attrs.length
    ·refine .inl ⟨_,rfl,by omega,by omega,fun j j1 j2=>?_⟩
     by_cases hj:j=i
     ·subst hj
      refine ⟨by omega,by omega,fun a ha=>?_⟩
      obtain ⟨k,k1,k2,rfl⟩:=E3 ha
      exact ai (D2.1 hb k k1 k2)
     ·exact hI3 j j1 (by omega)
    ·exact .inr (.inr ⟨_,rfl,rfl⟩)
   ·intro j j1 j2
    rw [if_pos (by simpa using j2),AF j1 j2,bs]
    have hy:=ha2 _ (AN (l:=(AB t.Nodes i).Attrs) j1 j2)
    have hy':TV.Sms [_,_,_,_]:=hy
    obtain ⟨hm,_⟩:=OA (e:=eS) hy'.2.2.2.1
    unfold U0
    cases h1:(decide (40<((AB (AB t.Nodes i).Attrs j).Name.size:Int))||decide (25<((AB (AB t.Nodes i).Attrs j).Names.length:Int)))
    ·rw [if_neg (by decide),Rs (fun k=>decide (40<((AB (AB (AB t.Nodes i).Attrs j).Names k).size:Int))) false (b:=(AB (AB t.Nodes i).Attrs j).Names.length) (by omega)]
     ·cases anyR (fun k=>decide (40<((AB (AB (AB t.Nodes i).Attrs j).Names k).size:Int))) 0 (AB (AB t.Nodes i).Attrs j).Names.length
      ·rw [Bool.or_false,AW (show -9223372036854775808<=j+1 by omega) (by omega)]; rfl
      ·rfl
     ·intro k k1 k2
      rw [if_pos (by simpa using k2),AF k1 k2,bs,AW (show -9223372036854775808<=k+1 by omega) (by omega),KZ]
     ·rw [if_neg (by simp)]
    ·rfl
   ·rw [if_neg (by simp)]) with ⟨s',h1,h2⟩ | ⟨r,h1,h2⟩
 ·rw [h1]
  rcases h2 with h2 | h2
  ·rw [C9,CD (fun i=>decide (40<((AB t.Edges i).Name.size:Int))) false]
   ·cases hb:anyR (fun i=>decide (40<((AB t.Edges i).Name.size:Int))) 0 t.Edges.length
    ·refine ⟨true,rfl,fun _=>⟨by omega,by omega,fun n hn=>?_,fun n hn=>?_,fun n hn=>?_,fun e he=>?_⟩⟩
     ·obtain ⟨k,k1,k2,rfl⟩:=E3 hn
      exact (h2.2.2 k k1 k2).1
     ·obtain ⟨k,k1,k2,rfl⟩:=E3 hn
      exact (h2.2.2 k k1 k2).2.1
     ·obtain ⟨k,k1,k2,rfl⟩:=E3 hn
      exact (h2.2.2 k k1 k2).2.2
     ·obtain ⟨k,k1,k2,rfl⟩:=E3 he
      have:=D2.1 hb k k1 k2
      simpa using this
    ·exact ⟨false,rfl,fun h=>by cases h⟩
   ·intro i i1 i2 _
    rw [AF i1 i2,bs,KZ]
  ·exact h2.elim
 ·rw [h1]
  subst h2
  exact ⟨false,rfl,fun h=>by cases h⟩
theorem W4 (p:Pattern):∃ b,L5 p=some b∧(b=true->P1 p):=by
 refine ⟨_,rfl,fun h=>?_⟩
 simp only [zzZ,zzX] at h
 exact ⟨by omega,by omega,by omega,by omega⟩
theorem eK {a b:Int} (ha:0<=a) (ha2:a<=140737488351232) (hb:0<=b) (hb2:b<=140737488351232):AJ (a+b)=a+b:=AW (by omega) (by omega)
theorem eJ {m:Morphism} (hs:(BU m).Sm):∃ b,PU m 140=some b∧(b=true->Xr m):=by
 have hs':TV.Sms [_,_]:=hs
 have h1:=(OA (e:=eI) hs'.1).1
 have h2:=(OA (e:=eI) hs'.2.1).1
 refine ⟨_,rfl,fun h=>?_⟩
 rw [eK (by omega) h1 (by omega) h2] at h
 simp only [zzX] at h
 exact ⟨by omega,by omega⟩
theorem d8 {c:AA} (h:(AG c).Sm):(BU c.Map).Sm∧(c.Kids.length:Int)<=140737488351232∧∀ k∈c.Kids,(AG k).Sm:=by
 have h':TV.Sms [_,_,_,_,_,_,_,_,_]:=h
 obtain ⟨_,h2,h3,h4,_⟩:=h'
 rw [ML] at h2
 obtain ⟨k1,k2⟩:=OA h2
 exact ⟨⟨h3,h4,trivial⟩,k1,k2⟩
end Go.Sf.Sc
