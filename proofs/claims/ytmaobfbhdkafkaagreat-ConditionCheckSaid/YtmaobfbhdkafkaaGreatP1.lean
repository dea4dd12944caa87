/- Plain lemmas: what the functions of the program and of the reference compute. -/
import Derived.Test.YtmaobfbhdkafkaaGreatSfRead
import Derived.Test.YtmaobfbhdkafkaaGreatFns
import Derived.Test.YtmaobfbhdkafkaaGreatSfPl
set_option maxRecDepth 100000
namespace Go.Sf
theorem Ro {ρ τ:Type} {d:Int->Option ρ} {g:ρ->τ}:∀ (n:Nat) (a:Int),FZ (fun i=>(d i).map g) n a=(FZ d n a).map g
 | 0,_=>rfl
 | n+1,a=>by
  rw [FZ,FZ]
  cases d a with
  | some r=>rfl
  | none=>exact Ro n (a+1)
theorem Mk {ρ τ:Type} {d:Int->Option ρ} {g:ρ->τ} {a b:Int}:fst (fun i=>(d i).map g) a b=(fst d a b).map g:=Ro _ _
theorem Qv {ρ:Type} {d:Int->Option ρ} {r:ρ}:∀ {n:Nat} {a:Int},FZ d n a=some r->∃ i,a<=i∧i<a+n∧d i=some r∧∀ j,a<=j->j<i->d j=none
 | 0,_,h=>by cases h
 | n+1,a,h=>by
  rw [FZ] at h
  cases hd:d a with
  | some r'=>
   rw [hd] at h
   exact ⟨a,Int.le_refl _,by omega,by rw [hd]; exact h,fun j h1 h2=>by omega⟩
  | none=>
   rw [hd] at h
   obtain ⟨i,h1,h2,h3,h4⟩:=Qv h
   refine ⟨i,by omega,by omega,h3,fun j k1 k2=>?_⟩
   by_cases hj:j=a
   ·subst hj; exact hd
   ·exact h4 j (by omega) k2
theorem EY {ρ:Type} {d:Int->Option ρ} {r:ρ} {a b:Int} (h:fst d a b=some r):∃ i,a<=i∧i<b∧d i=some r∧∀ j,a<=j->j<i->d j=none:=by
 obtain ⟨i,h1,h2,h3,h4⟩:=Qv h
 exact ⟨i,h1,by omega,h3,h4⟩
def KG (p:Int->Bool) (s:ByteArray):Int:=(fst (fun i=>if p (bt s i) then none else some i) 0 s.size).getD s.size
theorem Pf (p:Int->Bool) (s:ByteArray):0<=KG p s∧KG p s<=s.size∧(∀ j,0<=j->j<KG p s->p (bt s j)=true)∧(KG p s<s.size->p (bt s (KG p s))=false):=by
 unfold KG
 cases h:fst (fun i=>if p (bt s i) then none else some i) 0 s.size with
 | none=>
  rw [DP] at h
  simp only [Option.getD]
  refine ⟨by omega,by omega,fun j h1 h2=>?_,fun h1=>by omega⟩
  have:=h j h1 h2
  cases hp:p (bt s j)
  ·simp [hp] at this
  ·rfl
 | some r=>
  obtain ⟨i,h1,h2,h3,h4⟩:=EY h
  have hi:p (bt s i)=false∧i=r:=by
   cases hp:p (bt s i) <;> simp [hp] at h3
   exact ⟨rfl,h3⟩
  obtain ⟨hi,rfl⟩:=hi
  simp only [Option.getD]
  refine ⟨h1,by omega,fun j k1 k2=>?_,fun _=>hi⟩
  have:=h4 j k1 k2
  cases hp:p (bt s j)
  ·simp [hp] at this
  ·rfl
theorem Tj {s:ByteArray} (h:s≠⟨#[]⟩):0<s.size:=by
 rcases Nat.eq_zero_or_pos s.size with h0 | h0
 ·exfalso; apply h
  cases s with | mk d=>congr 1; exact Array.eq_empty_of_size_eq_zero h0
 ·exact h0
end Go.Sf
namespace Go.Sf.Sc
open Go Go.Sf
def GF (c:Int):Bool:=((decide (97<=c))&&(decide (c<=122)))||((decide (65<=c))&&(decide (c<=90)))
def digitB (c:Int):Bool:=(decide (48<=c))&&(decide (c<=57))
def NP (c:Int):Bool:=GF c||digitB c||decide (c=95)
theorem TQ (c:Int):Jy c=some (GF c):=rfl
theorem RR (c:Int):JY c=some (digitB c):=rfl
theorem TZ (c:Int):Jr c=some (GF c):=rfl
theorem Uk (c:Int):IU c=some (digitB c):=rfl
theorem cQ (c:Int):LZ c=some (NP c):=by
 unfold LZ NP
 rw [TQ,bs,RR]
 cases GF c <;> cases digitB c <;> rfl
theorem VQ {s:ByteArray} (hs:(s.size:Int)<=4611686018427387904) {ok:Int->Option Bool} {p:Int->Bool} (h:∀ c,ok c=some (p c)):Hg s ok=some (KG p s):=by
 unfold Hg
 rw [Nw (c:=fun i=>(if p (bt s i) then none else some i).map .inl) (a:=0) (b:=s.size) (by omega)]
 ·rw [Mk]
  unfold KG
  cases fst (fun i=>if p (bt s i)=true then none else some i) 0 s.size <;> rfl
 ·intro i h1 h2 _
  simp only [h2,decide_true,if_true,Ms h1 h2,bs,h]
  cases p (bt s i)
  ·simp [H3]
  ·simp [H3,BI (show -9223372036854775808<=i+1 by omega) (by omega)]
 ·simp
def F8 (s:ByteArray):Bool:=decide (0<s.size)&&GF (bt s 0)&&decide (s.size<=20)&&decide (KG NP s=s.size)
theorem RQ (l:List ByteArray) (v:ByteArray):∃ k,GL l v=some k∧(0<=k↔v∈l):=by
 unfold GL
 rw [CF (fun i=>if (v==AA l i)=true then some i else none)]
 ·cases h:fst (fun i=>if (v==AA l i)=true then some i else none) 0 l.length with
  | none=>
   rw [DP] at h
   refine ⟨-1,rfl,by omega,fun hm=>?_⟩
   obtain ⟨i,h1,h2,h3⟩:=FF hm
   have:=h i h1 h2
   rw [h3,if_pos (beq_self_eq_true v)] at this
   cases this
  | some k=>
   obtain ⟨i,h1,h2,h3,_⟩:=EY h
   have h4:(v==AA l i)=true∧i=k:=by
    by_cases hv:(v==AA l i)=true
    ·rw [if_pos hv] at h3; exact ⟨hv,by simpa using h3⟩
    ·rw [if_neg hv] at h3; cases h3
   obtain ⟨h4,rfl⟩:=h4
   refine ⟨i,rfl,fun _=>?_,fun _=>h1⟩
   rw [eq_of_beq h4]; exact AO h1 h2
 ·intro i h1 h2 _
  simp only [AF h1 h2,bs]
  split <;> rfl
theorem MU (l:List ByteArray) (v:ByteArray):D4 l v=some (l.contains v):=by
 unfold D4
 obtain ⟨k,h1,h2⟩:=RQ l v
 rw [h1,bs]
 congr 1
 rw [Bool.eq_iff_iff,decide_eq_true_eq,h2,List.contains_iff_mem]
theorem cO {s:ByteArray} (h0:0<s.size) (hs:(s.size:Int)<=4611686018427387904):∃ k n e,IM s=some (k,n,e)∧(((decide (e=0))&&(decide (k=1)))&&(decide (n=(s.size:Int))))=F8 s:=by
 have hr:=Pf NP s
 unfold IM F8
 simp only [Ms (Int.le_refl 0) (show (0:Int)<s.size by omega),bs,TQ,RR,VQ hs cQ,VQ hs RR,h0,decide_true,Bool.true_and]
 by_cases hl:GF (bt s 0)=true
 ·rw [if_pos hl]
  by_cases h20:20<KG NP s
  ·refine ⟨0,0,3,by simp [h20],?_⟩
   simp [hl]
   intro h1 h2
   omega
  ·refine ⟨1,_,0,by rw [if_neg (by simpa using h20)],?_⟩
   simp only [hl,decide_true,Bool.true_and]
   rw [Bool.eq_iff_iff]
   simp only [decide_eq_true_eq,Bool.and_eq_true]
   omega
 ·rw [if_neg hl]
  have hl':GF (bt s 0)=false:=by simpa using hl
  rw [hl',Bool.false_and,Bool.false_and]
  by_cases hd:digitB (bt s 0)=true
  ·rw [if_pos hd]
   by_cases h9:9<KG digitB s
   ·exact ⟨0,0,3,by simp [h9],by simp⟩
   ·exact ⟨2,_,0,by rw [if_neg (by simpa using h9)],by simp⟩
  ·rw [if_neg hd]
   by_cases hq:bt s 0=34
   ·have hsz:=SP (s:=s) (a:=1) (b:=s.size) (by omega) (by omega) (by omega)
    have hq2:∀ c,J7 c=some (((decide (32<=c))&&(decide (c<=126)))&&(!decide (c=34))):=fun _=>rfl
    have hr2:=Pf (fun c=>((decide (32<=c))&&(decide (c<=126)))&&(!decide (c=34))) (s.extract (1:Int).toNat (s.size:Int).toNat)
    have hqq:∃ n e,G7 s=some (n,e):=by
     unfold G7
     rw [K6 (by omega) (by omega) (by omega),bs,VQ (by omega) hq2,bs]
     rw [BI (by omega) (by omega)]
     by_cases he:1+KG (fun c=>((decide (32<=c))&&(decide (c<=126)))&&(!decide (c=34))) (s.extract (1:Int).toNat (s.size:Int).toNat)=s.size
     ·refine ⟨0,2,?_⟩
      simp only [he,decide_true,if_true,bs]
     ·simp only [he,decide_false,Bool.false_eq_true,if_false]
      rw [Ms (by omega) (by omega)]
      simp only [bs]
      split
      ·exact ⟨_,_,rfl⟩
      ·split
       ·exact ⟨_,_,rfl⟩
       ·exact ⟨_,_,rfl⟩
    obtain ⟨n,e,hne⟩:=hqq
    refine ⟨3,n,e,by rw [if_pos (by simpa using hq),hne]; rfl,by simp⟩
   ·rw [if_neg (by simpa using hq)]
    have hp:∃ b,LY s=some b:=by
     unfold LY
     by_cases h2:2<=(s.size:Int)
     ·rw [if_pos (by simpa using h2),K6 (by omega) (by omega) h2]
      simp only [bs,MU]
      exact ⟨_,rfl⟩
     ·rw [if_neg (by simpa using h2)]
      exact ⟨_,rfl⟩
    obtain ⟨b,hb⟩:=hp
    rw [hb,bs]
    cases b
    ·simp only [Bool.false_eq_true,if_false,strings_IndexByte,bs]
     split
     ·exact ⟨_,_,_,rfl,rfl⟩
     ·exact ⟨_,_,_,rfl,rfl⟩
    ·exact ⟨_,_,_,rfl,rfl⟩
theorem ON {s:ByteArray} (hs:(s.size:Int)<=4611686018427387904):EK s=some (F8 s):=by
 unfold EK IZ
 simp only [show decide ((1:Int)=3)=false from rfl,Bool.false_eq_true,if_false,bs]
 by_cases he:s=⟨#[]⟩
 ·subst he; rfl
 ·rw [if_neg (by simpa using he)]
  obtain ⟨k,n,e,h1,h2⟩:=cO (Tj he) hs
  rw [h1]
  simp only [bs]
  rw [h2]
theorem cc {s:ByteArray} (hs:(s.size:Int)<=4611686018427387904) (digits:Bool):∃ n,ME s 0 digits=some n∧0<=n∧n<=s.size∧(digits=false->n=KG NP s):=by
 have hr:=Pf (fun c=>digitB c||(!digits&&(GF c||decide (c=95)))) s
 refine ⟨KG (fun c=>digitB c||(!digits&&(GF c||decide (c=95)))) s,?_,hr.1,hr.2.1,fun hd=>?_⟩
 ·unfold ME
  rw [Nw (c:=fun i=>(if (digitB (bt s i)||(!digits&&(GF (bt s i)||decide (bt s i=95)))) then none else some i).map .inl) (a:=0) (b:=s.size) (by omega)]
  ·rw [Mk]
   unfold KG
   cases fst (fun i=>if (digitB (bt s i)||(!digits&&(GF (bt s i)||decide (bt s i=95))))=true then none else some i) 0 s.size <;> rfl
  ·intro i h1 h2 _
   have hw:A0 (0+i)=i:=by rw [BI (by omega) (by omega)]; omega
   simp only [hw,h2,decide_true,if_true,Ms h1 h2,bs,Uk,TZ]
   cases digitB (bt s i) <;> cases digits <;> cases GF (bt s i) <;> cases (decide (bt s i=95)) <;> simp [H3,BI (show -9223372036854775808<=i+1 by omega) (by omega)]
  ·have hw:A0 (0+(s.size:Int))=s.size:=by rw [BI (by omega) (by omega)]; omega
   simp only [hw,Int.lt_irrefl,decide_false,Bool.false_eq_true,if_false,bs]
 ·subst hd
  congr 1
  funext c
  unfold NP
  cases GF c <;> cases digitB c <;> cases decide (c=95) <;> rfl
theorem YA {s:ByteArray} (h0:0<s.size) (hs:(s.size:Int)<=4611686018427387904):∃ n,Js s 0=some n∧(n=0∨(2<=n∧n<=s.size)):=by
 unfold Js
 rw [Nw (c:=fun i=>if decide (bt s i=34)=true then some (Sum.inr (i+1):Int ⊕ Int) else if (decide (bt s i<32)||decide (126<bt s i))=true then some (Sum.inr 0) else none) (a:=1) (b:=s.size) (by omega)]
 ·cases h:fst (fun i=>if decide (bt s i=34)=true then some (Sum.inr (i+1):Int ⊕ Int) else if (decide (bt s i<32)||decide (126<bt s i))=true then some (Sum.inr 0) else none) 1 s.size with
  | none=>exact ⟨0,rfl,.inl rfl⟩
  | some r=>
   obtain ⟨i,h1,h2,h3,_⟩:=EY h
   split at h3
   ·cases h3; exact ⟨_,rfl,.inr (by omega)⟩
   ·split at h3
    ·cases h3; exact ⟨_,rfl,.inl rfl⟩
    ·cases h3
 ·intro i h1 h2 _
  have hw:A0 (0+i)=i:=by rw [BI (by omega) (by omega)]; omega
  simp only [hw,h2,decide_true,if_true,Ms (show 0<=i by omega) h2,bs,BI (show -9223372036854775808<=i+1 by omega) (by omega)]
  split
  ·rfl
  ·split <;> rfl
 ·have hw:A0 (0+(s.size:Int))=s.size:=by rw [BI (by omega) (by omega)]; omega
  simp only [hw,Int.lt_irrefl,decide_false,Bool.false_eq_true,if_false]
theorem jQ {s:ByteArray} (h0:0<s.size) (hs:(s.size:Int)<=4611686018427387904):∃ t n e,MD s 0=some (t,n,e)∧(((decide (e=0))&&(decide (n=(s.size:Int))))&&(decide (t.Kind=1)))=F8 s:=by
 obtain ⟨m,hm1,hm2,hm3,hm4⟩:=cc hs (digitB (bt s 0))
 unfold MD F8
 simp only [Ms (Int.le_refl 0) (show (0:Int)<s.size by omega),bs,TZ,Uk,h0,decide_true,Bool.true_and,hm1]
 have hw:A0 (0+m)=m:=by rw [BI (by omega) (by omega)]; omega
 by_cases hl:GF (bt s 0)=true
 ·have hd:digitB (bt s 0)=false:=by
   unfold GF at hl; unfold digitB
   simp only [Bool.or_eq_true,Bool.and_eq_true,decide_eq_true_eq] at hl
   rw [Bool.and_eq_false_iff]
   simp only [decide_eq_false_iff_not]
   omega
  have hm:=hm4 hd
  subst hm
  simp only [hl,if_true,hd,Bool.false_eq_true,if_false,bs,hw]
  by_cases h20:20<KG NP s
  ·refine ⟨_,_,_,by rw [if_pos (by simpa using h20)],?_⟩
   rw [Bool.eq_iff_iff]
   simp only [decide_eq_true_eq,Bool.and_eq_true]
   omega
  ·rw [if_neg (by simpa using h20),K6 (Int.le_refl _) hm2 hm3]
   refine ⟨_,_,_,rfl,?_⟩
   rw [Bool.eq_iff_iff]
   simp only [decide_eq_true_eq,Bool.and_eq_true,true_and,and_true]
   omega
 ·have hl':GF (bt s 0)=false:=by simpa using hl
  simp only [hl',Bool.false_eq_true,if_false,bs,Bool.false_and,hw]
  by_cases hd:digitB (bt s 0)=true
  ·simp only [hd,if_true,bs]
   by_cases h9:9<m
   ·exact ⟨_,_,_,by rw [if_pos (by simpa using h9)],by simp⟩
   ·rw [if_neg (by simpa using h9),K6 (Int.le_refl _) hm2 hm3]
    exact ⟨_,_,_,rfl,by simp⟩
  ·have hd':digitB (bt s 0)=false:=by simpa using hd
   simp only [hd',Bool.false_eq_true,if_false,bs]
   by_cases hq:bt s 0=34
   ·obtain ⟨n,hn,hn2⟩:=YA h0 hs
    rw [if_pos (by simpa using hq),hn,bs]
    rcases hn2 with rfl | hn2
    ·exact ⟨_,_,_,rfl,by simp⟩
    ·rw [if_neg (by simp; omega)]
     split
     ·exact ⟨_,_,_,rfl,by simp⟩
     ·have e1:A0 (0+1)=1:=by decide
      have e2:A0 (0+n)=n:=by rw [BI (by omega) (by omega)]; omega
      rw [e1,e2,BI (show -9223372036854775808<=n - 1 by omega) (by omega),K6 (by omega) (by omega) (by omega)]
      exact ⟨_,_,_,rfl,by simp⟩
   ·rw [if_neg (by simpa using hq)]
    unfold Lz
    rw [bs]
    generalize hL:([(⟨#[45,62]⟩:ByteArray),(⟨#[60,61]⟩:ByteArray),(⟨#[62,61]⟩:ByteArray),(⟨#[61,61]⟩:ByteArray),(⟨#[33,61]⟩:ByteArray),(⟨#[123]⟩:ByteArray),(⟨#[125]⟩:ByteArray),(⟨#[40]⟩:ByteArray),(⟨#[41]⟩:ByteArray),(⟨#[91]⟩:ByteArray),(⟨#[93]⟩:ByteArray),(⟨#[44]⟩:ByteArray),(⟨#[59]⟩:ByteArray),(⟨#[58]⟩:ByteArray),(⟨#[61]⟩:ByteArray),(⟨#[43]⟩:ByteArray),(⟨#[45]⟩:ByteArray),(⟨#[42]⟩:ByteArray),(⟨#[60]⟩:ByteArray),(⟨#[62]⟩:ByteArray),(⟨#[33]⟩:ByteArray),(⟨#[38]⟩:ByteArray),(⟨#[124]⟩:ByteArray),(⟨#[46]⟩:ByteArray),(⟨#[63]⟩:ByteArray)]:List ByteArray)=L
    have hsz:∀ x∈L,x.size<=2:=by subst hL; decide
    rcases S5 (f:=(fun (i0:Int) (s0:FK)=>
      (AI L i0).bind fun x75=>
      (if (decide ((A0 (0+(x75.size:Int)))<=(s.size:Int)))=true then ((AI L i0).bind fun x88=>
      (sslc s 0 (A0 (0+(x88.size:Int)))).bind fun x92=>
      (AI L i0).bind fun x95=>
      some (x92==x95)) else some false).bind fun x98=>
      if x98=true then
      (AI L i0).bind fun x101=>
      (AI L i0).bind fun x106=>
      some (CH.ret (FK.mk 4 x101 0,(x106.size:Int),(0:Int)))
      else
      some (CH.next s0))) (fun _ s=>True) (fun _=>True) (fun r=>r.1.Kind=4) (a:=0) (b:=L.length) (s:=FK.mk 0 (⟨#[]⟩:ByteArray) 0) (by omega) trivial (fun i t h1 h2 _=>by
      have hx:=hsz _ (AO h1 h2)
      have hw2:A0 (0+((AA L i).size:Int))=(AA L i).size:=by rw [BI (by omega) (by omega)]; omega
      simp only [AF h1 h2,bs,hw2]
      by_cases hc:((AA L i).size:Int)<=s.size
      ·rw [if_pos (by simpa using hc),K6 (by omega) (by omega) hc]
       simp only [bs]
       split
       ·exact .inr (.inr ⟨_,rfl,rfl⟩)
       ·exact .inl ⟨_,rfl,trivial⟩
      ·rw [if_neg (by simpa using hc)]
       simp only [bs]
       exact .inl ⟨_,rfl,trivial⟩) with ⟨s',h1,_⟩ | ⟨r,h1,h2⟩
    ·rw [h1]; exact ⟨_,_,_,rfl,by simp⟩
    ·rw [h1]; exact ⟨_,_,_,rfl,by simp [h2]⟩
theorem OQ {s:ByteArray} (hs:(s.size:Int)<=4611686018427387904):G2 s=some (F8 s):=by
 unfold G2 Ly Me
 simp only [show decide ((1:Int)=3)=false from rfl,Bool.false_eq_true,if_false,bs]
 by_cases he:s=⟨#[]⟩
 ·subst he; rfl
 ·rw [if_neg (by simpa using he)]
  obtain ⟨t,n,e,h1,h2⟩:=jQ (Tj he) hs
  rw [h1]
  simp only [bs]
  rw [h2]
end Go.Sf.Sc
namespace Go.Sf
variable {ρ β:Type}
def nz (e:Int):Option Int:=if e=0 then none else some e
theorem Nn (e:Int):(if (!decide (e=0))=true then some (CH.ret e) else some (CH.next ()))=some (NV (nz e)):=by
 unfold nz
 by_cases h:e=0 <;> simp [h,NV]
theorem bf (b:Bool) (r:ρ):(if b=true then some (CH.ret r) else some (CH.next ()))=some (NV (if b=true then some r else none)):=by
 cases b <;> rfl
theorem DT {σ:Type} {s:σ} {k:σ->Option β} {kr:ρ->Option β}:thenR (some (.inl s)) k kr=k s:=rfl
theorem SI {σ:Type} {r:ρ} {k:σ->Option β} {kr:ρ->Option β}:thenR (some (.inr r)) k kr=kr r:=rfl
theorem E7 (o:Option ρ) (k:Unit->Option β) (kr:ρ->Option β):thenR (some (Yw o)) k kr=match o with | none=>k () | some r=>kr r:=by
 cases o <;> rfl
theorem GE (o:Option Int):thenR (some (Yw o)) (fun _=>some 0) (fun v=>some v)=some (o.getD 0):=by
 cases o <;> rfl
theorem S6 {c:Int->Int} {a b:Int} (h:(fst (fun i=>nz (c i)) a b).getD 0=0):∀ i,a<=i->i<b->c i=0:=by
 have:fst (fun i=>nz (c i)) a b=none:=by
  cases hf:fst (fun i=>nz (c i)) a b with
  | none=>rfl
  | some r=>
   rw [hf] at h
   simp only [Option.getD] at h
   subst h
   obtain ⟨i,_,_,h3,_⟩:=EY hf
   unfold nz at h3
   split at h3
   ·cases h3
   ·rename_i hn; simp at h3; exact (hn h3).elim
 rw [DP] at this
 intro i h1 h2
 have:=this i h1 h2
 unfold nz at this
 split at this
 ·assumption
 ·cases this
theorem Mn {e:Int}:nz e=none↔e=0:=by
 unfold nz
 by_cases h:e=0 <;> simp [h]
theorem S9 {α:Type} [Inhabited α] {l:List α} {f:α->Option Bool} {p:α->Bool} (h:∀ x∈l,f x=some (p x)) :
  (thenR (forR (ρ:=Int) (fun (i0:Int) (_:Unit)=>(AI l i0).bind fun x14=>(f x14).bind fun x16=>if x16=true then some (.ret i0) else some (.next ())) 0 (l.length:Int) ()) (fun _=>some (-1)) (fun v0=>some v0)) =
   some ((fst (fun i=>if p (AA l i)=true then some i else none) 0 l.length).getD (-1)):=by
 rw [CF (fun i=>if p (AA l i)=true then some i else none)]
 ·rw [E7]; cases fst (fun i=>if p (AA l i)=true then some i else none) 0 l.length <;> rfl
 ·intro i h1 h2 _
  rw [AF h1 h2,bs,h _ (AO h1 h2),bs,bf]
theorem Rw {α:Type} [Inhabited α] {l:List α} {p:α->Bool}:decide (0<=(fst (fun i=>if p (AA l i)=true then some i else none) 0 l.length).getD (-1))=l.any p:=by
 rw [Jj,anyR]
 cases h:fst (fun i=>if p (AA l i)=true then some i else none) 0 l.length with
 | none=>
  rw [DP] at h
  symm
  show Option.isSome _=false
  rw [Option.isSome_eq_false_iff,Option.isNone_iff_eq_none,DP]
  intro i h1 h2
  have:=h i h1 h2
  by_cases hp:p (AA l i)=true
  ·rw [if_pos hp] at this; cases this
  ·rw [if_neg hp]
 | some k=>
  obtain ⟨i,h1,h2,h3,_⟩:=EY h
  have h4:p (AA l i)=true∧i=k:=by
   by_cases hv:p (AA l i)=true
   ·rw [if_pos hv] at h3; exact ⟨hv,by simpa using h3⟩
   ·rw [if_neg hv] at h3; cases h3
  simp only [Option.getD]
  rw [decide_eq_true (show (0:Int)<=k by omega)]
  symm
  show Option.isSome _=true
  rw [Option.isSome_iff_ne_none,ne_eq,DP]
  intro hn
  have:=hn i h1 h2
  rw [if_pos h4.1] at this
  cases this
theorem FD {α:Type} [Inhabited α] {l:List α} {f:α->Option Bool} {p:α->Bool} (h:∀ x∈l,f x=some (p x)) :
  ((thenR (forR (ρ:=Int) (fun (i0:Int) (_:Unit)=>(AI l i0).bind fun x14=>(f x14).bind fun x16=>if x16=true then some (.ret i0) else some (.next ())) 0 (l.length:Int) ()) (fun _=>some (-1)) (fun v0=>some v0)).bind fun x7=>some (decide (0<=x7)))=some (l.any p):=by
 rw [S9 h,bs,Rw]
end Go.Sf
namespace Go.Sf.Sc
open Go Go.Sf
instance:Inhabited Attr:=⟨⟨⟨#[]⟩,0,0,[]⟩⟩
instance:Inhabited CE:=⟨⟨⟨#[]⟩,0,false,[]⟩⟩
instance:Inhabited CQ:=⟨⟨⟨#[]⟩,0,0,0,0,0,0⟩⟩
instance:Inhabited CY:=⟨⟨0,0,0⟩⟩
instance:Inhabited DO:=⟨⟨0,0,⟨0,0⟩⟩⟩
instance:Inhabited Test:=⟨⟨0,⟨0,0⟩,⟨0,0⟩⟩⟩
instance:Inhabited AB:=⟨⟨0,[],⟨[],[]⟩,⟨⟨[],[]⟩,[],0,[]⟩⟩⟩
theorem Sr {l:List Int} {f:Int->Option Bool} {p:Int->Bool} (h:∀ x∈l,f x=some (p x)):BL l f=some (l.any p):=FD h
theorem UM {l:List CY} {f:CY->Option Bool} {p:CY->Bool} (h:∀ x∈l,f x=some (p x)):BU l f=some (l.any p):=FD h
theorem Sp {l:List AB} {f:AB->Option Bool} {p:AB->Bool} (h:∀ x∈l,f x=some (p x)):B1 l f=some (l.any p):=FD h
theorem T1 {l:List CE} {p:CE->Bool}:CM l (fun x=>some (p x))=some (l.any p):=FD (fun _ _=>rfl)
theorem Tz {l:List CQ} {p:CQ->Bool}:CL l (fun x=>some (p x))=some (l.any p):=FD (fun _ _=>rfl)
theorem Zh {l:List Attr} {p:Attr->Bool}:DC l (fun x=>some (p x))=some (l.any p):=FD (fun _ _=>rfl)
theorem Vz {l:List Int} {p:Int->Bool}:BL l (fun x=>some (p x))=some (l.any p):=FD (fun _ _=>rfl)
theorem Zi {l:List CY} {p:CY->Bool}:BU l (fun x=>some (p x))=some (l.any p):=FD (fun _ _=>rfl)
theorem Zj {l:List DO} {p:DO->Bool}:DD l (fun x=>some (p x))=some (l.any p):=FD (fun _ _=>rfl)
theorem bu (l:List Int) (v:Int):H0 l v=some ((fst (fun i=>if decide (v=AA l i)=true then some i else none) 0 l.length).getD (-1)):=by
 have:=S9 (l:=l) (f:=fun x=>some (decide (v=x))) (p:=fun x=>decide (v=x)) (fun _ _=>rfl)
 unfold H0
 simpa only [bs] using this
theorem Sv (l:List Int) (v:Int):DG l v=some (l.any fun x=>decide (v=x)):=by
 unfold DG
 rw [bu,bs,Rw (p:=fun x=>decide (v=x))]
theorem Zm (l:List Bool) (v:Bool):GD l v=some (l.any fun x=>v==x):=by
 have:=FD (l:=l) (f:=fun x=>some (v==x)) (p:=fun x=>v==x) (fun _ _=>rfl)
 unfold GD Ie
 simpa only [bs] using this
structure QH (a:Attr):Prop where
 name:(a.Name.size:Int)<=40
 names:a.Names.length<=25
 each:∀ x∈a.Names,(x.size:Int)<=40
structure BV (t:AD):Prop where
 nodes:t.Nodes.length<=20
 edges:t.Edges.length<=30
 name:∀ n∈t.Nodes,(n.Name.size:Int)<=40
 attrs:∀ n∈t.Nodes,n.Attrs.length<=30
 each:∀ n∈t.Nodes,∀ a∈n.Attrs,QH a
 ename:∀ e∈t.Edges,(e.Name.size:Int)<=40
def par (t:AD) (i:Int):Int:=(AA t.Nodes i).Parent
def F4 (t:AD) (k:Int):Prop:=∀ i,0<=i->i<k->-1<=par t i∧par t i<i
def CD (t:AD):Nat->Int->List Attr
 | 0,_=>[]
 | n+1,a=>if a<0 then [] else CD t n (par t a)++(AA t.Nodes a).Attrs
def A9 (t:AD) (a:Int):List Attr:=CD t (a+1).toNat a
theorem IC {t:AD} {n:Nat} {a:Int} (h:a<0):CD t n a=[]:=by
 cases n with
 | zero=>rfl
 | succ n=>rw [CD,if_pos h]
theorem Kw {t:AD} {k:Int} (hp:F4 t k):∀ (n m:Nat) (a:Int),a<k->a<n->a<m->CD t n a=CD t m a
 | n,m,a,hk,hn,hm=>by
  by_cases h0:a<0
  ·rw [IC h0,IC h0]
  ·cases n with
   | zero=>omega
   | succ n=>
    cases m with
    | zero=>omega
    | succ m=>
     rw [CD,CD,if_neg h0,if_neg h0]
     have:=hp a (by omega) hk
     rw [Kw hp n m (par t a) (by omega) (by omega) (by omega)]
theorem LB {t:AD} (hf:BV t) {k:Int} (hk:k<=t.Nodes.length) (hp:F4 t k):∀ (n:Nat) (a:Int),a<k->((CD t n a).length:Int)<=30*n
 | 0,_,_=>by simp [CD]
 | n+1,a,ha=>by
  rw [CD]
  split
  ·simp; omega
  ·rename_i h0
   have h1:=hp a (by omega) ha
   have h2:=LB hf hk hp n (par t a) (by omega)
   have h3:=hf.attrs _ (AO (l:=t.Nodes) (show 0<=a by omega) (by omega))
   rw [List.length_append]
   omega
theorem Qg {t:AD} (hf:BV t) {k:Int} (hk:k<=t.Nodes.length) (hp:F4 t k):∀ (n:Nat) (a:Int),a<k->∀ x∈CD t n a,QH x
 | 0,_,_=>by simp [CD]
 | n+1,a,ha=>by
  rw [CD]
  split
  ·simp
  ·rename_i h0
   have h1:=hp a (by omega) ha
   intro x hx
   rcases List.mem_append.1 hx with hx | hx
   ·exact Qg hf hk hp n (par t a) (by omega) x hx
   ·exact hf.each _ (AO (l:=t.Nodes) (show 0<=a by omega) (by omega)) x hx
theorem LD {t:AD} (hf:BV t) {k a:Int} (hk:k<=t.Nodes.length) (hp:F4 t k) (ha:a<k):(A9 t a).length<=600:=by
 have:=LB hf hk hp (a+1).toNat a ha
 have:=hf.nodes
 unfold A9
 omega
theorem LC {t:AD} (hf:BV t) {k a:Int} (hk:k<=t.Nodes.length) (hp:F4 t k) (ha:a<k):∀ x∈A9 t a,QH x:=Qg hf hk hp _ a ha
theorem TN {t:AD} (hf:BV t) {k:Int} (hk:k<=t.Nodes.length) (hp:F4 t k):∀ (n:Nat) (a:Int),0<=a->a<k->a<n->DW n t a=some (CD t n a)
 | 0,_,_,_,_=>by omega
 | n+1,a,h0,ha,hn=>by
  have h1:=hp a (by omega) ha
  have h2:=LB hf hk hp n (par t a) (by omega)
  have h3:=hf.attrs _ (AO (l:=t.Nodes) h0 (by omega))
  have h4:=hf.nodes
  rw [DW,CD,if_neg (by omega),AF h0 (by omega)]
  simp only [bs]
  show ((if decide (0<=par t a)=true then (DW n t (par t a)).bind fun x17=>some x17 else some []).bind _)=_
  have e:(if decide (0<=par t a)=true then (DW n t (par t a)).bind fun x17=>some x17 else some [])=some (CD t n (par t a)):=by
   by_cases hq:0<=par t a
   ·rw [if_pos (by simpa using hq),TN hf hk hp n (par t a) hq (by omega) (by omega)]; rfl
   ·rw [if_neg (by simpa using hq),IC (by omega)]
  have hb:(CD t n (par t a)).length+(AA t.Nodes a).Attrs.length<=B0:=by
   unfold B0
   have:((CD t n (par t a)).length:Int)<=30*n:=h2
   have h5:CD t n (par t a)=CD t 20 (par t a):=by
    by_cases hneg:par t a<0
    ·rw [IC hneg,IC hneg]
    ·exact Kw hp n 20 (par t a) (by omega) (by omega) (by omega)
   have h6:=LB hf hk hp 20 (par t a) (by omega)
   rw [←h5] at h6
   omega
  rw [e,bs,DI hb]
  rfl
theorem Ud {t:AD} (hf:BV t) {k:Int} (hk:k<=t.Nodes.length) (hp:F4 t k) {a:Int} (h0:0<=a) (ha:a<k):JZ t a=some (A9 t a):=
 ET (a+1).toNat fun n hn=>by
  rw [TN hf hk hp n a h0 ha (by omega),A9,Kw hp n (a+1).toNat a ha (by omega) (by omega)]
theorem TU {t:AD} (hf:BV t) {k:Int} (hk:k<=t.Nodes.length) (hp:F4 t k):∀ (n:Nat) (a:Int),-1<=a->a<k->a+1<n->G3 n t a=some (CD t n a)
 | 0,_,_,_,_=>by omega
 | n+1,a,h0,ha,hn=>by
  rw [G3,CD]
  by_cases hneg:a<0
  ·rw [if_pos (by simpa using hneg),if_pos hneg]
  ·have h1:=hp a (by omega) ha
   have h3:=hf.attrs _ (AO (l:=t.Nodes) (show 0<=a by omega) (by omega))
   have h4:=hf.nodes
   rw [if_neg (by simpa using hneg),if_neg hneg,AF (by omega) (by omega)]
   simp only [bs]
   have h5:CD t n (par t a)=CD t 20 (par t a):=by
    by_cases hneg:par t a<0
    ·rw [IC hneg,IC hneg]
    ·exact Kw hp n 20 (par t a) (by omega) (by omega) (by omega)
   have h6:=LB hf hk hp 20 (par t a) (by omega)
   rw [←h5] at h6
   have hb:(CD t n (par t a)).length+(AA t.Nodes a).Attrs.length<=B0:=by unfold B0; omega
   rw [show (AA t.Nodes a).Parent=par t a from rfl,TU hf hk hp n (par t a) (by omega) (by omega) (by omega),bs,DI (by simp; unfold B0; omega)]
   simp only [bs,List.nil_append]
   rw [DI hb]; rfl
theorem Ui {t:AD} (hf:BV t) {k:Int} (hk:k<=t.Nodes.length) (hp:F4 t k) {a:Int} (h0:0<=a) (ha:a<k):L0 t a=some (A9 t a):=
 ET (a+2).toNat fun n hn=>by
  rw [TU hf hk hp n a (by omega) ha (by omega),A9,Kw hp n (a+1).toNat a ha (by omega) (by omega)]
end Go.Sf.Sc
namespace Go.Sf.Sc
open Go Go.Sf
def Jn (l:List ByteArray):Int:=
 if (20:Int)<l.length then 3 else (fst (fun i=>if F8 (AA l i)=false then some 2 else if anyR (fun j=>AA l j==AA l i) 0 i=true then some 5 else none) 0 l.length).getD 0
theorem Su {l:List ByteArray} {x:ByteArray} {b:Int} (h0:0<=b) (h1:b<=l.length):(l.take b.toNat).contains x=anyR (fun j=>AA l j==x) 0 b:=by
 rw [List.contains_eq_any_beq,Ny h0 h1]
 exact Qe (fun i _ _=>by rw [Bool.beq_comm])
theorem Z9 {l:List ByteArray} (hl:∀ x∈l,(x.size:Int)<=40):Hi l=some (Jn l):=by
 unfold Hi Jn
 by_cases h20:(20:Int)<l.length
 ·rw [if_pos (by simpa using h20),if_pos h20]
 ·rw [if_neg (by simpa using h20),if_neg h20]
  rw [CF (fun i=>if F8 (AA l i)=false then some 2 else if anyR (fun j=>AA l j==AA l i) 0 i=true then some 5 else none),GE]
  intro i h1 h2 _
  have hx:=hl _ (AO h1 h2)
  rw [AF h1 h2,bs,ON (by omega),bs,Lr h1 (by omega)]
  simp only [bs,MU,Su h1 (show i<=l.length by omega)]
  cases F8 (AA l i) <;> cases anyR (fun j=>AA l j==AA l i) 0 i <;> rfl
theorem aL {l:List ByteArray} (hl:∀ x∈l,(x.size:Int)<=40):KV l=some (Jn l):=by
 unfold KV Jn
 by_cases h20:(20:Int)<l.length
 ·rw [if_pos (by simpa using h20),if_pos h20]
 ·rw [if_neg (by simpa using h20),if_neg h20]
  rw [CF (fun i=>if F8 (AA l i)=false then some 2 else if anyR (fun j=>AA l j==AA l i) 0 i=true then some 5 else none),GE]
  intro i h1 h2 _
  have hx:=hl _ (AO h1 h2)
  rw [AF h1 h2,bs,OQ (by omega),bs,B3 (fun j=>AA l j==AA l i) 5]
  ·cases F8 (AA l i) <;> cases anyR (fun j=>AA l j==AA l i) 0 i <;> rfl
  ·intro j k1 k2 _
   rw [AF k1 (by omega),bs,bs]
   split <;> rfl
def MV (all:List Attr) (k:Int):Int:=
 let x:=AA all k
 if F8 x.Name=false then 2 else if anyR (fun j=>(AA all j).Name==x.Name) 0 k=true then 5 else
 if x.Names.length=0 then (if -1000000<=x.Low∧x.Low<=x.High∧x.High<=1000000 then 0 else 6) else
 if Jn x.Names≠0 then Jn x.Names else if x.Low=0∧x.High=x.Names.length - 1 then 0 else 6
theorem T9 {all:List Attr} (hl:∀ x∈all,QH x) {k:Int} (h0:0<=k) (h1:k<all.length):E8 (AA all k) (all.take k.toNat)=some (MV all k):=by
 have hx:=hl _ (AO h0 h1)
 have hn:=hx.name
 unfold E8 MV
 dsimp only
 rw [ON (by omega),bs,show (fun y0=>If y0 (AA all k))=(fun y0=>some (y0.Name==(AA all k).Name)) from rfl,Zh,bs,Ny h0 (by omega),Z9 hx.each,bs]
 have hl2:=hx.names
 have hw:A0 ((AA all k).Names.length - 1)=(AA all k).Names.length - 1:=BI (by omega) (by omega)
 rw [hw]
 have hz:(AA all k).Names.length=0->Jn (AA all k).Names=0:=fun h=>by rw [List.eq_nil_of_length_eq_zero h]; rfl
 generalize Jn (AA all k).Names=e at hz ⊢
 simp only [bs,decide_eq_true_eq,Bool.or_eq_true,Bool.and_eq_true,Bool.not_eq_true',decide_eq_false_iff_not,Bool.not_eq_false',Bool.or_eq_false_iff,Bool.and_eq_false_iff,ne_eq]
 repeat' (first | rfl | (exfalso; omega; done) | split)
 all_goals (first | rfl | (exfalso; omega) | omega | simp_all | (simp_all; omega))
theorem UB {x:Attr} (hx:QH x):IK x=some (
 if x.Names.length=0 then (if -1000000<=x.Low∧x.Low<=x.High∧x.High<=1000000 then 0 else 6) else
 if Jn x.Names≠0 then Jn x.Names else if x.Low=0∧x.High=x.Names.length - 1 then 0 else 6):=by
 have hl2:=hx.names
 have hw:A0 (x.Names.length - 1)=x.Names.length - 1:=BI (by omega) (by omega)
 unfold IK D8
 simp only [bs,hw,aL hx.each]
 generalize Jn x.Names=e
 simp only [bs,decide_eq_true_eq,Bool.or_eq_true,Bool.and_eq_true,Bool.not_eq_true',decide_eq_false_iff_not,Bool.not_eq_false',Bool.or_eq_false_iff,Bool.and_eq_false_iff,ne_eq]
 repeat' (first | rfl | (exfalso; omega; done) | split)
 all_goals (first | rfl | (exfalso; omega) | omega | simp_all | (simp_all; omega))
def Ic (t:AD) (i:Int):Int:=
 let n:=AA t.Nodes i
 if F8 n.Name=false then 2 else if anyR (fun j=>(AA t.Nodes j).Name==n.Name) 0 i=true then 5 else
 if n.Parent < -1∨i<=n.Parent then 6 else if 4<n.Attrs.length∨8<(A9 t i).length then 3 else
 (fst (fun k=>nz (MV (A9 t i) k)) ((A9 t i).length - n.Attrs.length) (A9 t i).length).getD 0
theorem Qj {t:AD} {i:Int} (h0:0<=i):(AA t.Nodes i).Attrs.length<=(A9 t i).length:=by
 unfold A9
 rw [show (i+1).toNat=i.toNat+1 by omega,CD,if_neg (by omega),List.length_append]
 omega
theorem F4.next {t:AD} {i:Int} (h:F4 t i) (h1:-1<=par t i) (h2:par t i<i):F4 t (i+1):=by
 intro j k1 k2
 by_cases hj:j=i
 ·subst hj; exact ⟨h1,h2⟩
 ·exact h j k1 (by omega)
theorem cP {t:AD} (hf:BV t) {i:Int} (h0:0<=i) (h1:i<t.Nodes.length) (hp:F4 t i):IQ t i=some (Ic t i):=by
 have hn:=hf.name _ (AO h0 h1)
 unfold IQ Ic
 dsimp only
 rw [AF h0 h1,bs,ON (by omega),bs,Lr h0 (by omega),bs,show (fun y0=>Lb y0 (AA t.Nodes i))=(fun y0=>some (y0.Name==(AA t.Nodes i).Name)) from rfl,T1,bs,Ny h0 (by omega)]
 cases F8 (AA t.Nodes i).Name
 ·rfl
 ·cases anyR (fun j=>(AA t.Nodes j).Name==(AA t.Nodes i).Name) 0 i
  ·by_cases hr:(AA t.Nodes i).Parent < -1∨i<=(AA t.Nodes i).Parent
   ·rcases hr with hr | hr <;> simp [hr]
   ·have hp':F4 t (i+1):=hp.next (by unfold par; omega) (by unfold par; omega)
    have hr2:(decide ((AA t.Nodes i).Parent < -1)||decide (i<=(AA t.Nodes i).Parent))=false:=by
     rw [Bool.eq_false_iff]; simpa using hr
    rw [Ud hf (k:=i+1) (by omega) hp' h0 (by omega),bs]
    have hlen:=LD hf (k:=i+1) (a:=i) (by omega) hp' (by omega)
    have hsub:=Qj (t:=t) h0
    have hfew:=LC hf (k:=i+1) (a:=i) (by omega) hp' (by omega)
    rw [BI (by omega) (by omega),CF (fun k=>nz (MV (A9 t i) k)),GE]
    ·simp only [hr2,hr,Bool.not_true,Bool.false_eq_true,if_false]
     simp only [bs,decide_eq_true_eq,Bool.or_eq_true,Bool.and_eq_true,Bool.not_eq_true',decide_eq_false_iff_not,Bool.not_eq_false',Bool.or_eq_false_iff,Bool.and_eq_false_iff,ne_eq]
     repeat' (first | rfl | (exfalso; omega; done) | split)
     all_goals (first | rfl | (exfalso; omega) | omega | simp_all | (simp_all; omega))
    ·intro k k1 k2 _
     rw [AF (by omega) k2,bs,Lr (by omega) (by omega),bs,T9 hfew (by omega) k2,bs,Nn]
  ·rfl
theorem cb {t:AD} (hf:BV t) {i:Int} (h0:0<=i) (h1:i<t.Nodes.length) (hp:F4 t i):LQ t i=some (Ic t i):=by
 have hn:=hf.name _ (AO h0 h1)
 have hl:=hf.nodes
 unfold LQ Ic D8
 dsimp only
 rw [AF h0 h1,bs,OQ (by omega),bs,B3 (fun j=>(AA t.Nodes j).Name==(AA t.Nodes i).Name) 5]
 ·cases F8 (AA t.Nodes i).Name
  ·rfl
  ·cases anyR (fun j=>(AA t.Nodes j).Name==(AA t.Nodes i).Name) 0 i
   ·simp only [Bool.not_true,Bool.false_eq_true,if_false,DT,bs]
    rw [BI (by omega) (by omega)]
    by_cases hr:(AA t.Nodes i).Parent < -1∨i<=(AA t.Nodes i).Parent
    ·rw [if_pos,if_neg (by decide),if_pos hr]
     simp; omega
    ·have hp':F4 t (i+1):=hp.next (by unfold par; omega) (by unfold par; omega)
     rw [if_neg (by simp; omega),if_neg (by decide),if_neg hr]
     rw [Ui hf (k:=i+1) (by omega) hp' h0 (by omega),bs]
     have hlen:=LD hf (k:=i+1) (a:=i) (by omega) hp' (by omega)
     have hsub:=Qj (t:=t) h0
     have hfew:=LC hf (k:=i+1) (a:=i) (by omega) hp' (by omega)
     rw [BI (by omega) (by omega)]
     rw [CF (fun k=>nz (MV (A9 t i) k)),GE]
     ·simp only [bs,decide_eq_true_eq,Bool.or_eq_true,Bool.and_eq_true,Bool.not_eq_true',decide_eq_false_iff_not,Bool.not_eq_false',Bool.or_eq_false_iff,Bool.and_eq_false_iff,ne_eq]
      repeat' (first | rfl | (exfalso; omega; done) | split)
      all_goals (first | rfl | (exfalso; omega) | omega | simp_all | (simp_all; omega))
     ·intro k k1 k2 _
      have hx:=hfew _ (AO (show 0<=k by omega) k2)
      have hxn:=hx.name
      simp only [AF (show 0<=k by omega) k2,bs]
      rw [OQ (by omega),bs,B3 (fun j=>(AA (A9 t i) j).Name==(AA (A9 t i) k).Name) 5]
      ·rw [UB hx]
       simp only [bs,Nn]
       unfold MV
       dsimp only
       cases F8 (AA (A9 t i) k).Name
       ·rfl
       ·cases anyR (fun j=>(AA (A9 t i) j).Name==(AA (A9 t i) k).Name) 0 k <;> rfl
      ·intro j j1 j2 _
       rw [AF j1 (by omega),bs]
       split <;> rfl
   ·rfl
 ·intro j k1 k2 _
  rw [AF k1 (by omega),bs]
  split <;> rfl
def LE (low high:Int):Bool:=((decide (0<=low))&&(decide (low<=40)))&&((decide (high=(-1)))||((decide (low<=high))&&(decide (high<=40))))
theorem aI (low high:Int):JS low high=some (LE low high):=by
 unfold JS LE D8
 simp only [bs]
 cases (decide (0<=low)&&decide (low<=40)) <;> cases decide (high=-1) <;> rfl
def J2 (t:AD) (i:Int):Int:=
 let x:=AA t.Edges i
 if F8 x.Name=false then 2 else if anyR (fun j=>(AA t.Edges j).Name==x.Name) 0 i=true then 5 else
 if (0<=x.From∧x.From<t.Nodes.length)∧(0<=x.To∧x.To<t.Nodes.length)∧LE x.OutLow x.OutHigh=true∧LE x.InLow x.InHigh=true then 0 else 6
theorem cL {t:AD} (hf:BV t) {i:Int} (h0:0<=i) (h1:i<t.Edges.length):IP t i=some (J2 t i):=by
 have hn:=hf.ename _ (AO h0 h1)
 unfold IP J2 Jz
 dsimp only
 rw [AF h0 h1,bs,ON (by omega),bs,Lr h0 (by omega),bs,show (fun y0=>La y0 (AA t.Edges i))=(fun y0=>some (y0.Name==(AA t.Edges i).Name)) from rfl,Tz,bs,Ny h0 (by omega)]
 simp only [show ∀ a b,JN a b=some (LE a b) from fun _ _=>rfl,bs]
 generalize F8 (AA t.Edges i).Name=b1
 generalize anyR (fun j=>(AA t.Edges j).Name==(AA t.Edges i).Name) 0 i=b2
 generalize LE (AA t.Edges i).OutLow (AA t.Edges i).OutHigh=b3
 generalize LE (AA t.Edges i).InLow (AA t.Edges i).InHigh=b4
 cases b1
 ·rfl
 ·cases b2
  ·cases b3 <;> cases b4
   all_goals
    by_cases ha:0<=(AA t.Edges i).From∧(AA t.Edges i).From<t.Nodes.length
    ·by_cases hb:0<=(AA t.Edges i).To∧(AA t.Edges i).To<t.Nodes.length
     ·simp [ha,hb]
     ·have:(decide (0<=(AA t.Edges i).To)&&decide ((AA t.Edges i).To<t.Nodes.length))=false:=by rw [Bool.eq_false_iff]; simpa using hb
      simp [ha,hb,this]
    ·have:(decide (0<=(AA t.Edges i).From)&&decide ((AA t.Edges i).From<t.Nodes.length))=false:=by rw [Bool.eq_false_iff]; simpa using ha
     simp [ha,this]
  ·rfl
theorem cX {t:AD} (hf:BV t) {i:Int} (h0:0<=i) (h1:i<t.Edges.length):LP t i=some (J2 t i):=by
 have hn:=hf.ename _ (AO h0 h1)
 have hl:=hf.nodes
 unfold LP J2 D8
 dsimp only
 rw [AF h0 h1,bs,OQ (by omega),bs,B3 (fun j=>(AA t.Edges j).Name==(AA t.Edges i).Name) 5]
 ·simp only [BI (show -9223372036854775808<=(t.Nodes.length:Int) - 1 by omega) (by omega),aI,bs]
  generalize F8 (AA t.Edges i).Name=b1
  generalize anyR (fun j=>(AA t.Edges j).Name==(AA t.Edges i).Name) 0 i=b2
  generalize LE (AA t.Edges i).OutLow (AA t.Edges i).OutHigh=b3
  generalize LE (AA t.Edges i).InLow (AA t.Edges i).InHigh=b4
  cases b1
  ·rfl
  ·cases b2
   ·cases b3 <;> cases b4
    all_goals
     by_cases ha:0<=(AA t.Edges i).From∧(AA t.Edges i).From<t.Nodes.length
     ·have ha':(AA t.Edges i).From<=(t.Nodes.length:Int) - 1:=by omega
      by_cases hb:0<=(AA t.Edges i).To∧(AA t.Edges i).To<t.Nodes.length
      ·have hb':(AA t.Edges i).To<=(t.Nodes.length:Int) - 1:=by omega
       simp [ha,hb,ha',hb',DT]
      ·have:(decide (0<=(AA t.Edges i).To)&&decide ((AA t.Edges i).To<=(t.Nodes.length:Int) - 1))=false:=by rw [Bool.eq_false_iff]; simp; omega
       simp [ha,hb,ha',this,DT]
     ·have:(decide (0<=(AA t.Edges i).From)&&decide ((AA t.Edges i).From<=(t.Nodes.length:Int) - 1))=false:=by rw [Bool.eq_false_iff]; simp; omega
      simp [ha,this,DT]
   ·rfl
 ·intro j k1 k2 _
  rw [AF k1 (by omega),bs]
  split <;> rfl
def BC (t:AD):ByteArray × Int:=
 if t.Nodes.length=0 then (⟨#[]⟩,7) else if 12<t.Nodes.length∨20<t.Edges.length then (⟨#[]⟩,3) else
 match fst (fun i=>(nz (Ic t i)).map fun e=>((AA t.Nodes i).Name,e)) 0 t.Nodes.length with
 | some r=>r
 | none=>(fst (fun i=>(nz (J2 t i)).map fun e=>((AA t.Edges i).Name,e)) 0 t.Edges.length).getD (⟨#[]⟩,0)
theorem WC {t:AD} {i:Int} (h:Ic t i=0):-1<=par t i∧par t i<i:=by
 unfold Ic at h
 dsimp only at h
 unfold par
 by_cases hr:(AA t.Nodes i).Parent < -1∨i<=(AA t.Nodes i).Parent
 ·rw [if_pos hr] at h
  split at h
  ·cases h
  ·split at h <;> cases h
 ·omega
theorem Lk {α β:Type} {o:Option α} {g:α->β}:o.map g=none↔o=none:=by cases o <;> simp
theorem QR {t:AD} {i:Int} (h:∀ j,0<=j->j<i->Ic t j=0):F4 t i:=fun j h1 h2=>WC (h j h1 h2)
theorem Ps {ρ:Type} (e:Int) (n:ByteArray):(if (!decide (e=0))=true then some (CH.ret (n,e)) else some (CH.next ()))=some (NV ((nz e).map fun e=>(n,e))):=by
 unfold nz
 by_cases h:e=0 <;> simp [h,NV]
theorem Pv {t:AD} (hf:BV t):FJ t=some (BC t):=by
 unfold FJ BC
 rw [CF (fun i=>(nz (Ic t i)).map fun e=>((AA t.Nodes i).Name,e)),E7]
 ·rw [CF (fun i=>(nz (J2 t i)).map fun e=>((AA t.Edges i).Name,e)),E7]
  ·cases fst (fun i=>(nz (Ic t i)).map fun e=>((AA t.Nodes i).Name,e)) 0 t.Nodes.length <;> cases fst (fun i=>(nz (J2 t i)).map fun e=>((AA t.Edges i).Name,e)) 0 t.Edges.length
   all_goals dsimp only
   all_goals try simp only [Option.getD]
   all_goals
    simp only [bs,decide_eq_true_eq,Bool.or_eq_true,Bool.and_eq_true,Bool.not_eq_true',decide_eq_false_iff_not,Bool.not_eq_false',Bool.or_eq_false_iff,Bool.and_eq_false_iff,ne_eq]
    repeat' (first | rfl | (exfalso; omega; done) | split)
    all_goals (first | rfl | (exfalso; omega) | omega | simp_all | (simp_all; omega))
  ·intro i h1 h2 _
   rw [AF h1 h2,bs,cL hf h1 h2,bs]
   exact Ps (ρ:=Unit) _ _
 ·intro i h1 h2 h3
  have hp:F4 t i:=QR fun j k1 k2=>Mn.1 (Lk.1 (h3 j k1 k2))
  rw [AF h1 h2,bs,cP hf h1 h2 hp,bs]
  exact Ps (ρ:=Unit) _ _
theorem Px {t:AD} (hf:BV t):He t=some (BC t):=by
 unfold He BC
 rw [CF (fun i=>(nz (Ic t i)).map fun e=>((AA t.Nodes i).Name,e)),E7]
 ·rw [CF (fun i=>(nz (J2 t i)).map fun e=>((AA t.Edges i).Name,e)),E7]
  ·cases fst (fun i=>(nz (Ic t i)).map fun e=>((AA t.Nodes i).Name,e)) 0 t.Nodes.length <;> cases fst (fun i=>(nz (J2 t i)).map fun e=>((AA t.Edges i).Name,e)) 0 t.Edges.length
   all_goals dsimp only
   all_goals try simp only [Option.getD]
   all_goals
    simp only [bs,decide_eq_true_eq,Bool.or_eq_true,Bool.and_eq_true,Bool.not_eq_true',decide_eq_false_iff_not,Bool.not_eq_false',Bool.or_eq_false_iff,Bool.and_eq_false_iff,ne_eq]
    repeat' (first | rfl | (exfalso; omega; done) | split)
    all_goals (first | rfl | (exfalso; omega) | omega | simp_all | (simp_all; omega))
  ·intro i h1 h2 _
   simp only [cX hf h1 h2,AF h1 h2,bs]
   exact Ps (ρ:=Unit) _ _
 ·intro i h1 h2 h3
  have hp:F4 t i:=QR fun j k1 k2=>Mn.1 (Lk.1 (h3 j k1 k2))
  simp only [cb hf h1 h2 hp,AF h1 h2,bs]
  exact Ps (ρ:=Unit) _ _
end Go.Sf.Sc
namespace Go.Sf.Sc
open Go Go.Sf
theorem IT {α:Type} {c:Bool} {a b:α}:(if c=true then some a else some b)=some (if c=true then a else b):=by cases c <;> rfl
def J4 (n:Int):Bool:=(decide (0<=n))&&(decide (n<=99))
def N8 (e:CY) (n:Int):Bool:=J4 e.Type'&&(decide (0<=e.From)&&decide (e.From<n))&&(decide (0<=e.To)&&decide (e.To<n))
def C6 (g:Graph):Int:=
 if 40<g.Nodes.length∨80<g.Edges.length then 3 else if (g.Nodes.any fun n=>!J4 n)=true then 6 else if (g.Edges.any fun e=>!N8 e g.Nodes.length)=true then 6 else 0
structure JP (g:Graph):Prop where
 nodes:g.Nodes.length<=40
 edges:g.Edges.length<=80
 kind:∀ n∈g.Nodes,0<=n∧n<=99
 fit:∀ e∈g.Edges,(0<=e.Type'∧e.Type'<=99)∧(0<=e.From∧e.From<g.Nodes.length)∧(0<=e.To∧e.To<g.Nodes.length)
theorem FB {g:Graph} (h:C6 g=0):JP g:=by
 unfold C6 at h
 split at h
 ·cases h
 ·split at h
  ·cases h
  ·split at h
   ·cases h
   ·rename_i h1 h2 h3
    refine ⟨by omega,by omega,fun n hn=>?_,fun e he=>?_⟩
    ·rw [Bool.not_eq_true,List.any_eq_false] at h2
     have:=h2 n hn
     simp [J4] at this
     exact this
    ·rw [Bool.not_eq_true,List.any_eq_false] at h3
     have:=h3 e he
     simp only [N8,J4,Bool.not_eq_true',Bool.not_eq_false,Bool.and_eq_true,decide_eq_true_eq] at this
     omega
theorem cN {e:CY} {n:Nat} (h:n<=40):LJ e n=some (N8 e n):=by
 unfold LJ Hr N8 J4
 simp only [bs,BI (show -9223372036854775808<=(n:Int) - 1 by omega) (by omega)]
 have e1:decide (e.From<=(n:Int) - 1)=decide (e.From<n):=by rw [decide_eq_decide]; omega
 have e2:decide (e.To<=(n:Int) - 1)=decide (e.To<n):=by rw [decide_eq_decide]; omega
 rw [e1,e2]
 generalize (decide (0<=e.Type')&&decide (e.Type'<=99))=b1
 generalize (decide (0<=e.From)&&decide (e.From<n))=b2
 cases b1 <;> cases b2 <;> simp
theorem Mp (g:Graph):D3 g=some (C6 g):=by
 unfold D3 C6
 by_cases h:40<g.Nodes.length∨80<g.Edges.length
 ·rw [if_pos (by simp; omega),if_pos h]
 ·rw [if_neg (by simp; omega),if_neg h,show Kj=(fun n=>some (!J4 n)) from rfl,Vz,UM (p:=fun e=>!N8 e g.Nodes.length) (fun e _=>by
   unfold Kk
   rw [cN (by omega)]; rfl)]
  simp only [bs]
  cases g.Nodes.any fun n=>!J4 n
  ·cases g.Edges.any fun e=>!N8 e g.Nodes.length <;> rfl
  ·rfl
theorem Mr (g:Graph):F1 g=some (C6 g):=by
 unfold F1 C6
 by_cases h:40<g.Nodes.length∨80<g.Edges.length
 ·rw [if_pos (by simp; omega),if_pos h]
 ·rw [if_neg (by simp; omega),if_neg h,Jj,Jj,B3 (fun i=>!J4 (AA g.Nodes i)) 6]
  ·rw [B3 (fun i=>!N8 (AA g.Edges i) g.Nodes.length) 6]
   ·cases anyR (fun i=>!J4 (AA g.Nodes i)) 0 g.Nodes.length
    ·cases anyR (fun i=>!N8 (AA g.Edges i) g.Nodes.length) 0 g.Edges.length <;> rfl
    ·rfl
   ·intro i h1 h2 _
    rw [AF h1 h2,bs]
    unfold L3 N8
    simp only [show ∀ n,J6 n=some (J4 n) from fun _=>rfl,bs]
    generalize J4 (AA g.Edges i).Type'=b1
    cases b1 <;> cases decide (0<=(AA g.Edges i).From) <;> cases decide ((AA g.Edges i).From<g.Nodes.length) <;> cases decide (0<=(AA g.Edges i).To) <;> cases decide ((AA g.Edges i).To<g.Nodes.length) <;> rfl
  ·intro i h1 h2 _
   rw [AF h1 h2,bs,show J6 (AA g.Nodes i)=some (J4 (AA g.Nodes i)) from rfl,bs]
   cases J4 (AA g.Nodes i) <;> rfl
def FI (t:AD) (g:Graph):Bool:=!(g.Nodes.any fun n=>decide (t.Nodes.length<=n))&&!(g.Edges.any fun e=>decide (t.Edges.length<=e.Type'))
theorem Ls {t:AD} {g:Graph} (hg:JP g) (h:FI t g=true):(∀ n∈g.Nodes,0<=n∧n<t.Nodes.length)∧∀ e∈g.Edges,0<=e.Type'∧e.Type'<t.Edges.length:=by
 unfold FI at h
 simp only [Bool.and_eq_true,Bool.not_eq_true',List.any_eq_false,decide_eq_true_eq] at h
 refine ⟨fun n hn=>?_,fun e he=>?_⟩
 ·have:=h.1 n hn
  have:=hg.kind n hn
  omega
 ·have:=h.2 e he
  have:=hg.fit e he
  omega
theorem RU {t:AD} {g:Graph} (hg:JP g):IV t g=some (FI t g):=by
 unfold IV FI
 rw [Jj,Jj,B3 (fun i=>decide (t.Nodes.length<=AA g.Nodes i)) false]
 ·rw [B3 (fun i=>decide (t.Edges.length<=(AA g.Edges i).Type')) false]
  ·cases anyR (fun i=>decide (t.Nodes.length<=AA g.Nodes i)) 0 g.Nodes.length
   ·cases anyR (fun i=>decide (t.Edges.length<=(AA g.Edges i).Type')) 0 g.Edges.length <;> rfl
   ·rfl
  ·intro i h1 h2 _
   have:=(hg.fit _ (AO h1 h2)).1.1
   simp only [AF h1 h2,bs]
   rw [if_neg (by simp; omega),bs,IT]
 ·intro i h1 h2 _
  have:=(hg.kind _ (AO h1 h2)).1
  simp only [AF h1 h2,bs]
  rw [if_neg (by simp; omega),bs,IT]
structure G8 (t:AD):Prop where
 nodes:t.Nodes.length<=12
 edges:t.Edges.length<=20
 node:∀ i:Int,0<=i->i<t.Nodes.length->Ic t i=0
 edge:∀ i:Int,0<=i->i<t.Edges.length->J2 t i=0
theorem GG {t:AD} (h:(BC t).2=0):G8 t:=by
 unfold BC at h
 split at h
 ·cases h
 ·split at h
  ·cases h
  ·rename_i h1 h2
   have hn:∀ i:Int,0<=i->i<t.Nodes.length->Ic t i=0:=by
    split at h
    ·rename_i r hr
     obtain ⟨i,_,_,k3,_⟩:=EY hr
     unfold nz at k3
     split at k3
     ·cases k3
     ·rename_i hne
      cases k3; exact absurd h hne
    ·rename_i hr
     intro i k1 k2
     exact Mn.1 (Lk.1 (DP.1 hr i k1 k2))
   have he:∀ i:Int,0<=i->i<t.Edges.length->J2 t i=0:=by
    split at h
    ·rename_i r hr
     obtain ⟨i,k1,k2,k3,_⟩:=EY hr
     rw [hn i k1 k2] at k3
     cases k3
    ·cases hr:fst (fun i=>(nz (J2 t i)).map fun e=>((AA t.Edges i).Name,e)) 0 t.Edges.length with
     | some r=>
      rw [hr] at h
      obtain ⟨i,_,_,k3,_⟩:=EY hr
      unfold nz at k3
      split at k3
      ·cases k3
      ·rename_i hne
       cases k3; exact absurd h hne
     | none=>
      intro i k1 k2
      exact Mn.1 (Lk.1 (DP.1 hr i k1 k2))
   exact ⟨by omega,by omega,hn,he⟩
theorem G8.par {t:AD} (h:G8 t):F4 t t.Nodes.length:=QR h.node
theorem G8.ends {t:AD} (h:G8 t) {i:Int} (h0:0<=i) (h1:i<t.Edges.length):(0<=(AA t.Edges i).From∧(AA t.Edges i).From<t.Nodes.length)∧(0<=(AA t.Edges i).To∧(AA t.Edges i).To<t.Nodes.length):=by
 have:=h.edge i h0 h1
 unfold J2 at this
 dsimp only at this
 split at this
 ·cases this
 ·split at this
  ·cases this
  ·split at this
   ·rename_i hc; exact ⟨hc.1,hc.2.1⟩
   ·cases this
def H4 (t:AD) (a:Int):Bool:=decide (0<=a)&&decide (a<t.Nodes.length)
theorem Kx {t:AD} {a:Int}:H4 t a=true↔0<=a∧a<t.Nodes.length:=by unfold H4; simp
theorem RS {t:AD} (hf:BV t) (l:List Int):F3 t l=some (if (BC t).2≠0 then (BC t).2 else if (l.all (H4 t))=true then 0 else 6):=by
 unfold F3
 rw [Pv hf,bs,Sr (p:=fun a=>!H4 t a) (fun a _=>by unfold Ko H4; rw [show decide (a<0)=!decide (0<=a) from by rw [←decide_not,decide_eq_decide]; omega,show decide ((t.Nodes.length:Int)<=a)=!decide (a<t.Nodes.length) from by rw [←decide_not,decide_eq_decide]; omega,Bool.not_and]),bs]
 rw [show (l.any fun a=>!H4 t a)=!(l.all (H4 t)) from by rw [List.all_eq_not_any_not,Bool.not_not]]
 cases l.all (H4 t) <;> by_cases h:(BC t).2=0 <;> simp [h]
theorem Ul {t:AD} (hf:BV t) (a b:Int):JT t a b=some (if (BC t).2≠0 then (BC t).2 else if (H4 t a&&H4 t b)=true then 0 else 6):=by
 have hl:=hf.nodes
 have e:∀ a,decide (a<=(t.Nodes.length:Int) - 1)=decide (a<(t.Nodes.length:Int)):=fun a=>by rw [decide_eq_decide]; omega
 unfold JT D8
 rw [Px hf,bs]
 simp only [BI (show -9223372036854775808<=(t.Nodes.length:Int) - 1 by omega) (by omega),bs,e]
 change (if (!decide ((BC t).snd=0))=true then some (BC t).snd else (if (!H4 t a)=true then some true else some (!H4 t b)).bind fun x32=>if x32=true then some 6 else some 0)=_
 cases H4 t a <;> cases H4 t b <;> by_cases h:(BC t).2=0 <;> simp [h]
theorem Wo {α:Type} [Inhabited α] {l:List α} {i:Int} (h0:0<=i) (h1:i<l.length):CU l i (AA l i)=l:=by
 unfold CU AA
 rw [List.getD_eq_getElem?_getD,List.getElem?_eq_getElem (by omega)]
 exact List.set_getElem_self _
theorem Iv {α:Type} [Inhabited α] {l:List α} {i:Int} (h0:0<=i) (h1:i<l.length):l.take (i+1).toNat=l.take i.toNat++[AA l i]:=by
 unfold AA
 rw [show (i+1).toNat=i.toNat+1 by omega,List.take_add_one,List.getD_eq_getElem?_getD,List.getElem?_eq_getElem (by omega)]
 rfl
theorem Hp {α:Type} {l:List α} (h:l.length<=B0):CR [] l=some l:=by rw [DI (by simpa using h)]; rfl
def ID (t:AD) (a:Int):List Attr × Int:=if (BC t).2≠0 then ([],(BC t).2) else if H4 t a=true then (A9 t a,0) else ([],6)
theorem Uc {t:AD} (hf:BV t) (a:Int):Gz t a=some (ID t a):=by
 unfold Gz ID
 rw [RS hf,bs]
 by_cases h:(BC t).2=0
 ·have hok:=GG h
  have e:[a].all (H4 t)=H4 t a:=by simp
  rw [e]
  simp only [h,ne_eq,not_true_eq_false,if_false]
  cases hi:H4 t a
  ·rfl
  ·rw [if_pos rfl,if_pos rfl]
   have hr:=Kx.1 hi
   have hl:=LD hf (Int.le_refl _) hok.par hr.2
   have hw:=LC hf (Int.le_refl _) hok.par hr.2
   rw [if_neg (by decide),Ud hf (Int.le_refl _) hok.par hr.1 hr.2,bs]
   obtain ⟨s',h1,rfl⟩:=S3 (f:=(fun (i0:Int) (s0:List Attr)=>
 (AI s0 i0).bind fun x28=>
 (slices_Clone_string x28.Names).bind fun x31=>
 (AI s0 i0).bind fun x32=>
 some (CU s0 i0 (Attr.mk x32.Name x32.Low x32.High x31)))) (fun _ s=>s=A9 t a) (a:=0) (b:=(A9 t a).length) (s:=A9 t a) (by omega) rfl (fun i s k1 k2 hs=>by
     subst hs
     have:=(hw _ (AO k1 k2)).names
     refine ⟨A9 t a,?_,rfl⟩
     unfold slices_Clone_string
     rw [AF k1 k2,bs,Hp (by unfold B0; omega),bs,bs]
     congr 1
     exact Wo k1 k2)
   rw [h1]; rfl
 ·simp only [h,ne_eq,not_false_eq_true,if_true,decide_false,Bool.not_false]
theorem Uh {t:AD} (hf:BV t) (a:Int):JR t a=some (ID t a):=by
 unfold JR ID
 rw [Ul hf,bs]
 by_cases h:(BC t).2=0
 ·have hok:=GG h
  rw [Bool.and_self]
  simp only [h,ne_eq,not_true_eq_false,if_false]
  cases hi:H4 t a
  ·rfl
  ·rw [if_pos rfl,if_pos rfl]
   have hr:=Kx.1 hi
   have hl:=LD hf (Int.le_refl _) hok.par hr.2
   have hw:=LC hf (Int.le_refl _) hok.par hr.2
   rw [if_neg (by decide),Ui hf (Int.le_refl _) hok.par hr.1 hr.2,bs]
   rw [Hj (fun i=>(A9 t a).take i.toNat) (by omega) (by simp)]
   ·rw [bs,Int.toNat_natCast,List.take_length]
   ·intro i k1 k2
    have:=(hw _ (AO k1 k2)).names
    rw [AF k1 k2,bs,Hp (by unfold B0; omega),bs,DI (by rw [List.length_take]; simp; unfold B0; omega),Iv k1 k2]
    rfl
 ·simp only [h,ne_eq,not_false_eq_true,if_true,decide_false,Bool.not_false]
end Go.Sf.Sc
namespace Go.Sf.Sc
open Go Go.Sf
def MK (t:AD):Nat->Int->List Int
 | 0,_=>[]
 | n+1,a=>if a<0 then [] else a::MK t n (par t a)
theorem Uv (t:AD):∀ (n:Nat) (a:Int),(MK t n a).length<=n
 | 0,_=>by simp [MK]
 | n+1,a=>by
  rw [MK]
  split
  ·simp
  ·have:=Uv t n (par t a); simp; omega
def H5 (t:AD) (a b:Int):Bool:=(MK t (a+1).toNat a).any fun x=>decide (b=x)
theorem UY {t:AD} (h12:t.Nodes.length<=12) (hp:F4 t t.Nodes.length):∀ (n:Nat) (a:Int) (l:List Int),a<t.Nodes.length->a<n->l.length+n<=1000 ->
  ∃ x,K9 (ρ:=List Int) (fun (s0:Int × List Int)=>
 if (decide (0<=s0.1))=true then
 (CR s0.2 [s0.1]).bind fun x17=>
 (AI t.Nodes s0.1).bind fun x11=>
 some (.next (x11.Parent,x17))
 else
 some (.brk (s0.1,s0.2))) (a,l) (.inl (x,l++MK t n a))
 | 0,a,l,h1,h2,_=>by
  refine ⟨a,.brk ?_⟩
  rw [if_neg (by simp; omega)]
  simp [MK]
 | n+1,a,l,h1,h2,h3=>by
  by_cases h0:a<0
  ·refine ⟨a,.brk ?_⟩
   rw [if_neg (by simp; omega)]
   simp [MK,h0]
  ·have hq:=hp a (by omega) h1
   obtain ⟨x,hx⟩:=UY h12 hp n (par t a) (l++[a]) (by omega) (by omega) (by simp; omega)
   refine ⟨x,.next (s':=(par t a,l++[a])) ?_ ?_⟩
   ·rw [if_pos (by simp; omega),DI (by simp; unfold B0; omega),bs,AF (by omega) h1]; rfl
   ·rw [MK,if_neg h0,show l++a::MK t n (par t a)=(l++[a])++MK t n (par t a) by simp]
    exact hx
theorem X0 {t:AD} (h:G8 t) {a b:Int} (ha:0<=a) (ha2:a<t.Nodes.length):Ia t a b=some (H5 t a b):=by
 have h12:=h.nodes
 obtain ⟨x,hx⟩:=UY h12 h.par (a+1).toNat a [] ha2 (by omega) (by simp; omega)
 have hl:=Uv t (a+1).toNat a
 unfold Ia JB
 rw [hx.eq,DT]
 simp only [List.nil_append]
 unfold slices_Reverse_int
 rw [if_pos (by unfold B0; omega)]
 simp only [bs]
 rw [Sv,bs]
 unfold H5
 rw [List.any_reverse]
theorem TW {t:AD} (hp:F4 t t.Nodes.length) {b:Int} (hb:0<=b):∀ (n m:Nat) (a:Int),-1<=a->a<t.Nodes.length->a+1<n->a<m->GI n t a b=some ((MK t m a).any fun x=>decide (b=x))
 | 0,_,_,_,_,_,_=>by omega
 | n+1,m,a,h0,h1,h2,h3=>by
  rw [GI]
  by_cases ha:a<0
  ·rw [if_neg (by simp; omega),if_neg (by simp; omega)]
   cases m <;> simp [MK,ha]
  ·cases m with
   | zero=>omega
   | succ m=>
    have hq:=hp a (by omega) h1
    rw [MK,if_neg ha,List.any_cons,if_pos (show decide (0<=a)=true by simp; omega),AF (by omega) h1]
    simp only [bs]
    rw [show (AA t.Nodes a).Parent=par t a from rfl,TW hp hb n m (par t a) (by omega) (by omega) (by omega) (by omega)]
    by_cases hab:a=b
    ·simp [hab]
    ·have:¬ b=a:=fun e=>hab e.symm
     simp [hab,this]
theorem Py {t:AD} (h:G8 t) {a b:Int} (ha:0<=a) (ha2:a<t.Nodes.length) (hb:0<=b):Ht t a b=some (H5 t a b):=
 ET (a+2).toNat fun n hn=>TW h.par hb n (a+1).toNat a (by omega) ha2 (by omega) (by omega)
def N9 (t:AD) (e f g:Int):Bool:=
 decide ((BC t).2=0)&&(H4 t f&&H4 t g)&&(decide (0<=e)&&decide (e<t.Edges.length))&&(H5 t f (AA t.Edges e).From&&H5 t g (AA t.Edges e).To)
theorem cI {t:AD} (hf:BV t) (e f g:Int):IN t e f g=some (N9 t e f g):=by
 unfold IN N9
 rw [RS hf,bs,show [f,g].all (H4 t)=(H4 t f&&H4 t g) by simp]
 by_cases h:(BC t).2=0
 ·simp only [h,ne_eq,not_true_eq_false,if_false]
  have hok:=GG h
  cases hi:(H4 t f&&H4 t g)
  ·rfl
  ·rw [Bool.and_eq_true,Kx,Kx] at hi
   by_cases he:0<=e∧e<t.Edges.length
   ·rw [if_neg (by simp; omega),AF he.1 he.2]
    simp only [bs,X0 hok hi.1.1 hi.1.2,X0 hok hi.2.1 hi.2.2,he.1,he.2,decide_true,Bool.true_and]
    cases H5 t f (AA t.Edges e).From <;> rfl
   ·rw [if_pos (by simp; omega)]
    have:(decide (0<=e)&&decide (e<t.Edges.length))=false:=by rw [Bool.eq_false_iff]; simpa using he
    rw [this]; simp
 ·simp [h]
theorem cV {t:AD} (hf:BV t) (e f g:Int):LO t e f g=some (N9 t e f g):=by
 have hl:=hf.edges
 unfold LO N9 D8
 rw [Ul hf,bs]
 by_cases h:(BC t).2=0
 ·simp only [h,ne_eq,not_true_eq_false,if_false]
  have hok:=GG h
  cases hi:(H4 t f&&H4 t g)
  ·rfl
  ·rw [Bool.and_eq_true,Kx,Kx] at hi
   rw [BI (by omega) (by omega)]
   simp only [bs]
   by_cases he:0<=e∧e<t.Edges.length
   ·have he2:=hok.ends he.1 he.2
    have he3:e<=(t.Edges.length:Int) - 1:=by omega
    rw [if_neg (by simp),bs,if_neg (by simp [he.1,he3]),AF he.1 he.2]
    simp only [bs,Py hok hi.1.1 hi.1.2 he2.1.1,Py hok hi.2.1 hi.2.2 he2.2.1,he.1,he.2,decide_true,Bool.true_and]
    cases H5 t f (AA t.Edges e).From <;> rfl
   ·have:(decide (0<=e)&&decide (e<t.Edges.length))=false:=by rw [Bool.eq_false_iff]; simpa using he
    have h2:(decide (0<=e)&&decide (e<=(t.Edges.length:Int) - 1))=false:=by rw [Bool.eq_false_iff]; simp; omega
    rw [this,h2]; simp
 ·simp [h]
def LX (n:Int) (x:Term):Bool:=(((decide ((-1)<=x.Var))&&(decide (x.Var<n)))&&(decide ((-1000000)<=x.Add)))&&(decide (x.Add<=1000000))
def L9 (n:Int) (x:Test):Int:=if ¬ x.Kind=1∧¬ x.Kind=2 then 1 else if (LX n x.Left&&LX n x.Right)=true then 0 else 6
def JM (n:Int) (l:List Test):Int:=if n<0∨12<n then 6 else if 40<l.length then 3 else (fst (fun i=>nz (L9 n (AA l i))) 0 l.length).getD 0
theorem cR (n:Int) (x:Test):Ik n x=some (L9 n x):=by
 unfold Ik L9
 simp only [show ∀ n x,IG n x=some (LX n x) from fun _ _=>rfl,bs]
 generalize LX n x.Left=b1
 generalize LX n x.Right=b2
 cases b1 <;> cases b2
 all_goals
  simp only [bs,decide_eq_true_eq,Bool.or_eq_true,Bool.and_eq_true,Bool.not_eq_true',decide_eq_false_iff_not,Bool.not_eq_false',Bool.or_eq_false_iff,Bool.and_eq_false_iff,ne_eq]
  repeat' (first | rfl | (exfalso; omega; done) | split)
  all_goals (first | rfl | (exfalso; omega) | omega | simp_all | (simp_all; omega))
theorem YC (n:Int) (x:Term):Ip n x=some (if LX n x=true then 0 else 6):=by
 unfold Ip LX
 simp only [bs,decide_eq_true_eq,Bool.or_eq_true,Bool.and_eq_true,Bool.not_eq_true',decide_eq_false_iff_not,Bool.not_eq_false',Bool.or_eq_false_iff,Bool.and_eq_false_iff,ne_eq]
 repeat' (first | rfl | (exfalso; omega; done) | split)
 all_goals (first | rfl | (exfalso; omega) | omega | simp_all | (simp_all; omega))
theorem cd (n:Int) (x:Test):MF n x=some (L9 n x):=by
 unfold MF L9
 simp only [YC,bs]
 generalize LX n x.Left=b1
 generalize LX n x.Right=b2
 cases b1 <;> cases b2
 all_goals
  simp only [bs,decide_eq_true_eq,Bool.or_eq_true,Bool.and_eq_true,Bool.not_eq_true',decide_eq_false_iff_not,Bool.not_eq_false',Bool.or_eq_false_iff,Bool.and_eq_false_iff,ne_eq]
  repeat' (first | rfl | (exfalso; omega; done) | split)
  all_goals (first | rfl | (exfalso; omega) | omega | simp_all | (simp_all; omega))
theorem aD (n:Int) (l:List Test):Hq n l=some (JM n l):=by
 unfold Hq JM
 rw [CF (fun i=>nz (L9 n (AA l i))),GE]
 ·simp only [bs,decide_eq_true_eq,Bool.or_eq_true,Bool.and_eq_true,Bool.not_eq_true',decide_eq_false_iff_not,Bool.not_eq_false',Bool.or_eq_false_iff,Bool.and_eq_false_iff,ne_eq]
  repeat' (first | rfl | (exfalso; omega; done) | split)
  all_goals (first | rfl | (exfalso; omega) | omega | simp_all | (simp_all; omega))
 ·intro i h1 h2 _
  rw [AF h1 h2,bs,cR,bs,Nn]
theorem aP (n:Int) (l:List Test):KU n l=some (JM n l):=by
 unfold KU JM
 rw [CF (fun i=>nz (L9 n (AA l i))),GE]
 ·simp only [bs,decide_eq_true_eq,Bool.or_eq_true,Bool.and_eq_true,Bool.not_eq_true',decide_eq_false_iff_not,Bool.not_eq_false',Bool.or_eq_false_iff,Bool.and_eq_false_iff,ne_eq]
  repeat' (first | rfl | (exfalso; omega; done) | split)
  all_goals (first | rfl | (exfalso; omega) | omega | simp_all | (simp_all; omega))
 ·intro i h1 h2 _
  rw [AF h1 h2,bs,cd,bs,Nn]
def NE (t:AD) (p:Pattern) (node ix:Int):Attr × Bool:=
 if node<0∨p.Graph.Nodes.length<=node then (default,false) else
 let l:=(ID t (AA p.Graph.Nodes node)).1
 if ix<0∨l.length<=ix then (default,false) else (AA l ix,true)
theorem Qi {t:AD} (hf:BV t) (a:Int):(ID t a).1.length<=600∧((ID t a).2≠0->(ID t a).1=[]):=by
 unfold ID
 split
 ·simp
 ·rename_i h
  have hok:=GG (t:=t) (by omega)
  split
  ·rename_i hi
   exact ⟨LD hf (Int.le_refl _) hok.par (Kx.1 hi).2,by simp⟩
  ·simp
theorem Z5 {t:AD} (hf:BV t) {p:Pattern} (hg:JP p.Graph) (s:DO):FV t p s=some (NE t p s.Node s.Attr):=by
 have hn:=hg.nodes
 unfold FV NE C9
 dsimp only
 rw [BI (by omega) (by omega),bs]
 by_cases h:s.Node<0∨p.Graph.Nodes.length<=s.Node
 ·rw [if_pos (by simp; omega),if_pos h]; rfl
 ·rw [if_neg (by simp; omega),if_neg h,AF (by omega) (by omega),bs,Uc hf,bs]
  have hl:=(Qi hf (AA p.Graph.Nodes s.Node)).1
  rw [BI (by omega) (by omega),bs]
  by_cases h2:s.Attr<0∨(ID t (AA p.Graph.Nodes s.Node)).1.length<=s.Attr
  ·rw [if_pos (by simp; omega),if_pos h2]; rfl
  ·rw [if_neg (by simp; omega),if_neg h2,AF (by omega) (by omega)]; rfl
theorem aH {t:AD} (hf:BV t) {p:Pattern} (node ix:Int):LS t p node ix=some (NE t p node ix):=by
 unfold LS NE
 dsimp only
 by_cases h:node<0∨p.Graph.Nodes.length<=node
 ·rw [if_pos (by simp; omega),if_pos h]; rfl
 ·rw [if_neg (by simp; omega),if_neg h,AF (by omega) (by omega),bs,Uh hf,bs]
  have hl:=(Qi hf (AA p.Graph.Nodes node)).2
  by_cases h2:ix<0∨(ID t (AA p.Graph.Nodes node)).1.length<=ix
  ·rw [if_pos (by simp; omega),if_pos h2]; rfl
  ·by_cases he:(ID t (AA p.Graph.Nodes node)).2=0
   ·rw [if_neg (by simp [he]; omega),if_neg h2,AF (by omega) (by omega)]; rfl
   ·rw [hl he] at h2; simp at h2; omega
end Go.Sf.Sc
namespace Go.Sf
variable {σ ρ:Type}
def dL (s:σ) (o:Option ρ):CH σ ρ:=match o with
 | none=>.next s
 | some r=>.ret r
def ZK (s:σ) (o:Option ρ):σ ⊕ ρ:=match o with
 | none=>.inl s
 | some r=>.inr r
theorem S4 {f:Int->σ->Option (CH σ ρ)} (g:Int->σ) (c:Int->Option ρ):∀ (n:Nat) (a:Int),
  (∀ i,a<=i->i<a+n->(∀ j,a<=j->j<i->c j=none)->f i (g i)=some (dL (g (i+1)) (c i)))->forGo f n a (g a)=some (ZK (g (a+n)) (FZ c n a))
 | 0,a,_=>by simp [forGo,FZ,ZK]
 | n+1,a,h=>by
  have h0:=h a (Int.le_refl _) (by omega) (fun j h1 h2=>by omega)
  rw [GV,h0,FZ]
  cases hc:c a with
  | some r=>rfl
  | none=>
   simp only [dL]
   rw [show a+((n+1:Nat):Int)=a+1+n by omega]
   refine S4 g c n (a+1) (fun i h1 h2 h3=>h i (by omega) (by omega) (fun j h4 h5=>?_))
   by_cases hj:j=a
   ·subst hj; exact hc
   ·exact h3 j (by omega) h5
theorem Nk {f:Int->σ->Option (CH σ ρ)} (g:Int->σ) (c:Int->Option ρ) {a b:Int} {s:σ} (hab:a<=b) (hs:s=g a) (h:∀ i,a<=i->i<b->(∀ j,a<=j->j<i->c j=none)->f i (g i)=some (dL (g (i+1)) (c i))):forR f a b s=some (ZK (g b) (fst c a b)):=by
 subst hs
 unfold forR fst
 have:=S4 g c (b - a).toNat a (fun i h1 h2 h3=>h i h1 (by omega) h3)
 rwa [show a+((b - a).toNat:Int)=b by omega] at this
variable {α:Type}
theorem HM {e:Int} {X:Option Int} {Y:Int} (h:e=0->X=some Y):(if (!decide (e=0))=true then some e else X)=some (if e≠0 then e else Y):=by
 by_cases he:e=0
 ·simp [he,h he]
 ·simp [he]
theorem KD {e:Int} {v:α} {X:Option α} {Y:α} (h:e=0->X=some Y):(if (!decide (e=0))=true then some v else X)=some (if e≠0 then v else Y):=by
 by_cases he:e=0
 ·simp [he,h he]
 ·simp [he]
theorem Nh {P:Prop} [Decidable P] {b:Bool} {v:α} {X:Option α} {Y:α} (hb:b=true↔P) (h:¬ P->X=some Y):(if b=true then some v else X)=some (if P then v else Y):=by
 by_cases hp:P
 ·rw [if_pos (hb.2 hp),if_pos hp]
 ·rw [if_neg (fun h=>hp (hb.1 h)),if_neg hp,h hp]
theorem UN {b:Bool} {v:α} {X:Option α} {Y:α} (h:b=true->X=some Y):(if (!b)=true then some v else X)=some (if b=false then v else Y):=by
 cases b
 ·rfl
 ·simpa using h rfl
theorem kU {b:Bool} {v:α} {X:Option α} {Y:α} (h:b=false->X=some Y):(if b=true then some v else X)=some (if b=true then v else Y):=by
 cases b
 ·simpa using h rfl
 ·rfl
end Go.Sf
namespace Go.Sf.Sc
open Go Go.Sf
def N0 (t:AD) (p:Pattern) (s:DO):Bool:=!(NE t p s.Node s.Attr).2||decide (s.Term.Var < -1)||decide (p.Vars<=s.Term.Var)||(decide (s.Term.Add < -1000000)||decide (1000000<s.Term.Add))
def Jo (p:Pattern) (v:Int):Bool:=p.Slots.any fun s=>decide (s.Term.Var=v)
def Jq (t:AD) (p:Pattern):Int:=
 if (BC t).2≠0 then (BC t).2 else if C6 p.Graph≠0 then C6 p.Graph else if FI t p.Graph=false then 13 else
 if p.Vars<0∨12<p.Vars then 6 else if 10<p.Slots.length∨10<p.Tests.length then 3 else
 if (p.Slots.any (N0 t p))=true then 6 else if JM p.Vars p.Tests≠0 then JM p.Vars p.Tests else
 if anyR (fun v=>!Jo p v) 0 p.Vars=true then 9 else 0
def JE (p:Pattern) (i:Int):List Bool:=(List.range p.Vars.toNat).map fun (v:Nat)=>(p.Slots.take i.toNat).any fun s=>decide (s.Term.Var=(v:Int))
theorem Vp {p:Pattern}:JE p 0=List.replicate p.Vars.toNat false:=by
 unfold JE
 refine List.ext_getElem (by simp) (fun n h1 h2=>by simp)
theorem XC (p:Pattern) (i:Int):(JE p i).length=p.Vars.toNat:=by simp [JE]
theorem XD {p:Pattern} {i:Int} (h0:0<=i) (h1:i<p.Slots.length) (hv:0<=(AA p.Slots i).Term.Var):CU (JE p i) (AA p.Slots i).Term.Var true=JE p (i+1):=by
 unfold CU
 refine List.ext_getElem (by simp [JE]) (fun n k1 k2=>?_)
 simp only [JE,List.getElem_set,List.getElem_map,List.getElem_range,Iv h0 h1,List.any_append,List.any_cons,List.any_nil,Bool.or_false]
 by_cases hn:(AA p.Slots i).Term.Var.toNat=n
 ·rw [if_pos hn,decide_eq_true (show (AA p.Slots i).Term.Var=(n:Int) by omega),Bool.or_true]
 ·rw [if_neg hn,decide_eq_false (show ¬ (AA p.Slots i).Term.Var=(n:Int) by omega),Bool.or_false]
theorem Vo {p:Pattern} {i:Int} (h0:0<=i) (h1:i<p.Slots.length) (hv:(AA p.Slots i).Term.Var<0):JE p i=JE p (i+1):=by
 refine List.ext_getElem (by simp [JE]) (fun n k1 k2=>?_)
 simp only [JE,List.getElem_map,List.getElem_range,Iv h0 h1,List.any_append,List.any_cons,List.any_nil,Bool.or_false]
 rw [decide_eq_false (show ¬ (AA p.Slots i).Term.Var=(n:Int) by omega),Bool.or_false]
theorem XB (p:Pattern):((JE p p.Slots.length).any fun x=>false==x)=anyR (fun v=>!Jo p v) 0 p.Vars:=by
 rw [Bool.eq_iff_iff,List.any_eq_true,Ho]
 simp only [JE,Int.toNat_natCast,List.take_length,List.mem_map,List.mem_range]
 constructor
 ·rintro ⟨x,⟨v,hv,rfl⟩,hx⟩
  refine ⟨v,by omega,by omega,?_⟩
  unfold Jo
  revert hx
  cases p.Slots.any fun s=>decide (s.Term.Var=(v:Int)) <;> simp
 ·rintro ⟨v,h0,h1,hx⟩
  refine ⟨_,⟨v.toNat,by omega,rfl⟩,?_⟩
  rw [Int.toNat_of_nonneg h0]
  unfold Jo at hx
  revert hx
  cases p.Slots.any fun s=>decide (s.Term.Var=v) <;> simp
theorem Zt {α ρ:Type} [Inhabited α] {l:List α} {q:α->Bool} {v:ρ}:fst (fun i=>if q (AA l i)=true then some v else none) 0 l.length=if l.any q=true then some v else none:=by
 rw [MC,Jj]
theorem SW {t:AD} (hf:BV t) (p:Pattern):DX t p=some (Jq t p):=by
 unfold DX Jq
 rw [Pv hf,bs,Mp,bs]
 refine HM fun ht=>HM fun hg=>?_
 have hgo:=FB hg
 have e:((BL p.Graph.Nodes (fun y0=>HK y0 t)).bind fun x32=>
   (if x32=true then some true else ((BU p.Graph.Edges (fun y0=>HL y0 t)).bind fun x38=>some (x38))))=some (!FI t p.Graph):=by
  unfold FI
  rw [show (fun y0=>HK y0 t)=(fun (n:Int)=>some (decide (t.Nodes.length<=n))) from rfl,Vz,show (fun y0=>HL y0 t)=(fun (e:CY)=>some (decide (t.Edges.length<=e.Type'))) from rfl,Zi]
  simp only [bs]
  cases p.Graph.Nodes.any fun n=>decide (t.Nodes.length<=n) <;> simp
 rw [←Option.bind_assoc,e,bs]
 refine UN fun htd=>?_
 unfold C9
 simp only [bs]
 refine Nh (by simp; try omega) fun hv=>Nh (by simp; try omega) fun hl=>?_
 unfold KP
 rw [if_pos (by omega),bs,←Vp,BI (show -9223372036854775808<=p.Vars - 1 by omega) (by omega),Nk (JE p) (fun i=>if N0 t p (AA p.Slots i)=true then some 6 else none) (by omega) rfl,Zt]
 ·cases hb:p.Slots.any (N0 t p)
  ·simp only [Bool.false_eq_true,if_false,ZK,DT,aD,bs,Zm,XB]
   by_cases hte:JM p.Vars p.Tests=0
   ·simp only [hte]
    cases anyR (fun v=>!Jo p v) 0 p.Vars <;> rfl
   ·simp [hte]
  ·rfl
 ·intro i h1 h2 _
  rw [AF h1 h2,bs,Z5 hf hgo,bs]
  unfold N0
  by_cases hb:(NE t p (AA p.Slots i).Node (AA p.Slots i).Attr).2=true
  ·by_cases hvar:(AA p.Slots i).Term.Var < -1∨p.Vars<=(AA p.Slots i).Term.Var
   ·have e1:(decide (-1<=(AA p.Slots i).Term.Var)&&decide ((AA p.Slots i).Term.Var<=p.Vars - 1))=false:=by rw [Bool.eq_false_iff]; simp; omega
    have e2:(decide ((AA p.Slots i).Term.Var < -1)||decide (p.Vars<=(AA p.Slots i).Term.Var))=true:=by simp; omega
    rw [hb,e1,Bool.or_assoc (!true),e2]; rfl
   ·have e1:(decide (-1<=(AA p.Slots i).Term.Var)&&decide ((AA p.Slots i).Term.Var<=p.Vars - 1))=true:=by simp; omega
    have e2:(decide ((AA p.Slots i).Term.Var < -1)||decide (p.Vars<=(AA p.Slots i).Term.Var))=false:=by rw [Bool.eq_false_iff]; simp; omega
    rw [hb,e1,Bool.or_assoc (!true),e2]
    by_cases ha:(AA p.Slots i).Term.Add < -1000000∨1000000<(AA p.Slots i).Term.Add
    ·have e3:(decide (-1000000<=(AA p.Slots i).Term.Add)&&decide ((AA p.Slots i).Term.Add<=1000000))=false:=by rw [Bool.eq_false_iff]; simp; omega
     have e4:(decide ((AA p.Slots i).Term.Add < -1000000)||decide (1000000<(AA p.Slots i).Term.Add))=true:=by simp; omega
     rw [e3,e4]; rfl
    ·have e3:(decide (-1000000<=(AA p.Slots i).Term.Add)&&decide ((AA p.Slots i).Term.Add<=1000000))=true:=by simp; omega
     have e4:(decide ((AA p.Slots i).Term.Add < -1000000)||decide (1000000<(AA p.Slots i).Term.Add))=false:=by rw [Bool.eq_false_iff]; simp; omega
     rw [e3,e4]
     by_cases h0:0<=(AA p.Slots i).Term.Var
     ·simp only [Bool.not_true,Bool.false_eq_true,if_false,bs,h0,decide_true,if_true,Bool.or_false]
      rw [AF h0 (by rw [XC]; omega),bs,XD h1 h2 h0]; rfl
     ·simp only [Bool.not_true,Bool.false_eq_true,if_false,bs,h0,decide_false,Bool.or_false]
      rw [Vo h1 h2 (by omega)]; rfl
  ·rw [Bool.not_eq_true] at hb
   rw [hb]; rfl
theorem Y8 (p:Pattern) (v:Int):Jv p v=some (Jo p v):=by
 unfold Jv Jo
 rw [B3 (fun i=>decide ((AA p.Slots i).Term.Var=v)) true,Jj]
 ·cases anyR (fun i=>decide ((AA p.Slots i).Term.Var=v)) 0 p.Slots.length <;> rfl
 ·intro i h1 h2 _
  rw [AF h1 h2,bs,IT]
theorem VT {t:AD} (hf:BV t) (p:Pattern):IX t p=some (Jq t p):=by
 unfold IX Jq
 rw [Px hf,bs,Mr,bs]
 refine HM fun ht=>HM fun hg=>?_
 have hgo:=FB hg
 rw [RU hgo,bs]
 refine UN fun htd=>Nh (by simp; try omega) fun hv=>Nh (by simp; try omega) fun hl=>?_
 rw [B3 (fun i=>N0 t p (AA p.Slots i)) 6,←Jj]
 ·cases hb:p.Slots.any (N0 t p)
  ·simp only [Bool.false_eq_true,if_false,DT,aP,bs]
   by_cases hte:JM p.Vars p.Tests=0
   ·simp only [hte]
    rw [B3 (fun v=>!Jo p v) 9]
    ·cases anyR (fun v=>!Jo p v) 0 p.Vars <;> rfl
    ·intro i h1 h2 _
     rw [Y8,bs,IT]
   ·simp [hte]
  ·rfl
 ·intro i h1 h2 _
  rw [AF h1 h2,bs,aH hf,bs]
  unfold N0 Kl
  simp only [bs]
  have e:(!(decide (-1000000<=(AA p.Slots i).Term.Add)&&decide ((AA p.Slots i).Term.Add<=1000000)))=(decide ((AA p.Slots i).Term.Add < -1000000)||decide (1000000<(AA p.Slots i).Term.Add)):=by
   rw [Bool.not_and,←decide_not,←decide_not]
   congr 1 <;> rw [decide_eq_decide] <;> omega
  rw [e]
  cases (!(NE t p (AA p.Slots i).Node (AA p.Slots i).Attr).2||decide ((AA p.Slots i).Term.Var < -1)||decide (p.Vars<=(AA p.Slots i).Term.Var))
  ·simp only [Bool.false_eq_true,if_false,bs,Bool.false_or,IT]
  ·rfl
end Go.Sf.Sc
namespace Go.Sf
theorem UA {l:List Int} {R:Int->Int->Prop} (h:l.Pairwise R) {i j:Int} (h0:0<=i) (h1:i<j) (h2:j<l.length):R (AA l i) (AA l j):=by
 have:=(List.pairwise_iff_getElem.1 h) i.toNat j.toNat (by omega) (by omega) (by omega)
 unfold AA
 rw [List.getD_eq_getElem?_getD,List.getD_eq_getElem?_getD,List.getElem?_eq_getElem (by omega),List.getElem?_eq_getElem (by omega)]
 exact this
theorem Ty {l:List Int} {R:Int->Int->Prop} (h:∀ i j:Int,0<=i->i<j->j<l.length->R (AA l i) (AA l j)):l.Pairwise R:=by
 refine List.pairwise_iff_getElem.2 (fun i j h1 h2 h3=>?_)
 have:=h i j (by omega) (by omega) (by omega)
 unfold AA at this
 rw [List.getD_eq_getElem?_getD,List.getD_eq_getElem?_getD,Int.toNat_natCast,Int.toNat_natCast,List.getElem?_eq_getElem h1,List.getElem?_eq_getElem h2] at this
 exact this
end Go.Sf
namespace Go.Sf.Sc
open Go Go.Sf
theorem Rp {c:Int->Option Int} {a b:Int} (hc:∀ i,c i≠some 0) (h:(fst c a b).getD 0=0):∀ i,a<=i->i<b->c i=none:=by
 have:fst c a b=none:=by
  cases hf:fst c a b with
  | none=>rfl
  | some r=>
   rw [hf] at h
   simp only [Option.getD] at h
   subst h
   obtain ⟨i,_,_,h3,_⟩:=EY hf
   exact (hc i h3).elim
 exact DP.1 this
end Go.Sf.Sc
namespace Go.Sf.Sc
open Go Go.Sf
def KO (a b:Graph) (m:Morphism) (i:Int):Option Int:=
 if AA m.Nodes i<0∨b.Nodes.length<=AA m.Nodes i then some 6 else if AA b.Nodes (AA m.Nodes i)≠AA a.Nodes i then some 13 else none
def HT (a b:Graph) (m:Morphism) (i:Int):Option Int:=
 if AA m.Edges i<0∨b.Edges.length<=AA m.Edges i then some 6 else
 if (AA a.Edges i).Type'≠(AA b.Edges (AA m.Edges i)).Type' then some 13 else
 if AA m.Nodes (AA a.Edges i).From≠(AA b.Edges (AA m.Edges i)).From∨AA m.Nodes (AA a.Edges i).To≠(AA b.Edges (AA m.Edges i)).To then some 11 else none
def Nb (a b:Graph) (m:Morphism):Int:=
 if C6 a≠0 then C6 a else if C6 b≠0 then C6 b else if m.Nodes.length≠a.Nodes.length∨m.Edges.length≠a.Edges.length then 20 else
 match fst (KO a b m) 0 m.Nodes.length with
 | some e=>e
 | none=>(fst (HT a b m) 0 m.Edges.length).getD 0
structure Yt (a b:Graph) (m:Morphism):Prop where
 ga:JP a
 gb:JP b
 nlen:m.Nodes.length=a.Nodes.length
 elen:m.Edges.length=a.Edges.length
 node:∀ i:Int,0<=i->i<m.Nodes.length->(0<=AA m.Nodes i∧AA m.Nodes i<b.Nodes.length)∧AA b.Nodes (AA m.Nodes i)=AA a.Nodes i
 edge:∀ i:Int,0<=i->i<m.Edges.length->(0<=AA m.Edges i∧AA m.Edges i<b.Edges.length)∧(AA a.Edges i).Type'=(AA b.Edges (AA m.Edges i)).Type' ∧
  AA m.Nodes (AA a.Edges i).From=(AA b.Edges (AA m.Edges i)).From∧AA m.Nodes (AA a.Edges i).To=(AA b.Edges (AA m.Edges i)).To
theorem Y2 {a b:Graph} {m:Morphism} (h:Nb a b m=0):Yt a b m:=by
 unfold Nb at h
 split at h
 ·omega
 split at h
 ·omega
 split at h
 ·cases h
 rename_i h1 h2 h3
 have hn:fst (KO a b m) 0 m.Nodes.length=none:=by
  split at h
  ·rename_i r hr
   obtain ⟨i,_,_,k,_⟩:=EY hr
   subst h
   unfold KO at k
   split at k
   ·cases k
   ·split at k <;> cases k
  ·assumption
 rw [hn] at h
 have he:=Rp (fun i=>by
  unfold HT
  split
  ·simp
  ·split
   ·simp
   ·split <;> simp) h
 refine ⟨FB (by omega),FB (by omega),by omega,by omega,fun i i1 i2=>?_,fun i i1 i2=>?_⟩
 ·have:=DP.1 hn i i1 i2
  unfold KO at this
  split at this
  ·cases this
  ·split at this
   ·cases this
   ·rename_i x y
    exact ⟨by omega,Classical.not_not.1 y⟩
 ·have:=he i i1 i2
  unfold HT at this
  split at this
  ·cases this
  ·split at this
   ·cases this
   ·split at this
    ·cases this
    ·rename_i x y z
     exact ⟨by omega,Classical.not_not.1 y,Classical.not_not.1 (fun h=>z (.inl h)),Classical.not_not.1 (fun h=>z (.inr h))⟩
theorem Y3 (a b:Graph) (m:Morphism):EL a b m=some (Nb a b m):=by
 unfold EL Nb
 rw [Mp,bs,Mp,bs]
 refine HM fun ha=>HM fun hb=>Nh (by simp; try omega) fun hl=>?_
 have ga:=FB ha
 have gb:=FB hb
 rw [CF (KO a b m),E7]
 ·cases hn:fst (KO a b m) 0 m.Nodes.length with
  | some e=>rfl
  | none=>
   have hn2:=DP.1 hn
   dsimp only
   rw [CF (HT a b m),GE]
   intro i i1 i2 _
   unfold HT
   rw [AF i1 i2,bs]
   by_cases h1:AA m.Edges i<0∨b.Edges.length<=AA m.Edges i
   ·rw [if_pos (by simpa using h1),if_pos h1]; rfl
   ·have hf:=ga.fit _ (AO (l:=a.Edges) i1 (by omega))
    rw [if_neg (by simpa using h1),if_neg h1,AF i1 (by omega),bs,AF (by omega) (by omega),bs]
    by_cases h2:(AA a.Edges i).Type'=(AA b.Edges (AA m.Edges i)).Type'
    ·rw [if_neg (by simpa using h2),if_neg (by simpa using h2),AF (by omega) (by omega),bs]
     by_cases h3:AA m.Nodes (AA a.Edges i).From=(AA b.Edges (AA m.Edges i)).From
     ·rw [if_neg (by simpa using h3),AF (by omega) (by omega),bs,bs]
      by_cases h4:AA m.Nodes (AA a.Edges i).To=(AA b.Edges (AA m.Edges i)).To
      ·rw [if_neg (by simpa using h4),if_neg (by simp [h3,h4])]; rfl
      ·rw [if_pos (by simpa using h4),if_pos (.inr h4)]; rfl
     ·rw [if_pos (by simpa using h3),bs,if_pos rfl,if_pos (.inl h3)]; rfl
    ·rw [if_pos (by simpa using h2),if_pos h2]; rfl
 ·intro i i1 i2 _
  unfold KO
  rw [AF i1 i2,bs]
  by_cases h1:AA m.Nodes i<0∨b.Nodes.length<=AA m.Nodes i
  ·rw [if_pos (by simpa using h1),if_pos h1]; rfl
  ·rw [if_neg (by simpa using h1),if_neg h1,AF (by omega) (by omega),bs,AF i1 (by omega),bs]
   by_cases h2:AA b.Nodes (AA m.Nodes i)=AA a.Nodes i
   ·rw [if_neg (by simpa using h2),if_neg (by simpa using h2)]; rfl
   ·rw [if_pos (by simpa using h2),if_pos h2]; rfl
theorem Pa {x y:Prop} [Decidable x] [Decidable y]:(if decide x=true then some true else some (decide y))=some (decide (x∨y)):=by
 by_cases hx:x <;> simp [hx]
theorem Y6 (a b:Graph) (m:Morphism):JU a b m=some (Nb a b m):=by
 unfold JU Nb
 rw [Mr,bs,Mr,bs]
 refine HM fun ha=>HM fun hb=>Nh (by simp; try omega) fun hl=>?_
 have ga:=FB ha
 have gb:=FB hb
 rw [show (a.Nodes.length:Int)=m.Nodes.length by omega,show (a.Edges.length:Int)=m.Edges.length by omega,CF (KO a b m),E7]
 ·cases hn:fst (KO a b m) 0 m.Nodes.length with
  | some e=>rfl
  | none=>
   have hn2:=DP.1 hn
   dsimp only
   rw [CF (HT a b m),GE]
   intro i i1 i2 _
   unfold HT
   rw [AF i1 i2]
   simp only [bs,Pa]
   by_cases h1:AA m.Edges i<0∨b.Edges.length<=AA m.Edges i
   ·rw [if_pos (by simpa using h1),if_pos h1]; rfl
   ·have hf:=ga.fit _ (AO (l:=a.Edges) i1 (by omega))
    rw [if_neg (by simpa using h1),if_neg h1,AF i1 (by omega),bs,AF (by omega) (by omega),bs]
    by_cases h2:(AA a.Edges i).Type'=(AA b.Edges (AA m.Edges i)).Type'
    ·rw [if_neg (by simpa using h2),if_neg (by simpa using h2),AF (by omega) (by omega),bs]
     by_cases h3:AA m.Nodes (AA a.Edges i).From=(AA b.Edges (AA m.Edges i)).From
     ·rw [if_neg (by simpa using h3),AF (by omega) (by omega),bs,bs]
      by_cases h4:AA m.Nodes (AA a.Edges i).To=(AA b.Edges (AA m.Edges i)).To
      ·rw [if_neg (by simpa using h4),if_neg (by simp [h3,h4])]; rfl
      ·rw [if_pos (by simpa using h4),if_pos (.inr h4)]; rfl
     ·rw [if_pos (by simpa using h3),bs,if_pos rfl,if_pos (.inl h3)]; rfl
    ·rw [if_pos (by simpa using h2),if_pos h2]; rfl
 ·intro i i1 i2 _
  unfold KO
  rw [AF i1 i2]
  simp only [bs,Pa]
  by_cases h1:AA m.Nodes i<0∨b.Nodes.length<=AA m.Nodes i
  ·rw [if_pos (by simpa using h1),if_pos h1]; rfl
  ·rw [if_neg (by simpa using h1),if_neg h1,AF (by omega) (by omega),bs,AF i1 (by omega),bs]
   by_cases h2:AA b.Nodes (AA m.Nodes i)=AA a.Nodes i
   ·rw [if_neg (by simpa using h2),if_neg (by simpa using h2)]; rfl
   ·rw [if_pos (by simpa using h2),if_pos h2]; rfl
def KE (l:List Int):Bool:=!anyR (fun i=>anyR (fun j=>decide (AA l i=AA l j)) 0 i) 0 l.length
theorem Sx {l:List Int}:KE l=true↔l.Nodup:=by
 unfold KE
 rw [Bool.not_eq_true',FL]
 constructor
 ·intro h
  refine Ty (fun i j h0 h1 h2=>?_)
  have:=h j (by omega) h2
  rw [FL] at this
  have:=this i h0 h1
  rw [decide_eq_false_iff_not] at this
  exact fun e=>this e.symm
 ·intro h i i1 i2
  rw [FL]
  intro j j1 j2
  rw [decide_eq_false_iff_not]
  exact fun e=>UA h j1 j2 i2 e.symm
theorem VS (l:List Int):Hn l=some (KE l):=by
 unfold Hn KE
 rw [B3 (fun i=>anyR (fun j=>decide (AA l i=AA l j)) 0 i) false]
 ·cases anyR (fun i=>anyR (fun j=>decide (AA l i=AA l j)) 0 i) 0 l.length <;> rfl
 ·intro i i1 i2 _
  rw [B3 (fun j=>decide (AA l i=AA l j)) false]
  ·cases anyR (fun j=>decide (AA l i=AA l j)) 0 i <;> rfl
  ·intro j j1 j2 _
   rw [AF i1 i2,bs,AF j1 (by omega),bs,IT]
theorem TP {l:List Int} (hl:l.length<=1000):∃ k,HC l=some k∧decide (k=(l.length:Int))=KE l:=by
 have hs:(NK l).length=l.length:=(Md l).length_eq
 refine ⟨((Go.Lib.compact (NK l)).length:Int),?_,?_⟩
 ·unfold HC slices_Clone_int slices_Sort_int slices_Compact_int
  rw [Hp (by unfold B0; omega),bs,if_pos (by unfold B0; omega),bs,if_pos (by rw [hs]; unfold B0; omega),bs]
 ·rw [Bool.eq_iff_iff,Sx,decide_eq_true_eq,←(Md l).nodup_iff,←Oc (M1 l),hs]
  omega
def NZ (m:Morphism):Bool:=KE m.Nodes&&KE m.Edges
theorem jL {a b:Graph} {m:Morphism} (h:Nb a b m=0):D0 a b m=some (NZ m):=by
 have ho:=Y2 h
 have:=ho.ga.nodes
 have:=ho.ga.edges
 have:=ho.nlen
 have:=ho.elen
 obtain ⟨k,k1,k2⟩:=TP (l:=m.Nodes) (by omega)
 obtain ⟨j,j1,j2⟩:=TP (l:=m.Edges) (by omega)
 unfold D0 NZ
 rw [Y3,h,bs,if_pos (decide_eq_true rfl),k1]
 simp only [bs,j1,k2,j2]
 cases KE m.Nodes <;> rfl
theorem jO {a b:Graph} {m:Morphism} (h:Nb a b m=0):IL a b m=some (NZ m):=by
 unfold IL NZ
 rw [Y6,h,bs,if_pos (decide_eq_true rfl),VS]
 simp only [bs,VS]
 cases KE m.Nodes <;> rfl
def QM (t:AD) (g:Graph) (i:Int):Bool:=N9 t (AA g.Edges i).Type' (AA g.Nodes (AA g.Edges i).From) (AA g.Nodes (AA g.Edges i).To)
end Go.Sf.Sc
namespace Go.Sf.Sc
open Go Go.Sf
structure Ov (p:Pattern):Prop where
 nodes:p.Graph.Nodes.length<=45
 edges:p.Graph.Edges.length<=90
 slots:p.Slots.length<=15
 tests:p.Tests.length<=15
structure XK (m:Morphism):Prop where
 nodes:m.Nodes.length<=140
 edges:m.Edges.length<=140
inductive EW:AB->Prop where
 | mk (c:AB) (hq:Ov c.Pattern) (hm:XK c.Map) (hk:∀ k∈c.Kids,EW k):EW c
theorem EW.q {c:AB} (h:EW c):Ov c.Pattern:=by cases h; assumption
theorem EW.m {c:AB} (h:EW c):XK c.Map:=by cases h; assumption
theorem EW.k {c:AB} (h:EW c):∀ k∈c.Kids,EW k:=by cases h; assumption
theorem GC {c k:AB} (h:k∈c.Kids):SizeOf.sizeOf k<SizeOf.sizeOf c:=by
 have:=List.sizeOf_lt_of_mem h
 cases c
 simp only [AB.mk.sizeOf_spec] at *
 omega
theorem E6 (c:AB):0<SizeOf.sizeOf c:=by
 cases c
 simp only [AB.mk.sizeOf_spec]
 omega
def MX (c:AB):Bool:=decide (c.Map.Nodes.length=0∧c.Map.Edges.length=0∧c.Pattern.Graph.Nodes.length=0∧c.Pattern.Graph.Edges.length=0∧c.Pattern.Slots.length=0∧c.Pattern.Tests.length=0∧c.Pattern.Vars=0)
theorem cJ {c:AB} (hf:EW c):FW c=some (MX c):=by
 have h1:=hf.q
 have h2:=hf.m
 have:=h1.nodes
 have:=h1.edges
 have:=h1.slots
 have:=h1.tests
 have:=h2.nodes
 have:=h2.edges
 unfold FW MX
 rw [BI (n:=(c.Map.Nodes.length:Int)+c.Map.Edges.length) (by omega) (by omega),BI (n:=(c.Map.Nodes.length:Int)+c.Map.Edges.length+c.Pattern.Graph.Nodes.length) (by omega) (by omega),
  BI (n:=(c.Map.Nodes.length:Int)+c.Map.Edges.length+c.Pattern.Graph.Nodes.length+c.Pattern.Graph.Edges.length) (by omega) (by omega),
  BI (n:=(c.Map.Nodes.length:Int)+c.Map.Edges.length+c.Pattern.Graph.Nodes.length+c.Pattern.Graph.Edges.length+c.Pattern.Slots.length) (by omega) (by omega),
  BI (n:=(c.Map.Nodes.length:Int)+c.Map.Edges.length+c.Pattern.Graph.Nodes.length+c.Pattern.Graph.Edges.length+c.Pattern.Slots.length+c.Pattern.Tests.length) (by omega) (by omega)]
 congr 1
 rw [Bool.eq_iff_iff]
 simp only [Bool.and_eq_true,decide_eq_true_eq]
 omega
theorem YB {c:AB} (hf:EW c):Hu c=some (MX c):=by
 have h1:=hf.q
 have h2:=hf.m
 have:=h1.nodes
 have:=h1.edges
 have:=h1.slots
 have:=h1.tests
 have:=h2.nodes
 have:=h2.edges
 unfold Hu MX
 rw [BI (n:=(c.Map.Nodes.length:Int)+c.Map.Edges.length) (by omega) (by omega),BI (n:=(c.Map.Nodes.length:Int)+c.Map.Edges.length+c.Pattern.Graph.Nodes.length) (by omega) (by omega),
  BI (n:=(c.Map.Nodes.length:Int)+c.Map.Edges.length+c.Pattern.Graph.Nodes.length+c.Pattern.Graph.Edges.length) (by omega) (by omega),
  BI (n:=(c.Pattern.Slots.length:Int)+c.Pattern.Tests.length) (by omega) (by omega)]
 congr 1
 rw [Bool.eq_iff_iff]
 simp only [Bool.and_eq_true,decide_eq_true_eq]
 omega
def OD (c:AB):Bool:=
 if c.Kind=1 then decide (c.Kids.length=0)&&MX c else if c.Kind=2 then decide (c.Kids.length=1)&&MX c else
 if c.Kind=3∨c.Kind=4 then decide (1<=c.Kids.length)&&MX c else if c.Kind=5 then decide (c.Kids.length=1) else false
def Nv:Nat->AB->Bool
 | 0,_=>false
 | n+1,c=>OD c&&c.Kids.all (Nv n)
theorem cU:∀ (N:Nat) (c:AB),SizeOf.sizeOf c<=N->EW c->∀ n,2*N<=n->BN n c=some (Nv N c)
 | 0,c,h,_,_,_=>by have:=E6 c; omega
 | N+1,c,h,hf,n,hn=>by
  obtain ⟨n,rfl⟩:∃ m,n=m+2:=⟨n - 2,by omega⟩
  rw [BN,Nv,cJ hf]
  have hk:B1 c.Kids (BS (n+1))=some (!c.Kids.all (Nv N)):=by
   rw [Sp (p:=fun k=>!Nv N k) (fun k hk=>by
    have:=GC hk
    rw [BS,cU N k (by omega) (hf.k k hk) n (by omega)]; rfl),List.all_eq_not_any_not,Bool.not_not]
  rw [hk]
  unfold OD
  simp only [bs,decide_eq_true_eq]
  generalize MX c=b
  generalize c.Kids.all (Nv N)=w
  have e0:decide ((c.Kids.length:Int)=0)=decide (c.Kids.length=0):=by rw [decide_eq_decide]; omega
  have e1:decide ((c.Kids.length:Int)=1)=decide (c.Kids.length=1):=by rw [decide_eq_decide]; omega
  have e2:decide (1<=(c.Kids.length:Int))=decide (1<=c.Kids.length):=by rw [decide_eq_decide]; omega
  simp only [show ((c.Kids.length:Int)=0)↔c.Kids.length=0 by omega,show ((c.Kids.length:Int)=1)↔c.Kids.length=1 by omega,show (1<=(c.Kids.length:Int))↔1<=c.Kids.length by omega]
  by_cases k1:c.Kind=1
  ·rw [if_pos k1,if_pos k1]
   by_cases h0:c.Kids.length=0 <;> cases b <;> cases w <;> simp [h0]
  ·rw [if_neg k1,if_neg k1]
   by_cases k2:c.Kind=2
   ·rw [if_pos k2,if_pos k2]
    by_cases h0:c.Kids.length=1 <;> cases b <;> cases w <;> simp [h0]
   ·rw [if_neg k2,if_neg k2]
    by_cases k3:c.Kind=3
    ·simp only [k3,if_true,true_or]
     by_cases h0:1<=c.Kids.length <;> cases b <;> cases w <;> simp [h0]
    ·by_cases k4:c.Kind=4
     ·simp only [k4,if_true,or_true,show ¬ (4:Int)=3 by decide,if_false]
      by_cases h0:1<=c.Kids.length <;> cases b <;> cases w <;> simp [h0]
     ·simp only [k3,k4,if_false,or_false]
      by_cases k5:c.Kind=5
      ·rw [if_pos k5,if_pos k5]
       by_cases h0:c.Kids.length=1 <;> cases w <;> simp [h0]
      ·rw [if_neg k5,if_neg k5]
       cases w <;> rfl
theorem cZ {c:AB} (hf:EW c):Kf c=some (OD c):=by
 unfold Kf OD
 rw [YB hf]
 simp only [bs,decide_eq_true_eq]
 generalize MX c=b
 simp only [show ((c.Kids.length:Int)=0)↔c.Kids.length=0 by omega,show ((c.Kids.length:Int)=1)↔c.Kids.length=1 by omega,show (0<(c.Kids.length:Int))↔1<=c.Kids.length by omega]
 by_cases k1:c.Kind=1
 ·rw [if_pos k1,if_pos k1]
  by_cases h0:c.Kids.length=0 <;> cases b <;> simp [h0]
 ·rw [if_neg k1,if_neg k1]
  by_cases k2:c.Kind=2
  ·rw [if_pos k2,if_pos k2]
   by_cases h0:c.Kids.length=1 <;> cases b <;> simp [h0]
  ·rw [if_neg k2,if_neg k2]
   by_cases k3:c.Kind=3
   ·simp only [k3,if_true,true_or,decide_true,bs]
    by_cases h0:1<=c.Kids.length <;> cases b <;> simp [h0]
   ·by_cases k4:c.Kind=4
    ·simp only [k4,if_true,or_true,show ¬ (4:Int)=3 by decide,if_false,decide_true,bs]
     by_cases h0:1<=c.Kids.length <;> cases b <;> simp [h0]
    ·simp only [k3,k4,if_false,or_false,decide_false,bs,Bool.false_eq_true]
     by_cases k5:c.Kind=5
     ·rw [if_pos k5,if_pos k5]
     ·rw [if_neg k5,if_neg k5]
theorem bd {α:Type} [Inhabited α] {l:List α} {p:α->Bool}:l.all p=!anyR (fun i=>!p (AA l i)) 0 l.length:=by
 rw [List.all_eq_not_any_not,Jj]
theorem Y5:∀ (N:Nat) (c:AB),SizeOf.sizeOf c<=N->EW c->∀ n,N<=n->E5 n c=some (Nv N c)
 | 0,c,h,_,_,_=>by have:=E6 c; omega
 | N+1,c,h,hf,n,hn=>by
  obtain ⟨n,rfl⟩:∃ m,n=m+1:=⟨n - 1,by omega⟩
  rw [E5,Nv,cZ hf,bs,bd,B3 (fun i=>!Nv N (AA c.Kids i)) false]
  ·cases OD c
   ·rfl
   ·cases anyR (fun i=>!Nv N (AA c.Kids i)) 0 c.Kids.length <;> rfl
  ·intro i i1 i2 _
   have hm:=AO (l:=c.Kids) i1 i2
   have:=GC hm
   rw [AF i1 i2,bs,Y5 N _ (by omega) (hf.k _ hm) n (by omega),bs,IT]
noncomputable def ZL (c:AB):Bool:=Nv (SizeOf.sizeOf c) c
theorem jN {c:AB} (hf:EW c):F7 c=some (ZL c):=ET (2*SizeOf.sizeOf c) fun n hn=>cU _ c (Nat.le_refl _) hf n hn
theorem jS {c:AB} (hf:EW c):Lp c=some (ZL c):=ET (SizeOf.sizeOf c) fun n hn=>Y5 _ c (Nat.le_refl _) hf n hn
def LK:Nat->AB->Int × Int
 | 0,_=>(0,0)
 | n+1,c=>
  let s:=c.Kids.foldl (fun s k=>(A0 (s.1+(LK n k).1),max s.2 (LK n k).2)) ((1,0):Int × Int)
  (s.1,if c.Kind=5 then A0 (s.2+1) else s.2)
theorem R0 {α σ:Type} [Inhabited α] {l:List α} {g:σ->α->σ} {s:σ} {f:Int->σ->Option σ} (h:∀ (i:Int) s,0<=i->i<l.length->f i s=some (g s (AA l i))):forA f 0 l.length s=some (l.foldl g s):=by
 rw [Hj (fun i=>(l.take i.toNat).foldl g s) (by omega) (by simp)]
 ·rw [Int.toNat_natCast,List.take_length]
 ·intro i i1 i2
  rw [h i _ i1 i2,Iv i1 i2,List.foldl_append]; rfl
theorem WL:∀ (N:Nat) (c:AB),SizeOf.sizeOf c<=N->∀ n,N<=n->CS n c=some (LK N c)
 | 0,c,h,_,_=>by have:=E6 c; omega
 | N+1,c,h,n,hn=>by
  obtain ⟨n,rfl⟩:∃ m,n=m+1:=⟨n - 1,by omega⟩
  rw [CS,LK,R0 (g:=fun s k=>(A0 (s.1+(LK N k).1),max s.2 (LK N k).2))]
  ·simp only [bs,decide_eq_true_eq]
   by_cases h5:c.Kind=5
   ·rw [if_pos h5,if_pos h5]; rfl
   ·rw [if_neg h5,if_neg h5]; rfl
  ·intro i s i1 i2
   have:=GC (AO (l:=c.Kids) i1 i2)
   rw [AF i1 i2,bs,WL N _ (by omega) n (by omega)]; rfl
theorem Wd:∀ (N:Nat) (c:AB),SizeOf.sizeOf c<=N->∀ n,N<=n->FY n c=some (LK N c)
 | 0,c,h,_,_=>by have:=E6 c; omega
 | N+1,c,h,n,hn=>by
  obtain ⟨n,rfl⟩:∃ m,n=m+1:=⟨n - 1,by omega⟩
  rw [FY,LK,R0 (g:=fun s k=>(A0 (s.1+(LK N k).1),max s.2 (LK N k).2))]
  ·simp only [bs,decide_eq_true_eq]
   by_cases h5:c.Kind=5
   ·rw [if_pos h5,if_pos h5]; rfl
   ·rw [if_neg h5,if_neg h5]; rfl
  ·intro i s i1 i2
   have:=GC (AO (l:=c.Kids) i1 i2)
   rw [AF i1 i2,bs,Wd N _ (by omega) n (by omega)]; rfl
noncomputable def SU (c:AB):Int × Int:=LK (SizeOf.sizeOf c) c
noncomputable def M9 (c:AB):Int:=if ZL c=false then 1 else if 12<(SU c).1∨3<(SU c).2 then 3 else 0
theorem aB {c:AB} (hf:EW c):E3 c=some (M9 c):=by
 unfold E3 M9
 rw [jN hf,bs,show HN c=some (SU c) from ET (SizeOf.sizeOf c) fun n hn=>WL _ c (Nat.le_refl _) n hn,bs]
 exact UN fun _=>Nh (by simp) fun _=>rfl
theorem aN {c:AB} (hf:EW c):Kc c=some (M9 c):=by
 unfold Kc M9
 rw [jS hf,bs,show MT c=some (SU c) from ET (SizeOf.sizeOf c) fun n hn=>Wd _ c (Nat.le_refl _) n hn,bs]
 exact UN fun _=>Nh (by simp) fun _=>rfl
theorem Qw (g:Graph):C6 g≠9:=by
 unfold C6
 split
 ·decide
 ·split
  ·decide
  ·split <;> decide
theorem OP {t:AD} {p:Pattern} (ht:(BC t).2=0) (h:Jq t p=0∨Jq t p=9):0<=p.Vars∧p.Vars<=12:=by
 have hg:=Qw p.Graph
 unfold Jq at h
 rw [if_neg (by simp [ht])] at h
 split at h
 ·omega
 ·split at h
  ·omega
  ·split at h
   ·omega
   ·omega
def Na (t:AD) (q:Pattern) (v:Int):Int:=if Jq t q≠9 then Jq t q else if anyR (fun i=>!Jo q i) v q.Vars=true then 9 else 0
theorem kT {α:Type} {P:Prop} [Decidable P] {v:α} {X:Option α} {Y:α} (h:P->X=some Y):(if (!decide P)=true then some v else X)=some (if ¬ P then v else Y):=by
 by_cases hp:P
 ·simp [hp,h hp]
 ·simp [hp]
theorem jM {t:AD} (hf:BV t) (ht:(BC t).2=0) {q:Pattern} {v:Int} (h0:0<=v) (h1:v<=q.Vars):D6 t q v=some (Na t q v):=by
 unfold D6 Na
 rw [SW hf,bs]
 refine kT fun h9=>?_
 have hv:=OP ht (.inr h9)
 rw [Nw (c:=fun i=>(if (!Jo q i)=true then some () else none).map fun _=>.inr 9) (a:=v) (b:=q.Vars) h1]
 ·rw [Mk,MC]
  cases anyR (fun i=>!Jo q i) v q.Vars <;> rfl
 ·intro i i1 i2 _
  rw [if_pos (by simpa using i2),show (fun y0=>H1 y0 i)=(fun y=>some (decide (y.Term.Var=i))) from rfl,Zj,bs,show (q.Slots.any fun y=>decide (y.Term.Var=i))=Jo q i from rfl,h9,BI (by omega) (by omega)]
  cases Jo q i <;> rfl
 ·rw [if_neg (by simp)]
theorem aM (p:Pattern) (v:Int):LT p v=some (Jo p v):=Y8 p v
theorem jP {t:AD} (hf:BV t) (q:Pattern) (v:Int):Ke t v q=some (if q.Vars<v then 20 else Na t q v):=by
 unfold Ke Na
 refine Nh (by simp) fun _=>?_
 rw [VT hf,bs]
 refine kT fun h9=>?_
 rw [h9,B3 (fun i=>!Jo q i) 9]
 ·cases anyR (fun i=>!Jo q i) v q.Vars <;> rfl
 ·intro i i1 i2 _
  rw [aM,bs,IT]
def Jc:Nat->AD->Pattern->AB->Int
 | 0,_,_,_=>0
 | N+1,t,p,c=>
  if c.Kind=5 then
   if c.Pattern.Vars<p.Vars then 20 else if Na t c.Pattern p.Vars≠0 then Na t c.Pattern p.Vars else
   if Nb p.Graph c.Pattern.Graph c.Map≠0 then Nb p.Graph c.Pattern.Graph c.Map else if NZ c.Map=false then 1 else
   (fst (fun i=>nz (Jc N t c.Pattern (AA c.Kids i))) 0 c.Kids.length).getD 0
  else (fst (fun i=>nz (Jc N t p (AA c.Kids i))) 0 c.Kids.length).getD 0
theorem Xm {t:AD} (ht:(BC t).2=0) {q:Pattern} {v:Int} (h:Na t q v=0):0<=q.Vars:=by
 unfold Na at h
 split at h
 ·exact (OP ht (.inl h)).1
 ·rename_i h9
  exact (OP ht (.inr (Classical.not_not.1 h9))).1
theorem WN {t:AD} (hf:BV t) (ht:(BC t).2=0):∀ (N:Nat) (c:AB) (p:Pattern),0<=p.Vars->SizeOf.sizeOf c<=N->∀ n,N<=n->CC n t p c=some (Jc N t p c)
 | 0,c,p,_,h,_,_=>by have:=E6 c; omega
 | N+1,c,p,hp,h,n,hn=>by
  obtain ⟨n,rfl⟩:∃ m,n=m+1:=⟨n - 1,by omega⟩
  rw [CC,Jc]
  have hkids:∀ q:Pattern,0<=q.Vars->(thenR (forR (ρ:=Int) (fun (i0:Int) (_:Unit)=>
    (AI c.Kids i0).bind fun x55=>
    (CC n t q x55).bind fun x60=>
    if (!decide (x60=0))=true then
    some (.ret x60)
    else
    some (.next ())) 0 (c.Kids.length:Int) ()) (fun _=>
    some 0) (fun v0=>some v0))=some ((fst (fun i=>nz (Jc N t q (AA c.Kids i))) 0 c.Kids.length).getD 0):=by
   intro q hq
   rw [CF (fun i=>nz (Jc N t q (AA c.Kids i))),GE]
   intro i i1 i2 _
   have:=GC (AO (l:=c.Kids) i1 i2)
   rw [AF i1 i2,bs,WN hf ht N _ q hq (by omega) n (by omega),bs,Nn]
  by_cases h5:c.Kind=5
  ·rw [if_pos (by simpa using h5),if_pos h5]
   refine Nh (by simp) fun hv=>?_
   rw [jM hf ht hp (by omega),bs]
   refine HM fun hi=>?_
   rw [Y3,bs]
   refine HM fun hm=>?_
   rw [jL hm,bs]
   exact UN fun _=>hkids _ (Xm ht hi)
  ·rw [if_neg (by simpa using h5),if_neg h5]
   exact hkids p hp
theorem We {t:AD} (hf:BV t):∀ (N:Nat) (c:AB) (p:Pattern),SizeOf.sizeOf c<=N->∀ n,N<=n->F2 n t p c=some (Jc N t p c)
 | 0,c,p,h,_,_=>by have:=E6 c; omega
 | N+1,c,p,h,n,hn=>by
  obtain ⟨n,rfl⟩:∃ m,n=m+1:=⟨n - 1,by omega⟩
  rw [F2,Jc]
  have hkids:∀ q:Pattern,(thenR (forR (ρ:=Int) (fun (i0:Int) (_:Unit)=>
    (AI c.Kids i0).bind fun x55=>
    (F2 n t q x55).bind fun x60=>
    if (!decide (x60=0))=true then
    some (.ret x60)
    else
    some (.next ())) 0 (c.Kids.length:Int) ()) (fun _=>
    some 0) (fun v0=>some v0))=some ((fst (fun i=>nz (Jc N t q (AA c.Kids i))) 0 c.Kids.length).getD 0):=by
   intro q
   rw [CF (fun i=>nz (Jc N t q (AA c.Kids i))),GE]
   intro i i1 i2 _
   have:=GC (AO (l:=c.Kids) i1 i2)
   rw [AF i1 i2,bs,We hf N _ q (by omega) n (by omega),bs,Nn]
  by_cases h5:c.Kind=5
  ·rw [if_pos (by simpa using h5),if_pos h5,jP hf,bs]
   by_cases hv:c.Pattern.Vars<p.Vars
   ·simp [hv]
   ·simp only [if_neg hv]
    refine HM fun hi=>?_
    rw [Y6,bs]
    refine HM fun hm=>?_
    rw [jO hm,bs]
    exact UN fun _=>hkids _
  ·rw [if_neg (by simpa using h5),if_neg h5]
   exact hkids p
noncomputable def MZ (t:AD) (p:Pattern) (c:AB):Int:=if Jq t p≠0 then Jq t p else if M9 c≠0 then M9 c else Jc (SizeOf.sizeOf c) t p c
theorem cK {t:AD} (hf:BV t) (ht:(BC t).2=0) (p:Pattern) {c:AB} (hc:EW c):DY t p c=some (MZ t p c):=by
 unfold DY MZ
 rw [SW hf,bs]
 refine HM fun h=>?_
 rw [aB hc,bs,Option.bind_fun_some]
 exact HM fun _=>ET (SizeOf.sizeOf c) fun n hn=>WN hf ht _ c p (OP ht (.inl h)).1 (Nat.le_refl _) n hn
theorem WW {t:AD} (hf:BV t) (p:Pattern) {c:AB} (hc:EW c):JX t p c=some (MZ t p c):=by
 unfold JX MZ
 rw [VT hf,bs]
 refine HM fun h=>?_
 rw [aN hc,bs,Option.bind_fun_some]
 exact HM fun _=>ET (SizeOf.sizeOf c) fun n hn=>We hf _ c p (Nat.le_refl _) n hn
end Go.Sf.Sc
namespace Go.Sf.Sc
open Go Go.Sf
def leafB (t:AD) (l:List Int):Bool:=!(l.any fun k=>t.Nodes.any fun n=>decide (n.Parent=k))
end Go.Sf.Sc
namespace Go.Sf
theorem P2 {ρ:Type} {f:Int->Option (CH Int ρ)} (p:Int->Bool) (v:ρ) {a b:Int} (hab:a<=b) (h:∀ i,a<=i->i<b->f i=some (if p i=true then .ret v else .next (i+1))) (hb:f b=some (.brk b)):IR f a=some (if anyR p a b=true then .inr v else .inl b):=by
 rw [Nw (c:=fun i=>(if p i=true then some () else none).map fun _=>.inr v) hab]
 ·rw [Mk,MC]
  cases anyR p a b <;> rfl
 ·intro i h1 h2 _
  rw [h i h1 h2]
  cases p i <;> rfl
 ·exact hb
theorem Lj {α:Type} {e:α->TV} {n:Nat} {l:List α} (h:TV.Sm (.list n (l.map e))):(l.length:Int)<=140737488351232∧∀ x∈l,(e x).Sm:=by
 simp only [TV.Sm,List.length_map] at h
 refine ⟨by have:=h.1; unfold reachBytes at this; omega,fun x hx=>Pz.1 h.2 _ (List.mem_map.2 ⟨x,hx,rfl⟩)⟩
end Go.Sf
namespace Go.Sf.Sc
open Go Go.Sf
def So (a:Attr):Bool:=(decide (40<(a.Name.size:Int))||decide (25<(a.Names.length:Int)))||anyR (fun i=>decide (40<((AA a.Names i).size:Int))) 0 a.Names.length
theorem XU {a:Attr} (h:So a=false):QH a:=by
 unfold So at h
 simp only [Bool.or_eq_false_iff,decide_eq_false_iff_not,FL] at h
 refine ⟨by omega,by omega,fun x hx=>?_⟩
 obtain ⟨i,i1,i2,rfl⟩:=FF hx
 have:=h.2 i i1 i2
 omega
theorem Rh {t:AD} (hs:(AP t).Sm):∃ b,K3 t=some b∧(b=true->BV t):=by
 have hs':TV.Sms [_,_]:=hs
 obtain ⟨hn,hn2⟩:=Lj (e:=GH) hs'.1
 unfold K3
 by_cases hl:20<t.Nodes.length∨30<t.Edges.length
 ·rw [if_pos (by simp; omega)]
  exact ⟨false,rfl,fun h=>by cases h⟩
 rw [if_neg (by simp; omega)]
 rcases S5 (f:=(fun (i0:Int) (s0:Int)=>
 (AI t.Nodes i0).bind fun x30=>
 (if (decide (30<(A0 (s0+(x30.Attrs.length:Int)))))=true then some true else ((AI t.Nodes i0).bind fun x41=>
 some (decide (40<(x41.Name.size:Int))))).bind fun x46=>
 if x46=true then
 some (CH.ret false)
 else
 thenR (IR (ρ:=Bool) (fun (s2:Int)=>
 (AI t.Nodes i0).bind fun x51=>
 if (decide (s2<(x51.Attrs.length:Int)))=true then
 (AI t.Nodes i0).bind fun x61=>
 (AI x61.Attrs s2).bind fun x65=>
 if ((decide (40<(x65.Name.size:Int)))||(decide (25<(x65.Names.length:Int))))=true then
 some (.ret false)
 else
 thenR (IR (ρ:=Bool) (fun (s4:Int)=>
 if (decide (s4<(x65.Names.length:Int)))=true then
 (AI x65.Names s4).bind fun x87=>
 if (decide (40<(x87.size:Int)))=true then
 some (.ret false)
 else
 some (.next (A0 (s4+1)))
 else
 some (.brk s4)) 0) (fun s4=>
 some (.next (A0 (s2+1)))) (fun v4=>some (.ret v4))
 else
 some (.brk s2)) 0) (fun s2=>
 some (.next (A0 (s0+(x30.Attrs.length:Int))))) (fun v2=>some (.ret v2))))
  (fun i s=>0<=s∧s<=30∧∀ j,0<=j->j<i->((AA t.Nodes j).Name.size:Int)<=40∧(AA t.Nodes j).Attrs.length<=30∧∀ a∈(AA t.Nodes j).Attrs,QH a) (fun _=>False) (fun r=>r=false) (a:=0) (b:=t.Nodes.length) (s:=0) (by omega) ⟨by omega,by omega,fun j h1 h2=>by omega⟩ (fun i s i1 i2 hI=>by
   have hx:=hn2 _ (AO (l:=t.Nodes) i1 i2)
   have hx':TV.Sms [_,_,_,_]:=hx
   obtain ⟨ha,ha2⟩:=Lj (e:=HY) hx'.2.2.2.1
   obtain ⟨hI1,hI2,hI3⟩:=hI
   have hw:A0 (s+(AA t.Nodes i).Attrs.length)=s+(AA t.Nodes i).Attrs.length:=BI (by omega) (by omega)
   simp only [AF i1 i2,bs,hw,Pa]
   by_cases hc:30<s+(AA t.Nodes i).Attrs.length∨40<((AA t.Nodes i).Name.size:Int)
   ·rw [if_pos (by simpa using hc)]
    exact .inr (.inr ⟨_,rfl,rfl⟩)
   rw [if_neg (by simpa using hc)]
   rw [P2 (fun j=>So (AA (AA t.Nodes i).Attrs j)) false (b:=(AA t.Nodes i).Attrs.length) (by omega)]
   ·cases hb:anyR (fun j=>So (AA (AA t.Nodes i).Attrs j)) 0 (AA t.Nodes i).Attrs.length
    ·refine .inl ⟨_,rfl,by omega,by omega,fun j j1 j2=>?_⟩
     by_cases hj:j=i
     ·subst hj
      refine ⟨by omega,by omega,fun a ha=>?_⟩
      obtain ⟨k,k1,k2,rfl⟩:=FF ha
      exact XU (FL.1 hb k k1 k2)
     ·exact hI3 j j1 (by omega)
    ·exact .inr (.inr ⟨_,rfl,rfl⟩)
   ·intro j j1 j2
    rw [if_pos (by simpa using j2),AF j1 j2,bs]
    have hy:=ha2 _ (AO (l:=(AA t.Nodes i).Attrs) j1 j2)
    have hy':TV.Sms [_,_,_,_]:=hy
    obtain ⟨hm,_⟩:=Lj (e:=eS) hy'.2.2.2.1
    unfold So
    cases h1:(decide (40<((AA (AA t.Nodes i).Attrs j).Name.size:Int))||decide (25<((AA (AA t.Nodes i).Attrs j).Names.length:Int)))
    ·rw [if_neg (by decide),P2 (fun k=>decide (40<((AA (AA (AA t.Nodes i).Attrs j).Names k).size:Int))) false (b:=(AA (AA t.Nodes i).Attrs j).Names.length) (by omega)]
     ·cases anyR (fun k=>decide (40<((AA (AA (AA t.Nodes i).Attrs j).Names k).size:Int))) 0 (AA (AA t.Nodes i).Attrs j).Names.length
      ·rw [Bool.or_false,BI (show -9223372036854775808<=j+1 by omega) (by omega)]; rfl
      ·rfl
     ·intro k k1 k2
      rw [if_pos (by simpa using k2),AF k1 k2,bs,BI (show -9223372036854775808<=k+1 by omega) (by omega),IT]
     ·rw [if_neg (by simp)]
    ·rfl
   ·rw [if_neg (by simp)]) with ⟨s',h1,h2⟩ | ⟨r,h1,h2⟩
 ·rw [h1]
  rcases h2 with h2 | h2
  ·rw [DT,B3 (fun i=>decide (40<((AA t.Edges i).Name.size:Int))) false]
   ·cases hb:anyR (fun i=>decide (40<((AA t.Edges i).Name.size:Int))) 0 t.Edges.length
    ·refine ⟨true,rfl,fun _=>⟨by omega,by omega,fun n hn=>?_,fun n hn=>?_,fun n hn=>?_,fun e he=>?_⟩⟩
     ·obtain ⟨k,k1,k2,rfl⟩:=FF hn
      exact (h2.2.2 k k1 k2).1
     ·obtain ⟨k,k1,k2,rfl⟩:=FF hn
      exact (h2.2.2 k k1 k2).2.1
     ·obtain ⟨k,k1,k2,rfl⟩:=FF hn
      exact (h2.2.2 k k1 k2).2.2
     ·obtain ⟨k,k1,k2,rfl⟩:=FF he
      have:=FL.1 hb k k1 k2
      simpa using this
    ·exact ⟨false,rfl,fun h=>by cases h⟩
   ·intro i i1 i2 _
    rw [AF i1 i2,bs,IT]
  ·exact h2.elim
 ·rw [h1]
  subst h2
  exact ⟨false,rfl,fun h=>by cases h⟩
theorem UR (p:Pattern):∃ b,K5 p=some b∧(b=true->Ov p):=by
 refine ⟨_,rfl,fun h=>?_⟩
 simp only [Bool.and_eq_true,decide_eq_true_eq] at h
 exact ⟨by omega,by omega,by omega,by omega⟩
theorem Zr {a b:Int} (ha:0<=a) (ha2:a<=140737488351232) (hb:0<=b) (hb2:b<=140737488351232):A0 (a+b)=a+b:=BI (by omega) (by omega)
theorem Zq {m:Morphism} (hs:(BO m).Sm):∃ b,NR m 140=some b∧(b=true->XK m):=by
 have hs':TV.Sms [_,_]:=hs
 have h1:=(Lj (e:=eI) hs'.1).1
 have h2:=(Lj (e:=eI) hs'.2.1).1
 refine ⟨_,rfl,fun h=>?_⟩
 rw [Zr (by omega) h1 (by omega) h2] at h
 simp only [decide_eq_true_eq] at h
 exact ⟨by omega,by omega⟩
theorem Zl {c:AB} (h:(AJ c).Sm):(BO c.Map).Sm∧(c.Kids.length:Int)<=140737488351232∧∀ k∈c.Kids,(AJ k).Sm:=by
 have h':TV.Sms [_,_,_,_,_,_,_,_,_]:=h
 obtain ⟨_,h2,h3,h4,_⟩:=h'
 rw [LH] at h2
 obtain ⟨k1,k2⟩:=Lj h2
 exact ⟨⟨h3,h4,trivial⟩,k1,k2⟩
end Go.Sf.Sc
