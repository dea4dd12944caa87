/- Plain lemmas: what the functions of the program and of the reference compute. -/
import Derived.Test.YtmaobfbhdkafkaaGreatSfRead
import Derived.Test.YtmaobfbhdkafkaaGreatFns
import Derived.Test.YtmaobfbhdkafkaaGreatSfPl
set_option maxRecDepth 100000
namespace Go.Sf
theorem TE {ρ τ:Type} {d:Int->Option ρ} {g:ρ->τ}:∀ (n:Nat) (a:Int),FO (fun i=>(d i).map g) n a=(FO d n a).map g
 | 0,_=>rfl
 | n+1,a=>by
  rw [FO,FO]
  cases d a with
  | some r=>rfl
  | none=>exact TE n (a+1)
theorem Qx {ρ τ:Type} {d:Int->Option ρ} {g:ρ->τ} {a b:Int}:fst (fun i=>(d i).map g) a b=(fst d a b).map g:=TE _ _
theorem R4 {ρ:Type} {d:Int->Option ρ} {r:ρ}:∀ {n:Nat} {a:Int},FO d n a=some r->∃ i,a<=i∧i<a+n∧d i=some r∧∀ j,a<=j->j<i->d j=none
 | 0,_,h=>by cases h
 | n+1,a,h=>by
  rw [FO] at h
  cases hd:d a with
  | some r'=>
   rw [hd] at h
   exact ⟨a,Int.le_refl _,by omega,by rw [hd]; exact h,fun j h1 h2=>by omega⟩
  | none=>
   rw [hd] at h
   obtain ⟨i,h1,h2,h3,h4⟩:=R4 h
   refine ⟨i,by omega,by omega,h3,fun j k1 k2=>?_⟩
   by_cases hj:j=a
   ·subst hj; exact hd
   ·exact h4 j (by omega) k2
theorem FD {ρ:Type} {d:Int->Option ρ} {r:ρ} {a b:Int} (h:fst d a b=some r):∃ i,a<=i∧i<b∧d i=some r∧∀ j,a<=j->j<i->d j=none:=by
 obtain ⟨i,h1,h2,h3,h4⟩:=R4 h
 exact ⟨i,h1,by omega,h3,h4⟩
def Ko (p:Int->Bool) (s:ByteArray):Int:=(fst (fun i=>if p (bt s i) then none else some i) 0 s.size).getD s.size
theorem Qo (p:Int->Bool) (s:ByteArray):0<=Ko p s∧Ko p s<=s.size∧(∀ j,0<=j->j<Ko p s->p (bt s j)=true)∧(Ko p s<s.size->p (bt s (Ko p s))=false):=by
 unfold Ko
 cases h:fst (fun i=>if p (bt s i) then none else some i) 0 s.size with
 | none=>
  rw [CY] at h
  simp only [Option.getD]
  refine ⟨by omega,by omega,fun j h1 h2=>?_,fun h1=>by omega⟩
  have:=h j h1 h2
  cases hp:p (bt s j)
  ·simp [hp] at this
  ·rfl
 | some r=>
  obtain ⟨i,h1,h2,h3,h4⟩:=FD h
  have hi:p (bt s i)=false∧i=r:=by
   cases hp:p (bt s i) <;> simp [hp] at h3
   exact ⟨rfl,h3⟩
  obtain ⟨hi,rfl⟩:=hi
  simp only [Option.getD]
  refine ⟨h1,by omega,fun j k1 k2=>?_,fun _=>hi⟩
  have:=h4 j k1 k2
  cases hp:p (bt s j)
  ·simp [hp] at this
  ·rfl
theorem VF {s:ByteArray} (h:s≠⟨#[]⟩):0<s.size:=by
 rcases Nat.eq_zero_or_pos s.size with h0 | h0
 ·exfalso; apply h
  cases s with | mk d=>congr 1; exact Array.eq_empty_of_size_eq_zero h0
 ·exact h0
end Go.Sf
namespace Go.Sf.Sc
open Go Go.Sf
def GE (c:Int):Bool:=((decide (97<=c))&&(decide (c<=122)))||((decide (65<=c))&&(decide (c<=90)))
def digitB (c:Int):Bool:=(decide (48<=c))&&(decide (c<=57))
def OF (c:Int):Bool:=GE c||digitB c||decide (c=95)
theorem Ur (c:Int):KQ c=some (GE c):=rfl
theorem Sr (c:Int):J0 c=some (digitB c):=rfl
theorem Uy (c:Int):KN c=some (GE c):=rfl
theorem WU (c:Int):Ip c=some (digitB c):=rfl
theorem fZ (c:Int):MC c=some (OF c):=by
 unfold MC OF
 rw [Ur,bs,Sr]
 cases GE c <;> cases digitB c <;> rfl
theorem XG {s:ByteArray} (hs:(s.size:Int)<=4611686018427387904) {ok:Int->Option Bool} {p:Int->Bool} (h:∀ c,ok c=some (p c)):Hw s ok=some (Ko p s):=by
 unfold Hw
 rw [Ow (c:=fun i=>(if p (bt s i) then none else some i).map .inl) (a:=0) (b:=s.size) (by omega)]
 ·rw [Qx]
  unfold Ko
  cases fst (fun i=>if p (bt s i)=true then none else some i) 0 s.size <;> rfl
 ·intro i h1 h2 _
  simp only [h2,decide_true,if_true,Nb h1 h2,bs,h]
  cases p (bt s i)
  ·simp [cnt]
  ·simp [cnt,AW (show -9223372036854775808<=i+1 by omega) (by omega)]
 ·simp
def F5 (s:ByteArray):Bool:=decide (0<s.size)&&GE (bt s 0)&&decide (s.size<=20)&&decide (Ko OF s=s.size)
theorem Sp (l:List ByteArray) (v:ByteArray):∃ k,GQ l v=some k∧(0<=k↔v∈l):=by
 unfold GQ
 rw [CX (fun i=>if (v==AB l i)=true then some i else none)]
 ·cases h:fst (fun i=>if (v==AB l i)=true then some i else none) 0 l.length with
  | none=>
   rw [CY] at h
   refine ⟨-1,rfl,by omega,fun hm=>?_⟩
   obtain ⟨i,h1,h2,h3⟩:=EP hm
   have:=h i h1 h2
   rw [h3,if_pos (beq_self_eq_true v)] at this
   cases this
  | some k=>
   obtain ⟨i,h1,h2,h3,_⟩:=FD h
   have h4:(v==AB l i)=true∧i=k:=by
    by_cases hv:(v==AB l i)=true
    ·rw [if_pos hv] at h3; exact ⟨hv,by simpa using h3⟩
    ·rw [if_neg hv] at h3; cases h3
   obtain ⟨h4,rfl⟩:=h4
   refine ⟨i,rfl,fun _=>?_,fun _=>h1⟩
   rw [eq_of_beq h4]; exact AN h1 h2
 ·intro i h1 h2 _
  simp only [AF h1 h2,bs]
  split <;> rfl
theorem NG (l:List ByteArray) (v:ByteArray):DZ l v=some (l.contains v):=by
 unfold DZ
 obtain ⟨k,h1,h2⟩:=Sp l v
 rw [h1,bs]
 congr 1
 rw [Bool.eq_iff_iff,zzX,h2,List.contains_iff_mem]
theorem fX {s:ByteArray} (h0:0<s.size) (hs:(s.size:Int)<=4611686018427387904):∃ k n e,Ih s=some (k,n,e)∧(((decide (e=0))&&(decide (k=1)))&&(decide (n=(s.size:Int))))=F5 s:=by
 have hr:=Qo OF s
 unfold Ih F5
 simp only [Nb (Int.le_refl 0) (show (0:Int)<s.size by omega),bs,Ur,Sr,XG hs fZ,XG hs Sr,h0,decide_true,Bool.true_and]
 by_cases hl:GE (bt s 0)=true
 ·rw [if_pos hl]
  by_cases h20:20<Ko OF s
  ·refine ⟨0,0,3,by simp [h20],?_⟩
   simp [hl]
   intro h1 h2
   omega
  ·refine ⟨1,_,0,by rw [if_neg (by simpa using h20)],?_⟩
   simp only [hl,decide_true,Bool.true_and]
   rw [Bool.eq_iff_iff]
   simp only [zzX,zzZ]
   omega
 ·rw [if_neg hl]
  have hl':GE (bt s 0)=false:=by simpa using hl
  rw [hl',Bool.false_and,Bool.false_and]
  by_cases hd:digitB (bt s 0)=true
  ·rw [if_pos hd]
   by_cases h9:9<Ko digitB s
   ·exact ⟨0,0,3,by simp [h9],by simp⟩
   ·exact ⟨2,_,0,by rw [if_neg (by simpa using h9)],by simp⟩
  ·rw [if_neg hd]
   by_cases hq:bt s 0=34
   ·have hsz:=Tp (s:=s) (a:=1) (b:=s.size) (by omega) (by omega) (by omega)
    have hq2:∀ c,Kf c=some (((decide (32<=c))&&(decide (c<=126)))&&(!decide (c=34))):=fun _=>rfl
    have hr2:=Qo (fun c=>((decide (32<=c))&&(decide (c<=126)))&&(!decide (c=34))) (s.extract (1:Int).toNat (s.size:Int).toNat)
    have hqq:∃ n e,HF s=some (n,e):=by
     unfold HF
     rw [Ig (by omega) (by omega) (by omega),bs,XG (by omega) hq2,bs]
     rw [AW (by omega) (by omega)]
     by_cases he:1+Ko (fun c=>((decide (32<=c))&&(decide (c<=126)))&&(!decide (c=34))) (s.extract (1:Int).toNat (s.size:Int).toNat)=s.size
     ·refine ⟨0,2,?_⟩
      simp only [he,decide_true,if_true,bs]
     ·simp only [he,decide_false,Bool.false_eq_true,if_false]
      rw [Nb (by omega) (by omega)]
      simp only [bs]
      split
      ·exact ⟨_,_,rfl⟩
      ·split
       ·exact ⟨_,_,rfl⟩
       ·exact ⟨_,_,rfl⟩
    obtain ⟨n,e,hne⟩:=hqq
    refine ⟨3,n,e,by rw [if_pos (by simpa using hq),hne]; rfl,by simp⟩
   ·rw [if_neg (by simpa using hq)]
    have hp:∃ b,MB s=some b:=by
     unfold MB
     by_cases h2:2<=(s.size:Int)
     ·rw [if_pos (by simpa using h2),Ig (by omega) (by omega) h2]
      simp only [bs,NG]
      exact ⟨_,rfl⟩
     ·rw [if_neg (by simpa using h2)]
      exact ⟨_,rfl⟩
    obtain ⟨b,hb⟩:=hp
    rw [hb,bs]
    cases b
    ·simp only [Bool.false_eq_true,if_false,strings_IndexByte,bs]
     split
     ·exact ⟨_,_,_,rfl,rfl⟩
     ·exact ⟨_,_,_,rfl,rfl⟩
    ·exact ⟨_,_,_,rfl,rfl⟩
theorem Pq {s:ByteArray} (hs:(s.size:Int)<=4611686018427387904):EG s=some (F5 s):=by
 unfold EG Iu
 simp only [show decide ((1:Int)=3)=false from rfl,Bool.false_eq_true,if_false,bs]
 by_cases he:s=⟨#[]⟩
 ·subst he; rfl
 ·rw [if_neg (by simpa using he)]
  obtain ⟨k,n,e,h1,h2⟩:=fX (VF he) hs
  rw [h1]
  simp only [bs]
  rw [h2]
theorem fk {s:ByteArray} (hs:(s.size:Int)<=4611686018427387904) (digits:Bool):∃ n,Mv s 0 digits=some n∧0<=n∧n<=s.size∧(digits=false->n=Ko OF s):=by
 have hr:=Qo (fun c=>digitB c||(!digits&&(GE c||decide (c=95)))) s
 refine ⟨Ko (fun c=>digitB c||(!digits&&(GE c||decide (c=95)))) s,?_,hr.1,hr.2.1,fun hd=>?_⟩
 ·unfold Mv
  rw [Ow (c:=fun i=>(if (digitB (bt s i)||(!digits&&(GE (bt s i)||decide (bt s i=95)))) then none else some i).map .inl) (a:=0) (b:=s.size) (by omega)]
  ·rw [Qx]
   unfold Ko
   cases fst (fun i=>if (digitB (bt s i)||(!digits&&(GE (bt s i)||decide (bt s i=95))))=true then none else some i) 0 s.size <;> rfl
  ·intro i h1 h2 _
   have hw:AI (0+i)=i:=by rw [AW (by omega) (by omega)]; omega
   simp only [hw,h2,decide_true,if_true,Nb h1 h2,bs,WU,Uy]
   cases digitB (bt s i) <;> cases digits <;> cases GE (bt s i) <;> cases (decide (bt s i=95)) <;> simp [cnt,AW (show -9223372036854775808<=i+1 by omega) (by omega)]
  ·have hw:AI (0+(s.size:Int))=s.size:=by rw [AW (by omega) (by omega)]; omega
   simp only [hw,Int.lt_irrefl,decide_false,Bool.false_eq_true,if_false,bs]
 ·subst hd
  congr 1
  funext c
  unfold OF
  cases GE c <;> cases digitB c <;> cases decide (c=95) <;> rfl
theorem Z6 {s:ByteArray} (h0:0<s.size) (hs:(s.size:Int)<=4611686018427387904):∃ n,KO s 0=some n∧(n=0∨(2<=n∧n<=s.size)):=by
 unfold KO
 rw [Ow (c:=fun i=>if decide (bt s i=34)=true then some (Sum.inr (i+1):Int ⊕ Int) else if (decide (bt s i<32)||decide (126<bt s i))=true then some (Sum.inr 0) else none) (a:=1) (b:=s.size) (by omega)]
 ·cases h:fst (fun i=>if decide (bt s i=34)=true then some (Sum.inr (i+1):Int ⊕ Int) else if (decide (bt s i<32)||decide (126<bt s i))=true then some (Sum.inr 0) else none) 1 s.size with
  | none=>exact ⟨0,rfl,.inl rfl⟩
  | some r=>
   obtain ⟨i,h1,h2,h3,_⟩:=FD h
   split at h3
   ·cases h3; exact ⟨_,rfl,.inr (by omega)⟩
   ·split at h3
    ·cases h3; exact ⟨_,rfl,.inl rfl⟩
    ·cases h3
 ·intro i h1 h2 _
  have hw:AI (0+i)=i:=by rw [AW (by omega) (by omega)]; omega
  simp only [hw,h2,decide_true,if_true,Nb (show 0<=i by omega) h2,bs,AW (show -9223372036854775808<=i+1 by omega) (by omega)]
  split
  ·rfl
  ·split <;> rfl
 ·have hw:AI (0+(s.size:Int))=s.size:=by rw [AW (by omega) (by omega)]; omega
  simp only [hw,Int.lt_irrefl,decide_false,Bool.false_eq_true,if_false]
theorem mb {s:ByteArray} (h0:0<s.size) (hs:(s.size:Int)<=4611686018427387904):∃ t n e,Mu s 0=some (t,n,e)∧(((decide (e=0))&&(decide (n=(s.size:Int))))&&(decide (t.Kind=1)))=F5 s:=by
 obtain ⟨m,hm1,hm2,hm3,hm4⟩:=fk hs (digitB (bt s 0))
 unfold Mu F5
 simp only [Nb (Int.le_refl 0) (show (0:Int)<s.size by omega),bs,Uy,WU,h0,decide_true,Bool.true_and,hm1]
 have hw:AI (0+m)=m:=by rw [AW (by omega) (by omega)]; omega
 by_cases hl:GE (bt s 0)=true
 ·have hd:digitB (bt s 0)=false:=by
   unfold GE at hl; unfold digitB
   simp only [Bool.or_eq_true,zzZ,zzX] at hl
   rw [Bool.and_eq_false_iff]
   simp only [decide_eq_false_iff_not]
   omega
  have hm:=hm4 hd
  subst hm
  simp only [hl,if_true,hd,Bool.false_eq_true,if_false,bs,hw]
  by_cases h20:20<Ko OF s
  ·refine ⟨_,_,_,by rw [if_pos (by simpa using h20)],?_⟩
   rw [Bool.eq_iff_iff]
   simp only [zzX,zzZ]
   omega
  ·rw [if_neg (by simpa using h20),Ig (Int.le_refl _) hm2 hm3]
   refine ⟨_,_,_,rfl,?_⟩
   rw [Bool.eq_iff_iff]
   simp only [zzX,zzZ,true_and,and_true]
   omega
 ·have hl':GE (bt s 0)=false:=by simpa using hl
  simp only [hl',Bool.false_eq_true,if_false,bs,Bool.false_and,hw]
  by_cases hd:digitB (bt s 0)=true
  ·simp only [hd,if_true,bs]
   by_cases h9:9<m
   ·exact ⟨_,_,_,by rw [if_pos (by simpa using h9)],by simp⟩
   ·rw [if_neg (by simpa using h9),Ig (Int.le_refl _) hm2 hm3]
    exact ⟨_,_,_,rfl,by simp⟩
  ·have hd':digitB (bt s 0)=false:=by simpa using hd
   simp only [hd',Bool.false_eq_true,if_false,bs]
   by_cases hq:bt s 0=34
   ·obtain ⟨n,hn,hn2⟩:=Z6 h0 hs
    rw [if_pos (by simpa using hq),hn,bs]
    rcases hn2 with rfl | hn2
    ·exact ⟨_,_,_,rfl,by simp⟩
    ·rw [if_neg (by simp; omega)]
     split
     ·exact ⟨_,_,_,rfl,by simp⟩
     ·have e1:AI (0+1)=1:=by decide
      have e2:AI (0+n)=n:=by rw [AW (by omega) (by omega)]; omega
      rw [e1,e2,AW (show -9223372036854775808<=n - 1 by omega) (by omega),Ig (by omega) (by omega) (by omega)]
      exact ⟨_,_,_,rfl,by simp⟩
   ·rw [if_neg (by simpa using hq)]
    unfold Mi
    rw [bs]
    generalize hL:([(⟨#[45,62]⟩:ByteArray),(⟨#[60,61]⟩:ByteArray),(⟨#[62,61]⟩:ByteArray),(⟨#[61,61]⟩:ByteArray),(⟨#[33,61]⟩:ByteArray),(⟨#[123]⟩:ByteArray),(⟨#[125]⟩:ByteArray),(⟨#[40]⟩:ByteArray),(⟨#[41]⟩:ByteArray),(⟨#[91]⟩:ByteArray),(⟨#[93]⟩:ByteArray),(⟨#[44]⟩:ByteArray),(⟨#[59]⟩:ByteArray),(⟨#[58]⟩:ByteArray),(⟨#[61]⟩:ByteArray),(⟨#[43]⟩:ByteArray),(⟨#[45]⟩:ByteArray),(⟨#[42]⟩:ByteArray),(⟨#[60]⟩:ByteArray),(⟨#[62]⟩:ByteArray),(⟨#[33]⟩:ByteArray),(⟨#[38]⟩:ByteArray),(⟨#[124]⟩:ByteArray),(⟨#[46]⟩:ByteArray),(⟨#[63]⟩:ByteArray)]:List ByteArray)=L
    have hsz:∀ x∈L,x.size<=2:=by subst hL; decide
    rcases UQ (f:=(fun (i0:Int) (s0:E7)=>
      (AH L i0).bind fun x75=>
      (if (decide ((AI (0+(x75.size:Int)))<=(s.size:Int)))=true then ((AH L i0).bind fun x88=>
      (sslc s 0 (AI (0+(x88.size:Int)))).bind fun x92=>
      (AH L i0).bind fun x95=>
      some (x92==x95)) else some false).bind fun x98=>
      if x98=true then
      (AH L i0).bind fun x101=>
      (AH L i0).bind fun x106=>
      some (B8.ret (E7.mk 4 x101 0,(x106.size:Int),(0:Int)))
      else
      some (B8.next s0))) (fun _ s=>True) (fun _=>True) (fun r=>r.1.Kind=4) (a:=0) (b:=L.length) (s:=E7.mk 0 (⟨#[]⟩:ByteArray) 0) (by omega) trivial (fun i t h1 h2 _=>by
      have hx:=hsz _ (AN h1 h2)
      have hw2:AI (0+((AB L i).size:Int))=(AB L i).size:=by rw [AW (by omega) (by omega)]; omega
      simp only [AF h1 h2,bs,hw2]
      by_cases hc:((AB L i).size:Int)<=s.size
      ·rw [if_pos (by simpa using hc),Ig (by omega) (by omega) hc]
       simp only [bs]
       split
       ·exact .inr (.inr ⟨_,rfl,rfl⟩)
       ·exact .inl ⟨_,rfl,trivial⟩
      ·rw [if_neg (by simpa using hc)]
       simp only [bs]
       exact .inl ⟨_,rfl,trivial⟩) with ⟨s',h1,_⟩ | ⟨r,h1,h2⟩
    ·rw [h1]; exact ⟨_,_,_,rfl,by simp⟩
    ·rw [h1]; exact ⟨_,_,_,rfl,by simp [h2]⟩
theorem Ps {s:ByteArray} (hs:(s.size:Int)<=4611686018427387904):G7 s=some (F5 s):=by
 unfold G7 Mh NQ
 simp only [show decide ((1:Int)=3)=false from rfl,Bool.false_eq_true,if_false,bs]
 by_cases he:s=⟨#[]⟩
 ·subst he; rfl
 ·rw [if_neg (by simpa using he)]
  obtain ⟨t,n,e,h1,h2⟩:=mb (VF he) hs
  rw [h1]
  simp only [bs]
  rw [h2]
end Go.Sf.Sc
namespace Go.Sf
variable {ρ β:Type}
def nz (e:Int):Option Int:=if e=0 then none else some e
theorem Oj (e:Int):(if (!decide (e=0))=true then some (B8.ret e) else some (B8.next ()))=some (OO (nz e)):=by
 unfold nz
 by_cases h:e=0 <;> simp [h,OO]
theorem ed (b:Bool) (r:ρ):(if b=true then some (B8.ret r) else some (B8.next ()))=some (OO (if b=true then some r else none)):=by
 cases b <;> rfl
theorem C4 {σ:Type} {s:σ} {k:σ->Option β} {kr:ρ->Option β}:thenR (some (.inl s)) k kr=k s:=rfl
theorem Tg {σ:Type} {r:ρ} {k:σ->Option β} {kr:ρ->Option β}:thenR (some (.inr r)) k kr=kr r:=rfl
theorem GJ (o:Option ρ) (k:Unit->Option β) (kr:ρ->Option β):thenR (some (bJ o)) k kr=match o with | none=>k () | some r=>kr r:=by
 cases o <;> rfl
theorem GD (o:Option Int):thenR (some (bJ o)) (fun _=>some 0) (fun v=>some v)=some (o.getD 0):=by
 cases o <;> rfl
theorem R5 {c:Int->Int} {a b:Int} (h:(fst (fun i=>nz (c i)) a b).getD 0=0):∀ i,a<=i->i<b->c i=0:=by
 have:fst (fun i=>nz (c i)) a b=none:=by
  cases hf:fst (fun i=>nz (c i)) a b with
  | none=>rfl
  | some r=>
   rw [hf] at h
   simp only [Option.getD] at h
   subst h
   obtain ⟨i,_,_,h3,_⟩:=FD hf
   unfold nz at h3
   split at h3
   ·cases h3
   ·rename_i hn; simp at h3; exact (hn h3).elim
 rw [CY] at this
 intro i h1 h2
 have:=this i h1 h2
 unfold nz at this
 split at this
 ·assumption
 ·cases this
theorem NX {e:Int}:nz e=none↔e=0:=by
 unfold nz
 by_cases h:e=0 <;> simp [h]
theorem UY {α:Type} [Inhabited α] {l:List α} {f:α->Option Bool} {p:α->Bool} (h:∀ x∈l,f x=some (p x)) :
  (thenR (forR (ρ:=Int) (fun (i0:Int) (_:Unit)=>(AH l i0).bind fun x14=>(f x14).bind fun x16=>if x16=true then some (.ret i0) else some (.next ())) 0 (l.length:Int) ()) (fun _=>some (-1)) (fun v0=>some v0)) =
   some ((fst (fun i=>if p (AB l i)=true then some i else none) 0 l.length).getD (-1)):=by
 rw [CX (fun i=>if p (AB l i)=true then some i else none)]
 ·rw [GJ]; cases fst (fun i=>if p (AB l i)=true then some i else none) 0 l.length <;> rfl
 ·intro i h1 h2 _
  rw [AF h1 h2,bs,h _ (AN h1 h2),bs,ed]
theorem TK {α:Type} [Inhabited α] {l:List α} {p:α->Bool}:decide (0<=(fst (fun i=>if p (AB l i)=true then some i else none) 0 l.length).getD (-1))=l.any p:=by
 rw [Je,anyR]
 cases h:fst (fun i=>if p (AB l i)=true then some i else none) 0 l.length with
 | none=>
  rw [CY] at h
  symm
  show Option.isSome _=false
  rw [Option.isSome_eq_false_iff,Option.isNone_iff_eq_none,CY]
  intro i h1 h2
  have:=h i h1 h2
  by_cases hp:p (AB l i)=true
  ·rw [if_pos hp] at this; cases this
  ·rw [if_neg hp]
 | some k=>
  obtain ⟨i,h1,h2,h3,_⟩:=FD h
  have h4:p (AB l i)=true∧i=k:=by
   by_cases hv:p (AB l i)=true
   ·rw [if_pos hv] at h3; exact ⟨hv,by simpa using h3⟩
   ·rw [if_neg hv] at h3; cases h3
  simp only [Option.getD]
  rw [decide_eq_true (show (0:Int)<=k by omega)]
  symm
  show Option.isSome _=true
  rw [Option.isSome_iff_ne_none,ne_eq,CY]
  intro hn
  have:=hn i h1 h2
  rw [if_pos h4.1] at this
  cases this
theorem FP {α:Type} [Inhabited α] {l:List α} {f:α->Option Bool} {p:α->Bool} (h:∀ x∈l,f x=some (p x)) :
  ((thenR (forR (ρ:=Int) (fun (i0:Int) (_:Unit)=>(AH l i0).bind fun x14=>(f x14).bind fun x16=>if x16=true then some (.ret i0) else some (.next ())) 0 (l.length:Int) ()) (fun _=>some (-1)) (fun v0=>some v0)).bind fun x7=>some (decide (0<=x7)))=some (l.any p):=by
 rw [UY h,bs,TK]
end Go.Sf
namespace Go.Sf.Sc
open Go Go.Sf
instance:Inhabited Attr:=⟨⟨⟨#[]⟩,0,0,[]⟩⟩
instance:Inhabited BE:=⟨⟨⟨#[]⟩,0,false,[]⟩⟩
instance:Inhabited CJ:=⟨⟨⟨#[]⟩,0,0,0,0,0,0⟩⟩
instance:Inhabited B6:=⟨⟨0,0,0⟩⟩
instance:Inhabited CT:=⟨⟨0,0,⟨0,0⟩⟩⟩
instance:Inhabited Test:=⟨⟨0,⟨0,0⟩,⟨0,0⟩⟩⟩
instance:Inhabited AA:=⟨⟨0,[],⟨[],[]⟩,⟨⟨[],[]⟩,[],0,[]⟩⟩⟩
theorem UE {l:List Int} {f:Int->Option Bool} {p:Int->Bool} (h:∀ x∈l,f x=some (p x)):BI l f=some (l.any p):=FP h
theorem Vx {l:List B6} {f:B6->Option Bool} {p:B6->Bool} (h:∀ x∈l,f x=some (p x)):BT l f=some (l.any p):=FP h
theorem UD {l:List AA} {f:AA->Option Bool} {p:AA->Bool} (h:∀ x∈l,f x=some (p x)):B0 l f=some (l.any p):=FP h
theorem Va {l:List BE} {p:BE->Bool}:CM l (fun x=>some (p x))=some (l.any p):=FP (fun _ _=>rfl)
theorem VZ {l:List CJ} {p:CJ->Bool}:CL l (fun x=>some (p x))=some (l.any p):=FP (fun _ _=>rfl)
theorem cJ {l:List Attr} {p:Attr->Bool}:DA l (fun x=>some (p x))=some (l.any p):=FP (fun _ _=>rfl)
theorem X6 {l:List Int} {p:Int->Bool}:BI l (fun x=>some (p x))=some (l.any p):=FP (fun _ _=>rfl)
theorem cK {l:List B6} {p:B6->Bool}:BT l (fun x=>some (p x))=some (l.any p):=FP (fun _ _=>rfl)
theorem cL {l:List CT} {p:CT->Bool}:DB l (fun x=>some (p x))=some (l.any p):=FP (fun _ _=>rfl)
theorem fC (l:List Int) (v:Int):IC l v=some ((fst (fun i=>if decide (v=AB l i)=true then some i else none) 0 l.length).getD (-1)):=by
 have:=UY (l:=l) (f:=fun x=>some (decide (v=x))) (p:=fun x=>decide (v=x)) (fun _ _=>rfl)
 unfold IC
 simpa only [bs] using this
theorem UG (l:List Int) (v:Int):DC l v=some (l.any fun x=>decide (v=x)):=by
 unfold DC
 rw [fC,bs,TK (p:=fun x=>decide (v=x))]
theorem cP (l:List Bool) (v:Bool):GA l v=some (l.any fun x=>v==x):=by
 have:=FP (l:=l) (f:=fun x=>some (v==x)) (p:=fun x=>v==x) (fun _ _=>rfl)
 unfold GA Ix
 simpa only [bs] using this
structure QF (a:Attr):Prop where
 name:(a.Name.size:Int)<=40
 names:a.Names.length<=25
 each:∀ x∈a.Names,(x.size:Int)<=40
structure BV (t:Types):Prop where
 nodes:t.Nodes.length<=20
 edges:t.Edges.length<=30
 name:∀ n∈t.Nodes,(n.Name.size:Int)<=40
 attrs:∀ n∈t.Nodes,n.Attrs.length<=30
 each:∀ n∈t.Nodes,∀ a∈n.Attrs,QF a
 ename:∀ e∈t.Edges,(e.Name.size:Int)<=40
def par (t:Types) (i:Int):Int:=(AB t.Nodes i).Parent
def FN (t:Types) (k:Int):Prop:=∀ i,0<=i->i<k->-1<=par t i∧par t i<i
def CD (t:Types):Nat->Int->List Attr
 | 0,_=>[]
 | n+1,a=>if a<0 then [] else CD t n (par t a)++(AB t.Nodes a).Attrs
def AZ (t:Types) (a:Int):List Attr:=CD t (a+1).toNat a
theorem IM {t:Types} {n:Nat} {a:Int} (h:a<0):CD t n a=[]:=by
 cases n with
 | zero=>rfl
 | succ n=>rw [CD,if_pos h]
theorem LO {t:Types} {k:Int} (hp:FN t k):∀ (n m:Nat) (a:Int),a<k->a<n->a<m->CD t n a=CD t m a
 | n,m,a,hk,hn,hm=>by
  by_cases h0:a<0
  ·rw [IM h0,IM h0]
  ·cases n with
   | zero=>omega
   | succ n=>
    cases m with
    | zero=>omega
    | succ m=>
     rw [CD,CD,if_neg h0,if_neg h0]
     have:=hp a (by omega) hk
     rw [LO hp n m (par t a) (by omega) (by omega) (by omega)]
theorem La {t:Types} (hf:BV t) {k:Int} (hk:k<=t.Nodes.length) (hp:FN t k):∀ (n:Nat) (a:Int),a<k->((CD t n a).length:Int)<=30*n
 | 0,_,_=>by simp [CD]
 | n+1,a,ha=>by
  rw [CD]
  split
  ·simp; omega
  ·rename_i h0
   have h1:=hp a (by omega) ha
   have h2:=La hf hk hp n (par t a) (by omega)
   have h3:=hf.attrs _ (AN (l:=t.Nodes) (show 0<=a by omega) (by omega))
   rw [List.length_append]
   omega
theorem Rp {t:Types} (hf:BV t) {k:Int} (hk:k<=t.Nodes.length) (hp:FN t k):∀ (n:Nat) (a:Int),a<k->∀ x∈CD t n a,QF x
 | 0,_,_=>by simp [CD]
 | n+1,a,ha=>by
  rw [CD]
  split
  ·simp
  ·rename_i h0
   have h1:=hp a (by omega) ha
   intro x hx
   rcases List.mem_append.1 hx with hx | hx
   ·exact Rp hf hk hp n (par t a) (by omega) x hx
   ·exact hf.each _ (AN (l:=t.Nodes) (show 0<=a by omega) (by omega)) x hx
theorem Lc {t:Types} (hf:BV t) {k a:Int} (hk:k<=t.Nodes.length) (hp:FN t k) (ha:a<k):(AZ t a).length<=600:=by
 have:=La hf hk hp (a+1).toNat a ha
 have:=hf.nodes
 unfold AZ
 omega
theorem Lb {t:Types} (hf:BV t) {k a:Int} (hk:k<=t.Nodes.length) (hp:FN t k) (ha:a<k):∀ x∈AZ t a,QF x:=Rp hf hk hp _ a ha
theorem Uo {t:Types} (hf:BV t) {k:Int} (hk:k<=t.Nodes.length) (hp:FN t k):∀ (n:Nat) (a:Int),0<=a->a<k->a<n->DS n t a=some (CD t n a)
 | 0,_,_,_,_=>by omega
 | n+1,a,h0,ha,hn=>by
  have h1:=hp a (by omega) ha
  have h2:=La hf hk hp n (par t a) (by omega)
  have h3:=hf.attrs _ (AN (l:=t.Nodes) h0 (by omega))
  have h4:=hf.nodes
  rw [DS,CD,if_neg (by omega),AF h0 (by omega)]
  simp only [bs]
  show ((if decide (0<=par t a)=true then (DS n t (par t a)).bind fun x17=>some x17 else some []).bind _)=_
  have e:(if decide (0<=par t a)=true then (DS n t (par t a)).bind fun x17=>some x17 else some [])=some (CD t n (par t a)):=by
   by_cases hq:0<=par t a
   ·rw [if_pos (by simpa using hq),Uo hf hk hp n (par t a) hq (by omega) (by omega)]; rfl
   ·rw [if_neg (by simpa using hq),IM (by omega)]
  have hb:(CD t n (par t a)).length+(AB t.Nodes a).Attrs.length<=BF:=by
   unfold BF
   have:((CD t n (par t a)).length:Int)<=30*n:=h2
   have h5:CD t n (par t a)=CD t 20 (par t a):=by
    by_cases hneg:par t a<0
    ·rw [IM hneg,IM hneg]
    ·exact LO hp n 20 (par t a) (by omega) (by omega) (by omega)
   have h6:=La hf hk hp 20 (par t a) (by omega)
   rw [←h5] at h6
   omega
  rw [e,bs,BM hb]
  rfl
theorem WM {t:Types} (hf:BV t) {k:Int} (hk:k<=t.Nodes.length) (hp:FN t k) {a:Int} (h0:0<=a) (ha:a<k):J1 t a=some (AZ t a):=
 FK (a+1).toNat fun n hn=>by
  rw [Uo hf hk hp n a h0 ha (by omega),AZ,LO hp n (a+1).toNat a ha (by omega) (by omega)]
theorem Uv {t:Types} (hf:BV t) {k:Int} (hk:k<=t.Nodes.length) (hp:FN t k):∀ (n:Nat) (a:Int),-1<=a->a<k->a+1<n->G9 n t a=some (CD t n a)
 | 0,_,_,_,_=>by omega
 | n+1,a,h0,ha,hn=>by
  rw [G9,CD]
  by_cases hneg:a<0
  ·rw [if_pos (by simpa using hneg),if_pos hneg]
  ·have h1:=hp a (by omega) ha
   have h3:=hf.attrs _ (AN (l:=t.Nodes) (show 0<=a by omega) (by omega))
   have h4:=hf.nodes
   rw [if_neg (by simpa using hneg),if_neg hneg,AF (by omega) (by omega)]
   simp only [bs]
   have h5:CD t n (par t a)=CD t 20 (par t a):=by
    by_cases hneg:par t a<0
    ·rw [IM hneg,IM hneg]
    ·exact LO hp n 20 (par t a) (by omega) (by omega) (by omega)
   have h6:=La hf hk hp 20 (par t a) (by omega)
   rw [←h5] at h6
   have hb:(CD t n (par t a)).length+(AB t.Nodes a).Attrs.length<=BF:=by unfold BF; omega
   rw [show (AB t.Nodes a).Parent=par t a from rfl,Uv hf hk hp n (par t a) (by omega) (by omega) (by omega),bs,BM (by simp; unfold BF; omega)]
   simp only [bs,List.nil_append]
   rw [BM hb]; rfl
theorem WT {t:Types} (hf:BV t) {k:Int} (hk:k<=t.Nodes.length) (hp:FN t k) {a:Int} (h0:0<=a) (ha:a<k):Mj t a=some (AZ t a):=
 FK (a+2).toNat fun n hn=>by
  rw [Uv hf hk hp n a (by omega) ha (by omega),AZ,LO hp n (a+1).toNat a ha (by omega) (by omega)]
end Go.Sf.Sc
namespace Go.Sf.Sc
open Go Go.Sf
def KK (l:List ByteArray):Int:=
 if (20:Int)<l.length then 3 else (fst (fun i=>if F5 (AB l i)=false then some 2 else if anyR (fun j=>AB l j==AB l i) 0 i=true then some 5 else none) 0 l.length).getD 0
theorem UF {l:List ByteArray} {x:ByteArray} {b:Int} (h0:0<=b) (h1:b<=l.length):(l.take b.toNat).contains x=anyR (fun j=>AB l j==x) 0 b:=by
 rw [List.contains_eq_any_beq,Oy h0 h1]
 exact Ro (fun i _ _=>by rw [Bool.beq_comm])
theorem cv {l:List ByteArray} (hl:∀ x∈l,(x.size:Int)<=40):Hy l=some (KK l):=by
 unfold Hy KK
 by_cases h20:(20:Int)<l.length
 ·rw [if_pos (by simpa using h20),if_pos h20]
 ·rw [if_neg (by simpa using h20),if_neg h20]
  rw [CX (fun i=>if F5 (AB l i)=false then some 2 else if anyR (fun j=>AB l j==AB l i) 0 i=true then some 5 else none),GD]
  intro i h1 h2 _
  have hx:=hl _ (AN h1 h2)
  rw [AF h1 h2,bs,Pq (by omega),bs,It h1 (by omega)]
  simp only [bs,NG,UF h1 (show i<=l.length by omega)]
  cases F5 (AB l i) <;> cases anyR (fun j=>AB l j==AB l i) 0 i <;> rfl
theorem dC {l:List ByteArray} (hl:∀ x∈l,(x.size:Int)<=40):K3 l=some (KK l):=by
 unfold K3 KK
 by_cases h20:(20:Int)<l.length
 ·rw [if_pos (by simpa using h20),if_pos h20]
 ·rw [if_neg (by simpa using h20),if_neg h20]
  rw [CX (fun i=>if F5 (AB l i)=false then some 2 else if anyR (fun j=>AB l j==AB l i) 0 i=true then some 5 else none),GD]
  intro i h1 h2 _
  have hx:=hl _ (AN h1 h2)
  rw [AF h1 h2,bs,Ps (by omega),bs,CE (fun j=>AB l j==AB l i) 5]
  ·cases F5 (AB l i) <;> cases anyR (fun j=>AB l j==AB l i) 0 i <;> rfl
  ·intro j k1 k2 _
   rw [AF k1 (by omega),bs,bs]
   split <;> rfl
def LA (all:List Attr) (k:Int):Int:=
 let x:=AB all k
 if F5 x.Name=false then 2 else if anyR (fun j=>(AB all j).Name==x.Name) 0 k=true then 5 else
 if x.Names.length=0 then (if -1000000<=x.Low∧x.Low<=x.High∧x.High<=1000000 then 0 else 6) else
 if KK x.Names≠0 then KK x.Names else if x.Low=0∧x.High=x.Names.length - 1 then 0 else 6
theorem Vj {all:List Attr} (hl:∀ x∈all,QF x) {k:Int} (h0:0<=k) (h1:k<all.length):E1 (AB all k) (all.take k.toNat)=some (LA all k):=by
 have hx:=hl _ (AN h0 h1)
 have hn:=hx.name
 unfold E1 LA
 dsimp only
 rw [Pq (by omega),bs,show (fun y0=>Iy y0 (AB all k))=(fun y0=>some (y0.Name==(AB all k).Name)) from rfl,cJ,bs,Oy h0 (by omega),cv hx.each,bs]
 have hl2:=hx.names
 have hw:AI ((AB all k).Names.length - 1)=(AB all k).Names.length - 1:=AW (by omega) (by omega)
 rw [hw]
 have hz:(AB all k).Names.length=0->KK (AB all k).Names=0:=fun h=>by rw [List.eq_nil_of_length_eq_zero h]; rfl
 generalize KK (AB all k).Names=e at hz ⊢
 simp only [bs,zzX,Bool.or_eq_true,zzZ,Bool.not_eq_true',decide_eq_false_iff_not,Bool.not_eq_false',Bool.or_eq_false_iff,Bool.and_eq_false_iff,ne_eq]
 repeat' (first | rfl | (exfalso; omega; done) | split)
 all_goals (first | rfl | (exfalso; omega) | omega | simp_all | (simp_all; omega))
theorem Vm {x:Attr} (hx:QF x):Ia x=some (
 if x.Names.length=0 then (if -1000000<=x.Low∧x.Low<=x.High∧x.High<=1000000 then 0 else 6) else
 if KK x.Names≠0 then KK x.Names else if x.Low=0∧x.High=x.Names.length - 1 then 0 else 6):=by
 have hl2:=hx.names
 have hw:AI (x.Names.length - 1)=x.Names.length - 1:=AW (by omega) (by omega)
 unfold Ia D2
 simp only [bs,hw,dC hx.each]
 generalize KK x.Names=e
 simp only [bs,zzX,Bool.or_eq_true,zzZ,Bool.not_eq_true',decide_eq_false_iff_not,Bool.not_eq_false',Bool.or_eq_false_iff,Bool.and_eq_false_iff,ne_eq]
 repeat' (first | rfl | (exfalso; omega; done) | split)
 all_goals (first | rfl | (exfalso; omega) | omega | simp_all | (simp_all; omega))
def Iw (t:Types) (i:Int):Int:=
 let n:=AB t.Nodes i
 if F5 n.Name=false then 2 else if anyR (fun j=>(AB t.Nodes j).Name==n.Name) 0 i=true then 5 else
 if n.Parent < -1∨i<=n.Parent then 6 else if 4<n.Attrs.length∨8<(AZ t i).length then 3 else
 (fst (fun k=>nz (LA (AZ t i) k)) ((AZ t i).length - n.Attrs.length) (AZ t i).length).getD 0
theorem Rs {t:Types} {i:Int} (h0:0<=i):(AB t.Nodes i).Attrs.length<=(AZ t i).length:=by
 unfold AZ
 rw [show (i+1).toNat=i.toNat+1 by omega,CD,if_neg (by omega),List.length_append]
 omega
theorem FN.next {t:Types} {i:Int} (h:FN t i) (h1:-1<=par t i) (h2:par t i<i):FN t (i+1):=by
 intro j k1 k2
 by_cases hj:j=i
 ·subst hj; exact ⟨h1,h2⟩
 ·exact h j k1 (by omega)
theorem fY {t:Types} (hf:BV t) {i:Int} (h0:0<=i) (h1:i<t.Nodes.length) (hp:FN t i):Ik t i=some (Iw t i):=by
 have hn:=hf.name _ (AN h0 h1)
 unfold Ik Iw
 dsimp only
 rw [AF h0 h1,bs,Pq (by omega),bs,It h0 (by omega),bs,show (fun y0=>ME y0 (AB t.Nodes i))=(fun y0=>some (y0.Name==(AB t.Nodes i).Name)) from rfl,Va,bs,Oy h0 (by omega)]
 cases F5 (AB t.Nodes i).Name
 ·rfl
 ·cases anyR (fun j=>(AB t.Nodes j).Name==(AB t.Nodes i).Name) 0 i
  ·by_cases hr:(AB t.Nodes i).Parent < -1∨i<=(AB t.Nodes i).Parent
   ·rcases hr with hr | hr <;> simp [hr]
   ·have hp':FN t (i+1):=hp.next (by unfold par; omega) (by unfold par; omega)
    have hr2:(decide ((AB t.Nodes i).Parent < -1)||decide (i<=(AB t.Nodes i).Parent))=false:=by
     rw [Bool.eq_false_iff]; simpa using hr
    rw [WM hf (k:=i+1) (by omega) hp' h0 (by omega),bs]
    have hlen:=Lc hf (k:=i+1) (a:=i) (by omega) hp' (by omega)
    have hsub:=Rs (t:=t) h0
    have hfew:=Lb hf (k:=i+1) (a:=i) (by omega) hp' (by omega)
    rw [AW (by omega) (by omega),CX (fun k=>nz (LA (AZ t i) k)),GD]
    ·simp only [hr2,hr,Bool.not_true,Bool.false_eq_true,if_false]
     simp only [bs,zzX,Bool.or_eq_true,zzZ,Bool.not_eq_true',decide_eq_false_iff_not,Bool.not_eq_false',Bool.or_eq_false_iff,Bool.and_eq_false_iff,ne_eq]
     repeat' (first | rfl | (exfalso; omega; done) | split)
     all_goals (first | rfl | (exfalso; omega) | omega | simp_all | (simp_all; omega))
    ·intro k k1 k2 _
     rw [AF (by omega) k2,bs,It (by omega) (by omega),bs,Vj hfew (by omega) k2,bs,Oj]
  ·rfl
theorem fj {t:Types} (hf:BV t) {i:Int} (h0:0<=i) (h1:i<t.Nodes.length) (hp:FN t i):Lz t i=some (Iw t i):=by
 have hn:=hf.name _ (AN h0 h1)
 have hl:=hf.nodes
 unfold Lz Iw D2
 dsimp only
 rw [AF h0 h1,bs,Ps (by omega),bs,CE (fun j=>(AB t.Nodes j).Name==(AB t.Nodes i).Name) 5]
 ·cases F5 (AB t.Nodes i).Name
  ·rfl
  ·cases anyR (fun j=>(AB t.Nodes j).Name==(AB t.Nodes i).Name) 0 i
   ·simp only [Bool.not_true,Bool.false_eq_true,if_false,C4,bs]
    rw [AW (by omega) (by omega)]
    by_cases hr:(AB t.Nodes i).Parent < -1∨i<=(AB t.Nodes i).Parent
    ·rw [if_pos,if_neg (by decide),if_pos hr]
     simp; omega
    ·have hp':FN t (i+1):=hp.next (by unfold par; omega) (by unfold par; omega)
     rw [if_neg (by simp; omega),if_neg (by decide),if_neg hr]
     rw [WT hf (k:=i+1) (by omega) hp' h0 (by omega),bs]
     have hlen:=Lc hf (k:=i+1) (a:=i) (by omega) hp' (by omega)
     have hsub:=Rs (t:=t) h0
     have hfew:=Lb hf (k:=i+1) (a:=i) (by omega) hp' (by omega)
     rw [AW (by omega) (by omega)]
     rw [CX (fun k=>nz (LA (AZ t i) k)),GD]
     ·simp only [bs,zzX,Bool.or_eq_true,zzZ,Bool.not_eq_true',decide_eq_false_iff_not,Bool.not_eq_false',Bool.or_eq_false_iff,Bool.and_eq_false_iff,ne_eq]
      repeat' (first | rfl | (exfalso; omega; done) | split)
      all_goals (first | rfl | (exfalso; omega) | omega | simp_all | (simp_all; omega))
     ·intro k k1 k2 _
      have hx:=hfew _ (AN (show 0<=k by omega) k2)
      have hxn:=hx.name
      simp only [AF (show 0<=k by omega) k2,bs]
      rw [Ps (by omega),bs,CE (fun j=>(AB (AZ t i) j).Name==(AB (AZ t i) k).Name) 5]
      ·rw [Vm hx]
       simp only [bs,Oj]
       unfold LA
       dsimp only
       cases F5 (AB (AZ t i) k).Name
       ·rfl
       ·cases anyR (fun j=>(AB (AZ t i) j).Name==(AB (AZ t i) k).Name) 0 k <;> rfl
      ·intro j j1 j2 _
       rw [AF j1 (by omega),bs]
       split <;> rfl
   ·rfl
 ·intro j k1 k2 _
  rw [AF k1 (by omega),bs]
  split <;> rfl
def Ld (low high:Int):Bool:=((decide (0<=low))&&(decide (low<=40)))&&((decide (high=(-1)))||((decide (low<=high))&&(decide (high<=40))))
theorem c8 (low high:Int):Jr low high=some (Ld low high):=by
 unfold Jr Ld D2
 simp only [bs]
 cases (decide (0<=low)&&decide (low<=40)) <;> cases decide (high=-1) <;> rfl
def KU (t:Types) (i:Int):Int:=
 let x:=AB t.Edges i
 if F5 x.Name=false then 2 else if anyR (fun j=>(AB t.Edges j).Name==x.Name) 0 i=true then 5 else
 if (0<=x.From∧x.From<t.Nodes.length)∧(0<=x.To∧x.To<t.Nodes.length)∧Ld x.OutLow x.OutHigh=true∧Ld x.InLow x.InHigh=true then 0 else 6
theorem fT {t:Types} (hf:BV t) {i:Int} (h0:0<=i) (h1:i<t.Edges.length):Ij t i=some (KU t i):=by
 have hn:=hf.ename _ (AN h0 h1)
 unfold Ij KU KS
 dsimp only
 rw [AF h0 h1,bs,Pq (by omega),bs,It h0 (by omega),bs,show (fun y0=>MD y0 (AB t.Edges i))=(fun y0=>some (y0.Name==(AB t.Edges i).Name)) from rfl,VZ,bs,Oy h0 (by omega)]
 simp only [show ∀ a b,Jn a b=some (Ld a b) from fun _ _=>rfl,bs]
 generalize F5 (AB t.Edges i).Name=b1
 generalize anyR (fun j=>(AB t.Edges j).Name==(AB t.Edges i).Name) 0 i=b2
 generalize Ld (AB t.Edges i).OutLow (AB t.Edges i).OutHigh=b3
 generalize Ld (AB t.Edges i).InLow (AB t.Edges i).InHigh=b4
 cases b1
 ·rfl
 ·cases b2
  ·cases b3 <;> cases b4
   all_goals
    by_cases ha:0<=(AB t.Edges i).From∧(AB t.Edges i).From<t.Nodes.length
    ·by_cases hb:0<=(AB t.Edges i).To∧(AB t.Edges i).To<t.Nodes.length
     ·simp [ha,hb]
     ·have:(decide (0<=(AB t.Edges i).To)&&decide ((AB t.Edges i).To<t.Nodes.length))=false:=by rw [Bool.eq_false_iff]; simpa using hb
      simp [ha,hb,this]
    ·have:(decide (0<=(AB t.Edges i).From)&&decide ((AB t.Edges i).From<t.Nodes.length))=false:=by rw [Bool.eq_false_iff]; simpa using ha
     simp [ha,this]
  ·rfl
theorem ff {t:Types} (hf:BV t) {i:Int} (h0:0<=i) (h1:i<t.Edges.length):Ly t i=some (KU t i):=by
 have hn:=hf.ename _ (AN h0 h1)
 have hl:=hf.nodes
 unfold Ly KU D2
 dsimp only
 rw [AF h0 h1,bs,Ps (by omega),bs,CE (fun j=>(AB t.Edges j).Name==(AB t.Edges i).Name) 5]
 ·simp only [AW (show -9223372036854775808<=(t.Nodes.length:Int) - 1 by omega) (by omega),c8,bs]
  generalize F5 (AB t.Edges i).Name=b1
  generalize anyR (fun j=>(AB t.Edges j).Name==(AB t.Edges i).Name) 0 i=b2
  generalize Ld (AB t.Edges i).OutLow (AB t.Edges i).OutHigh=b3
  generalize Ld (AB t.Edges i).InLow (AB t.Edges i).InHigh=b4
  cases b1
  ·rfl
  ·cases b2
   ·cases b3 <;> cases b4
    all_goals
     by_cases ha:0<=(AB t.Edges i).From∧(AB t.Edges i).From<t.Nodes.length
     ·have ha':(AB t.Edges i).From<=(t.Nodes.length:Int) - 1:=by omega
      by_cases hb:0<=(AB t.Edges i).To∧(AB t.Edges i).To<t.Nodes.length
      ·have hb':(AB t.Edges i).To<=(t.Nodes.length:Int) - 1:=by omega
       simp [ha,hb,ha',hb',C4]
      ·have:(decide (0<=(AB t.Edges i).To)&&decide ((AB t.Edges i).To<=(t.Nodes.length:Int) - 1))=false:=by rw [Bool.eq_false_iff]; simp; omega
       simp [ha,hb,ha',this,C4]
     ·have:(decide (0<=(AB t.Edges i).From)&&decide ((AB t.Edges i).From<=(t.Nodes.length:Int) - 1))=false:=by rw [Bool.eq_false_iff]; simp; omega
      simp [ha,this,C4]
   ·rfl
 ·intro j k1 k2 _
  rw [AF k1 (by omega),bs]
  split <;> rfl
def A7 (t:Types):ByteArray × Int:=
 if t.Nodes.length=0 then (⟨#[]⟩,7) else if 12<t.Nodes.length∨20<t.Edges.length then (⟨#[]⟩,3) else
 match fst (fun i=>(nz (Iw t i)).map fun e=>((AB t.Nodes i).Name,e)) 0 t.Nodes.length with
 | some r=>r
 | none=>(fst (fun i=>(nz (KU t i)).map fun e=>((AB t.Edges i).Name,e)) 0 t.Edges.length).getD (⟨#[]⟩,0)
theorem YU {t:Types} {i:Int} (h:Iw t i=0):-1<=par t i∧par t i<i:=by
 unfold Iw at h
 dsimp only at h
 unfold par
 by_cases hr:(AB t.Nodes i).Parent < -1∨i<=(AB t.Nodes i).Parent
 ·rw [if_pos hr] at h
  split at h
  ·cases h
  ·split at h <;> cases h
 ·omega
theorem MR {α β:Type} {o:Option α} {g:α->β}:o.map g=none↔o=none:=by cases o <;> simp
theorem Rb {t:Types} {i:Int} (h:∀ j,0<=j->j<i->Iw t j=0):FN t i:=fun j h1 h2=>YU (h j h1 h2)
theorem Qz {ρ:Type} (e:Int) (n:ByteArray):(if (!decide (e=0))=true then some (B8.ret (n,e)) else some (B8.next ()))=some (OO ((nz e).map fun e=>(n,e))):=by
 unfold nz
 by_cases h:e=0 <;> simp [h,OO]
theorem Q3 {t:Types} (hf:BV t):E6 t=some (A7 t):=by
 unfold E6 A7
 rw [CX (fun i=>(nz (Iw t i)).map fun e=>((AB t.Nodes i).Name,e)),GJ]
 ·rw [CX (fun i=>(nz (KU t i)).map fun e=>((AB t.Edges i).Name,e)),GJ]
  ·cases fst (fun i=>(nz (Iw t i)).map fun e=>((AB t.Nodes i).Name,e)) 0 t.Nodes.length <;> cases fst (fun i=>(nz (KU t i)).map fun e=>((AB t.Edges i).Name,e)) 0 t.Edges.length
   all_goals dsimp only
   all_goals try simp only [Option.getD]
   all_goals
    simp only [bs,zzX,Bool.or_eq_true,zzZ,Bool.not_eq_true',decide_eq_false_iff_not,Bool.not_eq_false',Bool.or_eq_false_iff,Bool.and_eq_false_iff,ne_eq]
    repeat' (first | rfl | (exfalso; omega; done) | split)
    all_goals (first | rfl | (exfalso; omega) | omega | simp_all | (simp_all; omega))
  ·intro i h1 h2 _
   rw [AF h1 h2,bs,fT hf h1 h2,bs]
   exact Qz (ρ:=Unit) _ _
 ·intro i h1 h2 h3
  have hp:FN t i:=Rb fun j k1 k2=>NX.1 (MR.1 (h3 j k1 k2))
  rw [AF h1 h2,bs,fY hf h1 h2 hp,bs]
  exact Qz (ρ:=Unit) _ _
theorem Q6 {t:Types} (hf:BV t):Ht t=some (A7 t):=by
 unfold Ht A7
 rw [CX (fun i=>(nz (Iw t i)).map fun e=>((AB t.Nodes i).Name,e)),GJ]
 ·rw [CX (fun i=>(nz (KU t i)).map fun e=>((AB t.Edges i).Name,e)),GJ]
  ·cases fst (fun i=>(nz (Iw t i)).map fun e=>((AB t.Nodes i).Name,e)) 0 t.Nodes.length <;> cases fst (fun i=>(nz (KU t i)).map fun e=>((AB t.Edges i).Name,e)) 0 t.Edges.length
   all_goals dsimp only
   all_goals try simp only [Option.getD]
   all_goals
    simp only [bs,zzX,Bool.or_eq_true,zzZ,Bool.not_eq_true',decide_eq_false_iff_not,Bool.not_eq_false',Bool.or_eq_false_iff,Bool.and_eq_false_iff,ne_eq]
    repeat' (first | rfl | (exfalso; omega; done) | split)
    all_goals (first | rfl | (exfalso; omega) | omega | simp_all | (simp_all; omega))
  ·intro i h1 h2 _
   simp only [ff hf h1 h2,AF h1 h2,bs]
   exact Qz (ρ:=Unit) _ _
 ·intro i h1 h2 h3
  have hp:FN t i:=Rb fun j k1 k2=>NX.1 (MR.1 (h3 j k1 k2))
  simp only [fj hf h1 h2 hp,AF h1 h2,bs]
  exact Qz (ρ:=Unit) _ _
end Go.Sf.Sc
namespace Go.Sf.Sc
open Go Go.Sf
theorem KI {α:Type} {c:Bool} {a b:α}:(if c=true then some a else some b)=some (if c=true then a else b):=by cases c <;> rfl
def KX (n:Int):Bool:=(decide (0<=n))&&(decide (n<=99))
def PZ (e:B6) (n:Int):Bool:=KX e.Type'&&(decide (0<=e.From)&&decide (e.From<n))&&(decide (0<=e.To)&&decide (e.To<n))
def C1 (g:Graph):Int:=
 if 40<g.Nodes.length∨80<g.Edges.length then 3 else if (g.Nodes.any fun n=>!KX n)=true then 6 else if (g.Edges.any fun e=>!PZ e g.Nodes.length)=true then 6 else 0
structure Jp (g:Graph):Prop where
 nodes:g.Nodes.length<=40
 edges:g.Edges.length<=80
 kind:∀ n∈g.Nodes,0<=n∧n<=99
 fit:∀ e∈g.Edges,(0<=e.Type'∧e.Type'<=99)∧(0<=e.From∧e.From<g.Nodes.length)∧(0<=e.To∧e.To<g.Nodes.length)
theorem E3 {g:Graph} (h:C1 g=0):Jp g:=by
 unfold C1 at h
 split at h
 ·cases h
 ·split at h
  ·cases h
  ·split at h
   ·cases h
   ·rename_i h1 h2 h3
    refine ⟨by omega,by omega,fun n hn=>?_,fun e he=>?_⟩
    ·rw [Bool.not_eq_true,List.any_eq_false] at h2
     have:=h2 n hn
     simp [KX] at this
     exact this
    ·rw [Bool.not_eq_true,List.any_eq_false] at h3
     have:=h3 e he
     simp only [PZ,KX,Bool.not_eq_true',Bool.not_eq_false,zzZ,zzX] at this
     omega
theorem fW {e:B6} {n:Nat} (h:n<=40):Lp e n=some (PZ e n):=by
 unfold Lp H6 PZ KX
 simp only [bs,AW (show -9223372036854775808<=(n:Int) - 1 by omega) (by omega)]
 have e1:decide (e.From<=(n:Int) - 1)=decide (e.From<n):=by rw [decide_eq_decide]; omega
 have e2:decide (e.To<=(n:Int) - 1)=decide (e.To<n):=by rw [decide_eq_decide]; omega
 rw [e1,e2]
 generalize (decide (0<=e.Type')&&decide (e.Type'<=99))=b1
 generalize (decide (0<=e.From)&&decide (e.From<n))=b2
 cases b1 <;> cases b2 <;> simp
theorem NY (g:Graph):DY g=some (C1 g):=by
 unfold DY C1
 by_cases h:40<g.Nodes.length∨80<g.Edges.length
 ·rw [if_pos (by simp; omega),if_pos h]
 ·rw [if_neg (by simp; omega),if_neg h,show LB=(fun n=>some (!KX n)) from rfl,X6,Vx (p:=fun e=>!PZ e g.Nodes.length) (fun e _=>by
   unfold LC
   rw [fW (by omega)]; rfl)]
  simp only [bs]
  cases g.Nodes.any fun n=>!KX n
  ·cases g.Edges.any fun e=>!PZ e g.Nodes.length <;> rfl
  ·rfl
theorem Na (g:Graph):FT g=some (C1 g):=by
 unfold FT C1
 by_cases h:40<g.Nodes.length∨80<g.Edges.length
 ·rw [if_pos (by simp; omega),if_pos h]
 ·rw [if_neg (by simp; omega),if_neg h,Je,Je,CE (fun i=>!KX (AB g.Nodes i)) 6]
  ·rw [CE (fun i=>!PZ (AB g.Edges i) g.Nodes.length) 6]
   ·cases anyR (fun i=>!KX (AB g.Nodes i)) 0 g.Nodes.length
    ·cases anyR (fun i=>!PZ (AB g.Edges i) g.Nodes.length) 0 g.Edges.length <;> rfl
    ·rfl
   ·intro i h1 h2 _
    rw [AF h1 h2,bs]
    unfold Mk PZ
    simp only [show ∀ n,Kb n=some (KX n) from fun _=>rfl,bs]
    generalize KX (AB g.Edges i).Type'=b1
    cases b1 <;> cases decide (0<=(AB g.Edges i).From) <;> cases decide ((AB g.Edges i).From<g.Nodes.length) <;> cases decide (0<=(AB g.Edges i).To) <;> cases decide ((AB g.Edges i).To<g.Nodes.length) <;> rfl
  ·intro i h1 h2 _
   rw [AF h1 h2,bs,show Kb (AB g.Nodes i)=some (KX (AB g.Nodes i)) from rfl,bs]
   cases KX (AB g.Nodes i) <;> rfl
def E5 (t:Types) (g:Graph):Bool:=!(g.Nodes.any fun n=>decide (t.Nodes.length<=n))&&!(g.Edges.any fun e=>decide (t.Edges.length<=e.Type'))
theorem MX {t:Types} {g:Graph} (hg:Jp g) (h:E5 t g=true):(∀ n∈g.Nodes,0<=n∧n<t.Nodes.length)∧∀ e∈g.Edges,0<=e.Type'∧e.Type'<t.Edges.length:=by
 unfold E5 at h
 simp only [zzZ,Bool.not_eq_true',List.any_eq_false,zzX] at h
 refine ⟨fun n hn=>?_,fun e he=>?_⟩
 ·have:=h.1 n hn
  have:=hg.kind n hn
  omega
 ·have:=h.2 e he
  have:=hg.fit e he
  omega
theorem Su {t:Types} {g:Graph} (hg:Jp g):Ir t g=some (E5 t g):=by
 unfold Ir E5
 rw [Je,Je,CE (fun i=>decide (t.Nodes.length<=AB g.Nodes i)) false]
 ·rw [CE (fun i=>decide (t.Edges.length<=(AB g.Edges i).Type')) false]
  ·cases anyR (fun i=>decide (t.Nodes.length<=AB g.Nodes i)) 0 g.Nodes.length
   ·cases anyR (fun i=>decide (t.Edges.length<=(AB g.Edges i).Type')) 0 g.Edges.length <;> rfl
   ·rfl
  ·intro i h1 h2 _
   have:=(hg.fit _ (AN h1 h2)).1.1
   simp only [AF h1 h2,bs]
   rw [if_neg (by simp; omega),bs,KI]
 ·intro i h1 h2 _
  have:=(hg.kind _ (AN h1 h2)).1
  simp only [AF h1 h2,bs]
  rw [if_neg (by simp; omega),bs,KI]
structure GR (t:Types):Prop where
 nodes:t.Nodes.length<=12
 edges:t.Edges.length<=20
 node:∀ i:Int,0<=i->i<t.Nodes.length->Iw t i=0
 edge:∀ i:Int,0<=i->i<t.Edges.length->KU t i=0
theorem GF {t:Types} (h:(A7 t).2=0):GR t:=by
 unfold A7 at h
 split at h
 ·cases h
 ·split at h
  ·cases h
  ·rename_i h1 h2
   have hn:∀ i:Int,0<=i->i<t.Nodes.length->Iw t i=0:=by
    split at h
    ·rename_i r hr
     obtain ⟨i,_,_,k3,_⟩:=FD hr
     unfold nz at k3
     split at k3
     ·cases k3
     ·rename_i hne
      cases k3; exact absurd h hne
    ·rename_i hr
     intro i k1 k2
     exact NX.1 (MR.1 (CY.1 hr i k1 k2))
   have he:∀ i:Int,0<=i->i<t.Edges.length->KU t i=0:=by
    split at h
    ·rename_i r hr
     obtain ⟨i,k1,k2,k3,_⟩:=FD hr
     rw [hn i k1 k2] at k3
     cases k3
    ·cases hr:fst (fun i=>(nz (KU t i)).map fun e=>((AB t.Edges i).Name,e)) 0 t.Edges.length with
     | some r=>
      rw [hr] at h
      obtain ⟨i,_,_,k3,_⟩:=FD hr
      unfold nz at k3
      split at k3
      ·cases k3
      ·rename_i hne
       cases k3; exact absurd h hne
     | none=>
      intro i k1 k2
      exact NX.1 (MR.1 (CY.1 hr i k1 k2))
   exact ⟨by omega,by omega,hn,he⟩
theorem GR.par {t:Types} (h:GR t):FN t t.Nodes.length:=Rb h.node
theorem GR.ends {t:Types} (h:GR t) {i:Int} (h0:0<=i) (h1:i<t.Edges.length):(0<=(AB t.Edges i).From∧(AB t.Edges i).From<t.Nodes.length)∧(0<=(AB t.Edges i).To∧(AB t.Edges i).To<t.Nodes.length):=by
 have:=h.edge i h0 h1
 unfold KU at this
 dsimp only at this
 split at this
 ·cases this
 ·split at this
  ·cases this
  ·split at this
   ·rename_i hc; exact ⟨hc.1,hc.2.1⟩
   ·cases this
def IF (t:Types) (a:Int):Bool:=decide (0<=a)&&decide (a<t.Nodes.length)
theorem LQ {t:Types} {a:Int}:IF t a=true↔0<=a∧a<t.Nodes.length:=by unfold IF; simp
theorem Ss {t:Types} (hf:BV t) (l:List Int):FW t l=some (if (A7 t).2≠0 then (A7 t).2 else if (l.all (IF t))=true then 0 else 6):=by
 unfold FW
 rw [Q3 hf,bs,UE (p:=fun a=>!IF t a) (fun a _=>by unfold LF IF; rw [show decide (a<0)=!decide (0<=a) from by rw [←decide_not,decide_eq_decide]; omega,show decide ((t.Nodes.length:Int)<=a)=!decide (a<t.Nodes.length) from by rw [←decide_not,decide_eq_decide]; omega,Bool.not_and]),bs]
 rw [show (l.any fun a=>!IF t a)=!(l.all (IF t)) from by rw [List.all_eq_not_any_not,Bool.not_not]]
 cases l.all (IF t) <;> by_cases h:(A7 t).2=0 <;> simp [h]
theorem WV {t:Types} (hf:BV t) (a b:Int):Js t a b=some (if (A7 t).2≠0 then (A7 t).2 else if (IF t a&&IF t b)=true then 0 else 6):=by
 have hl:=hf.nodes
 have e:∀ a,decide (a<=(t.Nodes.length:Int) - 1)=decide (a<(t.Nodes.length:Int)):=fun a=>by rw [decide_eq_decide]; omega
 unfold Js D2
 rw [Q6 hf,bs]
 simp only [AW (show -9223372036854775808<=(t.Nodes.length:Int) - 1 by omega) (by omega),bs,e]
 change (if (!decide ((A7 t).snd=0))=true then some (A7 t).snd else (if (!IF t a)=true then some true else some (!IF t b)).bind fun x32=>if x32=true then some 6 else some 0)=_
 cases IF t a <;> cases IF t b <;> by_cases h:(A7 t).2=0 <;> simp [h]
theorem Yw {α:Type} [Inhabited α] {l:List α} {i:Int} (h0:0<=i) (h1:i<l.length):CP l i (AB l i)=l:=by
 unfold CP AB
 rw [List.getD_eq_getElem?_getD,List.getElem?_eq_getElem (by omega)]
 exact List.set_getElem_self _
theorem JE {α:Type} [Inhabited α] {l:List α} {i:Int} (h0:0<=i) (h1:i<l.length):l.take (i+1).toNat=l.take i.toNat++[AB l i]:=by
 unfold AB
 rw [show (i+1).toNat=i.toNat+1 by omega,List.take_add_one,List.getD_eq_getElem?_getD,List.getElem?_eq_getElem (by omega)]
 rfl
theorem FZ {α:Type} {l:List α} (h:l.length<=BF):A3 [] l=some l:=by rw [BM (by simpa using h)]; rfl
def H3 (t:Types) (a:Int):List Attr × Int:=if (A7 t).2≠0 then ([],(A7 t).2) else if IF t a=true then (AZ t a,0) else ([],6)
theorem WL {t:Types} (hf:BV t) (a:Int):G2 t a=some (H3 t a):=by
 unfold G2 H3
 rw [Ss hf,bs]
 by_cases h:(A7 t).2=0
 ·have hok:=GF h
  have e:[a].all (IF t)=IF t a:=by simp
  rw [e]
  simp only [h,ne_eq,not_true_eq_false,if_false]
  cases hi:IF t a
  ·rfl
  ·rw [if_pos rfl,if_pos rfl]
   have hr:=LQ.1 hi
   have hl:=Lc hf (Int.le_refl _) hok.par hr.2
   have hw:=Lb hf (Int.le_refl _) hok.par hr.2
   rw [if_neg (by decide),WM hf (Int.le_refl _) hok.par hr.1 hr.2,bs]
   obtain ⟨s',h1,rfl⟩:=MP (f:=(fun (i0:Int) (s0:List Attr)=>
 (AH s0 i0).bind fun x28=>
 (slices_Clone_string x28.Names).bind fun x31=>
 (AH s0 i0).bind fun x32=>
 some (CP s0 i0 (Attr.mk x32.Name x32.Low x32.High x31)))) (fun _ s=>s=AZ t a) (a:=0) (b:=(AZ t a).length) (s:=AZ t a) (by omega) rfl (fun i s k1 k2 hs=>by
     subst hs
     have:=(hw _ (AN k1 k2)).names
     refine ⟨AZ t a,?_,rfl⟩
     unfold slices_Clone_string
     rw [AF k1 k2,bs,FZ (by unfold BF; omega),bs,bs]
     congr 1
     exact Yw k1 k2)
   rw [h1]; rfl
 ·simp only [h,ne_eq,not_false_eq_true,if_true,decide_false,Bool.not_false]
theorem Q5 {t:Types} (hf:BV t) (a:Int):Hs t a=some (H3 t a):=by
 unfold Hs H3
 rw [WV hf,bs]
 by_cases h:(A7 t).2=0
 ·have hok:=GF h
  rw [Bool.and_self]
  simp only [h,ne_eq,not_true_eq_false,if_false]
  cases hi:IF t a
  ·rfl
  ·rw [if_pos rfl,if_pos rfl]
   have hr:=LQ.1 hi
   have hl:=Lc hf (Int.le_refl _) hok.par hr.2
   have hw:=Lb hf (Int.le_refl _) hok.par hr.2
   rw [if_neg (by decide),WT hf (Int.le_refl _) hok.par hr.1 hr.2,bs]
   rw [I5 (fun i=>(AZ t a).take i.toNat) (by omega) (by simp)]
   ·rw [bs,Int.toNat_natCast,List.take_length]
   ·intro i k1 k2
    have:=(hw _ (AN k1 k2)).names
    rw [AF k1 k2,bs,FZ (by unfold BF; omega),bs,BM (by rw [List.length_take]; simp; unfold BF; omega),JE k1 k2]
    rfl
 ·simp only [h,ne_eq,not_false_eq_true,if_true,decide_false,Bool.not_false]
end Go.Sf.Sc
namespace Go.Sf.Sc
open Go Go.Sf
def M2 (t:Types):Nat->Int->List Int
 | 0,_=>[]
 | n+1,a=>if a<0 then [] else a::M2 t n (par t a)
theorem Wh (t:Types):∀ (n:Nat) (a:Int),(M2 t n a).length<=n
 | 0,_=>by simp [M2]
 | n+1,a=>by
  rw [M2]
  split
  ·simp
  ·have:=Wh t n (par t a); simp; omega
def IW (t:Types) (a b:Int):Bool:=(M2 t (a+1).toNat a).any fun x=>decide (b=x)
theorem WD {t:Types} (h12:t.Nodes.length<=12) (hp:FN t t.Nodes.length):∀ (n:Nat) (a:Int) (l:List Int),a<t.Nodes.length->a<n->l.length+n<=1000 ->
  ∃ x,LZ (ρ:=List Int) (fun (s0:Int × List Int)=>
 if (decide (0<=s0.1))=true then
 (A3 s0.2 [s0.1]).bind fun x17=>
 (AH t.Nodes s0.1).bind fun x11=>
 some (.next (x11.Parent,x17))
 else
 some (.brk (s0.1,s0.2))) (a,l) (.inl (x,l++M2 t n a))
 | 0,a,l,h1,h2,_=>by
  refine ⟨a,.brk ?_⟩
  rw [if_neg (by simp; omega)]
  simp [M2]
 | n+1,a,l,h1,h2,h3=>by
  by_cases h0:a<0
  ·refine ⟨a,.brk ?_⟩
   rw [if_neg (by simp; omega)]
   simp [M2,h0]
  ·have hq:=hp a (by omega) h1
   obtain ⟨x,hx⟩:=WD h12 hp n (par t a) (l++[a]) (by omega) (by omega) (by simp; omega)
   refine ⟨x,.next (s':=(par t a,l++[a])) ?_ ?_⟩
   ·rw [if_pos (by simp; omega),BM (by simp; unfold BF; omega),bs,AF (by omega) h1]; rfl
   ·rw [M2,if_neg h0,show l++a::M2 t n (par t a)=(l++[a])++M2 t n (par t a) by simp]
    exact hx
theorem Zx {t:Types} (h:GR t) {a b:Int} (ha:0<=a) (ha2:a<t.Nodes.length):Iv t a b=some (IW t a b):=by
 have h12:=h.nodes
 obtain ⟨x,hx⟩:=WD h12 h.par (a+1).toNat a [] ha2 (by omega) (by simp; omega)
 have hl:=Wh t (a+1).toNat a
 unfold Iv JX
 rw [hx.eq,C4]
 simp only [List.nil_append]
 unfold slices_Reverse_int
 rw [if_pos (by unfold BF; omega)]
 simp only [bs]
 rw [UG,bs]
 unfold IW
 rw [List.any_reverse]
theorem Rf {t:Types} (hp:FN t t.Nodes.length) {b:Int} (hb:0<=b):∀ (n m:Nat) (a:Int),-1<=a->a<t.Nodes.length->a+1<n->a<m->GG n t a b=some ((M2 t m a).any fun x=>decide (b=x))
 | 0,_,_,_,_,_,_=>by omega
 | n+1,m,a,h0,h1,h2,h3=>by
  rw [GG]
  by_cases ha:a<0
  ·rw [if_neg (by simp; omega),if_neg (by simp; omega)]
   cases m <;> simp [M2,ha]
  ·cases m with
   | zero=>omega
   | succ m=>
    have hq:=hp a (by omega) h1
    rw [M2,if_neg ha,List.any_cons,if_pos (show decide (0<=a)=true by simp; omega),AF (by omega) h1]
    simp only [bs]
    rw [show (AB t.Nodes a).Parent=par t a from rfl,Rf hp hb n m (par t a) (by omega) (by omega) (by omega) (by omega)]
    by_cases hab:a=b
    ·simp [hab]
    ·have:¬ b=a:=fun e=>hab e.symm
     simp [hab,this]
theorem St {t:Types} (h:GR t) {a b:Int} (ha:0<=a) (ha2:a<t.Nodes.length) (hb:0<=b):G8 t a b=some (IW t a b):=
 FK (a+2).toNat fun n hn=>Rf h.par hb n (a+1).toNat a (by omega) ha2 (by omega) (by omega)
def Pa (t:Types) (e f g:Int):Bool:=
 decide ((A7 t).2=0)&&(IF t f&&IF t g)&&(decide (0<=e)&&decide (e<t.Edges.length))&&(IW t f (AB t.Edges e).From&&IW t g (AB t.Edges e).To)
theorem fQ {t:Types} (hf:BV t) (e f g:Int):Ii t e f g=some (Pa t e f g):=by
 unfold Ii Pa
 rw [Ss hf,bs,show [f,g].all (IF t)=(IF t f&&IF t g) by simp]
 by_cases h:(A7 t).2=0
 ·simp only [h,ne_eq,not_true_eq_false,if_false]
  have hok:=GF h
  cases hi:(IF t f&&IF t g)
  ·rfl
  ·rw [zzZ,LQ,LQ] at hi
   by_cases he:0<=e∧e<t.Edges.length
   ·rw [if_neg (by simp; omega),AF he.1 he.2]
    simp only [bs,Zx hok hi.1.1 hi.1.2,Zx hok hi.2.1 hi.2.2,he.1,he.2,decide_true,Bool.true_and]
    cases IW t f (AB t.Edges e).From <;> rfl
   ·rw [if_pos (by simp; omega)]
    have:(decide (0<=e)&&decide (e<t.Edges.length))=false:=by rw [Bool.eq_false_iff]; simpa using he
    rw [this]; simp
 ·simp [h]
theorem Yh {t:Types} (hf:BV t) (e f g:Int):Ka t e f g=some (Pa t e f g):=by
 have hl:=hf.edges
 unfold Ka Pa D2
 rw [WV hf,bs]
 by_cases h:(A7 t).2=0
 ·simp only [h,ne_eq,not_true_eq_false,if_false]
  have hok:=GF h
  cases hi:(IF t f&&IF t g)
  ·rfl
  ·rw [zzZ,LQ,LQ] at hi
   rw [AW (by omega) (by omega)]
   simp only [bs]
   by_cases he:0<=e∧e<t.Edges.length
   ·have he2:=hok.ends he.1 he.2
    have he3:e<=(t.Edges.length:Int) - 1:=by omega
    rw [if_neg (by simp),bs,if_neg (by simp [he.1,he3]),AF he.1 he.2]
    simp only [bs,St hok hi.1.1 hi.1.2 he2.1.1,St hok hi.2.1 hi.2.2 he2.2.1,he.1,he.2,decide_true,Bool.true_and]
    cases IW t f (AB t.Edges e).From <;> rfl
   ·have:(decide (0<=e)&&decide (e<t.Edges.length))=false:=by rw [Bool.eq_false_iff]; simpa using he
    have h2:(decide (0<=e)&&decide (e<=(t.Edges.length:Int) - 1))=false:=by rw [Bool.eq_false_iff]; simp; omega
    rw [this,h2]; simp
 ·simp [h]
def MA (n:Int) (x:Term):Bool:=(((decide ((-1)<=x.Var))&&(decide (x.Var<n)))&&(decide ((-1000000)<=x.Add)))&&(decide (x.Add<=1000000))
def Mr (n:Int) (x:Test):Int:=if ¬ x.Kind=1∧¬ x.Kind=2 then 1 else if (MA n x.Left&&MA n x.Right)=true then 0 else 6
def Jm (n:Int) (l:List Test):Int:=if n<0∨12<n then 6 else if 40<l.length then 3 else (fst (fun i=>nz (Mr n (AB l i))) 0 l.length).getD 0
theorem fa (n:Int) (x:Test):I2 n x=some (Mr n x):=by
 unfold I2 Mr
 simp only [show ∀ n x,IR n x=some (MA n x) from fun _ _=>rfl,bs]
 generalize MA n x.Left=b1
 generalize MA n x.Right=b2
 cases b1 <;> cases b2
 all_goals
  simp only [bs,zzX,Bool.or_eq_true,zzZ,Bool.not_eq_true',decide_eq_false_iff_not,Bool.not_eq_false',Bool.or_eq_false_iff,Bool.and_eq_false_iff,ne_eq]
  repeat' (first | rfl | (exfalso; omega; done) | split)
  all_goals (first | rfl | (exfalso; omega) | omega | simp_all | (simp_all; omega))
theorem Z8 (n:Int) (x:Term):I7 n x=some (if MA n x=true then 0 else 6):=by
 unfold I7 MA
 simp only [bs,zzX,Bool.or_eq_true,zzZ,Bool.not_eq_true',decide_eq_false_iff_not,Bool.not_eq_false',Bool.or_eq_false_iff,Bool.and_eq_false_iff,ne_eq]
 repeat' (first | rfl | (exfalso; omega; done) | split)
 all_goals (first | rfl | (exfalso; omega) | omega | simp_all | (simp_all; omega))
theorem fl (n:Int) (x:Test):Mw n x=some (Mr n x):=by
 unfold Mw Mr
 simp only [Z8,bs]
 generalize MA n x.Left=b1
 generalize MA n x.Right=b2
 cases b1 <;> cases b2
 all_goals
  simp only [bs,zzX,Bool.or_eq_true,zzZ,Bool.not_eq_true',decide_eq_false_iff_not,Bool.not_eq_false',Bool.or_eq_false_iff,Bool.and_eq_false_iff,ne_eq]
  repeat' (first | rfl | (exfalso; omega; done) | split)
  all_goals (first | rfl | (exfalso; omega) | omega | simp_all | (simp_all; omega))
theorem cy (n:Int) (l:List Test):H4 n l=some (Jm n l):=by
 unfold H4 Jm
 rw [CX (fun i=>nz (Mr n (AB l i))),GD]
 ·simp only [bs,zzX,Bool.or_eq_true,zzZ,Bool.not_eq_true',decide_eq_false_iff_not,Bool.not_eq_false',Bool.or_eq_false_iff,Bool.and_eq_false_iff,ne_eq]
  repeat' (first | rfl | (exfalso; omega; done) | split)
  all_goals (first | rfl | (exfalso; omega) | omega | simp_all | (simp_all; omega))
 ·intro i h1 h2 _
  rw [AF h1 h2,bs,fa,bs,Oj]
theorem dH (n:Int) (l:List Test):K1 n l=some (Jm n l):=by
 unfold K1 Jm
 rw [CX (fun i=>nz (Mr n (AB l i))),GD]
 ·simp only [bs,zzX,Bool.or_eq_true,zzZ,Bool.not_eq_true',decide_eq_false_iff_not,Bool.not_eq_false',Bool.or_eq_false_iff,Bool.and_eq_false_iff,ne_eq]
  repeat' (first | rfl | (exfalso; omega; done) | split)
  all_goals (first | rfl | (exfalso; omega) | omega | simp_all | (simp_all; omega))
 ·intro i h1 h2 _
  rw [AF h1 h2,bs,fl,bs,Oj]
def Ny (t:Types) (p:Pattern) (node ix:Int):Attr × Bool:=
 if node<0∨p.Graph.Nodes.length<=node then (default,false) else
 let l:=(H3 t (AB p.Graph.Nodes node)).1
 if ix<0∨l.length<=ix then (default,false) else (AB l ix,true)
theorem NK {t:Types} (hf:BV t) (a:Int):(H3 t a).1.length<=600∧((H3 t a).2≠0->(H3 t a).1=[]):=by
 unfold H3
 split
 ·simp
 ·rename_i h
  have hok:=GF (t:=t) (by omega)
  split
  ·rename_i hi
   exact ⟨Lc hf (Int.le_refl _) hok.par (LQ.1 hi).2,by simp⟩
  ·simp
theorem cq {t:Types} (hf:BV t) {p:Pattern} (hg:Jp p.Graph) (s:CT):FH t p s=some (Ny t p s.Node s.Attr):=by
 have hn:=hg.nodes
 unfold FH Ny C8
 dsimp only
 rw [AW (by omega) (by omega),bs]
 by_cases h:s.Node<0∨p.Graph.Nodes.length<=s.Node
 ·rw [if_pos (by simp; omega),if_pos h]; rfl
 ·rw [if_neg (by simp; omega),if_neg h,AF (by omega) (by omega),bs,WL hf,bs]
  have hl:=(NK hf (AB p.Graph.Nodes s.Node)).1
  rw [AW (by omega) (by omega),bs]
  by_cases h2:s.Attr<0∨(H3 t (AB p.Graph.Nodes s.Node)).1.length<=s.Attr
  ·rw [if_pos (by simp; omega),if_pos h2]; rfl
  ·rw [if_neg (by simp; omega),if_neg h2,AF (by omega) (by omega)]; rfl
theorem cz {t:Types} (hf:BV t) {p:Pattern} (node ix:Int):L8 t p node ix=some (Ny t p node ix):=by
 unfold L8 Ny
 dsimp only
 by_cases h:node<0∨p.Graph.Nodes.length<=node
 ·rw [if_pos (by simp; omega),if_pos h]; rfl
 ·rw [if_neg (by simp; omega),if_neg h,AF (by omega) (by omega),bs,Q5 hf,bs]
  have hl:=(NK hf (AB p.Graph.Nodes node)).2
  by_cases h2:ix<0∨(H3 t (AB p.Graph.Nodes node)).1.length<=ix
  ·rw [if_pos (by simp; omega),if_pos h2]; rfl
  ·by_cases he:(H3 t (AB p.Graph.Nodes node)).2=0
   ·rw [if_neg (by simp [he]; omega),if_neg h2,AF (by omega) (by omega)]; rfl
   ·rw [hl he] at h2; simp at h2; omega
end Go.Sf.Sc
namespace Go.Sf
variable {σ ρ:Type}
def gR (s:σ) (o:Option ρ):B8 σ ρ:=match o with
 | none=>.next s
 | some r=>.ret r
def bh (s:σ) (o:Option ρ):σ ⊕ ρ:=match o with
 | none=>.inl s
 | some r=>.inr r
theorem UP {f:Int->σ->Option (B8 σ ρ)} (g:Int->σ) (c:Int->Option ρ):∀ (n:Nat) (a:Int),
  (∀ i,a<=i->i<a+n->(∀ j,a<=j->j<i->c j=none)->f i (g i)=some (gR (g (i+1)) (c i)))->forGo f n a (g a)=some (bh (g (a+n)) (FO c n a))
 | 0,a,_=>by simp [forGo,FO,bh]
 | n+1,a,h=>by
  have h0:=h a (Int.le_refl _) (by omega) (fun j h1 h2=>by omega)
  rw [F4,h0,FO]
  cases hc:c a with
  | some r=>rfl
  | none=>
   simp only [gR]
   rw [show a+((n+1:Nat):Int)=a+1+n by omega]
   refine UP g c n (a+1) (fun i h1 h2 h3=>h i (by omega) (by omega) (fun j h4 h5=>?_))
   by_cases hj:j=a
   ·subst hj; exact hc
   ·exact h3 j (by omega) h5
theorem Sj {f:Int->σ->Option (B8 σ ρ)} (g:Int->σ) (c:Int->Option ρ) {a b:Int} {s:σ} (hab:a<=b) (hs:s=g a) (h:∀ i,a<=i->i<b->(∀ j,a<=j->j<i->c j=none)->f i (g i)=some (gR (g (i+1)) (c i))):forR f a b s=some (bh (g b) (fst c a b)):=by
 subst hs
 unfold forR fst
 have:=UP g c (b - a).toNat a (fun i h1 h2 h3=>h i h1 (by omega) h3)
 rwa [show a+((b - a).toNat:Int)=b by omega] at this
variable {α:Type}
theorem IN {e:Int} {X:Option Int} {Y:Int} (h:e=0->X=some Y):(if (!decide (e=0))=true then some e else X)=some (if e≠0 then e else Y):=by
 by_cases he:e=0
 ·simp [he,h he]
 ·simp [he]
theorem Ng {e:Int} {v:α} {X:Option α} {Y:α} (h:e=0->X=some Y):(if (!decide (e=0))=true then some v else X)=some (if e≠0 then v else Y):=by
 by_cases he:e=0
 ·simp [he,h he]
 ·simp [he]
theorem P5 {P:Prop} [Decidable P] {b:Bool} {v:α} {X:Option α} {Y:α} (hb:b=true↔P) (h:¬ P->X=some Y):(if b=true then some v else X)=some (if P then v else Y):=by
 by_cases hp:P
 ·rw [if_pos (hb.2 hp),if_pos hp]
 ·rw [if_neg (fun h=>hp (hb.1 h)),if_neg hp,h hp]
theorem Vy {b:Bool} {v:α} {X:Option α} {Y:α} (h:b=true->X=some Y):(if (!b)=true then some v else X)=some (if b=false then v else Y):=by
 cases b
 ·rfl
 ·simpa using h rfl
theorem nj {b:Bool} {v:α} {X:Option α} {Y:α} (h:b=false->X=some Y):(if b=true then some v else X)=some (if b=true then v else Y):=by
 cases b
 ·simpa using h rfl
 ·rfl
end Go.Sf
namespace Go.Sf.Sc
open Go Go.Sf
def O1 (t:Types) (p:Pattern) (s:CT):Bool:=!(Ny t p s.Node s.Attr).2||decide (s.Term.Var < -1)||decide (p.Vars<=s.Term.Var)||(decide (s.Term.Add < -1000000)||decide (1000000<s.Term.Add))
def KL (p:Pattern) (v:Int):Bool:=p.Slots.any fun s=>decide (s.Term.Var=v)
def IH (t:Types) (p:Pattern):Int:=
 if (A7 t).2≠0 then (A7 t).2 else if C1 p.Graph≠0 then C1 p.Graph else if E5 t p.Graph=false then 13 else
 if p.Vars<0∨12<p.Vars then 6 else if 10<p.Slots.length∨10<p.Tests.length then 3 else
 if (p.Slots.any (O1 t p))=true then 6 else if Jm p.Vars p.Tests≠0 then Jm p.Vars p.Tests else
 if anyR (fun v=>!KL p v) 0 p.Vars=true then 9 else 0
def JY (p:Pattern) (i:Int):List Bool:=(List.range p.Vars.toNat).map fun (v:Nat)=>(p.Slots.take i.toNat).any fun s=>decide (s.Term.Var=(v:Int))
theorem Xi {p:Pattern}:JY p 0=List.replicate p.Vars.toNat false:=by
 unfold JY
 refine List.ext_getElem (by simp) (fun n h1 h2=>by simp)
theorem ZJ (p:Pattern) (i:Int):(JY p i).length=p.Vars.toNat:=by simp [JY]
theorem ZK {p:Pattern} {i:Int} (h0:0<=i) (h1:i<p.Slots.length) (hv:0<=(AB p.Slots i).Term.Var):CP (JY p i) (AB p.Slots i).Term.Var true=JY p (i+1):=by
 unfold CP
 refine List.ext_getElem (by simp [JY]) (fun n k1 k2=>?_)
 simp only [JY,List.getElem_set,List.getElem_map,List.getElem_range,JE h0 h1,List.any_append,List.any_cons,List.any_nil,Bool.or_false]
 by_cases hn:(AB p.Slots i).Term.Var.toNat=n
 ·rw [if_pos hn,decide_eq_true (show (AB p.Slots i).Term.Var=(n:Int) by omega),Bool.or_true]
 ·rw [if_neg hn,decide_eq_false (show ¬ (AB p.Slots i).Term.Var=(n:Int) by omega),Bool.or_false]
theorem Xh {p:Pattern} {i:Int} (h0:0<=i) (h1:i<p.Slots.length) (hv:(AB p.Slots i).Term.Var<0):JY p i=JY p (i+1):=by
 refine List.ext_getElem (by simp [JY]) (fun n k1 k2=>?_)
 simp only [JY,List.getElem_map,List.getElem_range,JE h0 h1,List.any_append,List.any_cons,List.any_nil,Bool.or_false]
 rw [decide_eq_false (show ¬ (AB p.Slots i).Term.Var=(n:Int) by omega),Bool.or_false]
theorem ZI (p:Pattern):((JY p p.Slots.length).any fun x=>false==x)=anyR (fun v=>!KL p v) 0 p.Vars:=by
 rw [Bool.eq_iff_iff,List.any_eq_true,H2]
 simp only [JY,Int.toNat_natCast,List.take_length,List.mem_map,List.mem_range]
 constructor
 ·rintro ⟨x,⟨v,hv,rfl⟩,hx⟩
  refine ⟨v,by omega,by omega,?_⟩
  unfold KL
  revert hx
  cases p.Slots.any fun s=>decide (s.Term.Var=(v:Int)) <;> simp
 ·rintro ⟨v,h0,h1,hx⟩
  refine ⟨_,⟨v.toNat,by omega,rfl⟩,?_⟩
  rw [Int.toNat_of_nonneg h0]
  unfold KL at hx
  revert hx
  cases p.Slots.any fun s=>decide (s.Term.Var=v) <;> simp
theorem cb {α ρ:Type} [Inhabited α] {l:List α} {q:α->Bool} {v:ρ}:fst (fun i=>if q (AB l i)=true then some v else none) 0 l.length=if l.any q=true then some v else none:=by
 rw [N5,Je]
theorem Tv {t:Types} (hf:BV t) (p:Pattern):DT t p=some (IH t p):=by
 unfold DT IH
 rw [Q3 hf,bs,NY,bs]
 refine IN fun ht=>IN fun hg=>?_
 have hgo:=E3 hg
 have e:((BI p.Graph.Nodes (fun y0=>HQ y0 t)).bind fun x32=>
   (if x32=true then some true else ((BT p.Graph.Edges (fun y0=>HT y0 t)).bind fun x38=>some (x38))))=some (!E5 t p.Graph):=by
  unfold E5
  rw [show (fun y0=>HQ y0 t)=(fun (n:Int)=>some (decide (t.Nodes.length<=n))) from rfl,X6,show (fun y0=>HT y0 t)=(fun (e:B6)=>some (decide (t.Edges.length<=e.Type'))) from rfl,cK]
  simp only [bs]
  cases p.Graph.Nodes.any fun n=>decide (t.Nodes.length<=n) <;> simp
 rw [←Option.bind_assoc,e,bs]
 refine Vy fun htd=>?_
 unfold C8
 simp only [bs]
 refine P5 (by simp; try omega) fun hv=>P5 (by simp; try omega) fun hl=>?_
 unfold J8
 rw [if_pos (by omega),bs,←Xi,AW (show -9223372036854775808<=p.Vars - 1 by omega) (by omega),Sj (JY p) (fun i=>if O1 t p (AB p.Slots i)=true then some 6 else none) (by omega) rfl,cb]
 ·cases hb:p.Slots.any (O1 t p)
  ·simp only [Bool.false_eq_true,if_false,bh,C4,cy,bs,cP,ZI]
   by_cases hte:Jm p.Vars p.Tests=0
   ·simp only [hte]
    cases anyR (fun v=>!KL p v) 0 p.Vars <;> rfl
   ·simp [hte]
  ·rfl
 ·intro i h1 h2 _
  rw [AF h1 h2,bs,cq hf hgo,bs]
  unfold O1
  by_cases hb:(Ny t p (AB p.Slots i).Node (AB p.Slots i).Attr).2=true
  ·by_cases hvar:(AB p.Slots i).Term.Var < -1∨p.Vars<=(AB p.Slots i).Term.Var
   ·have e1:(decide (-1<=(AB p.Slots i).Term.Var)&&decide ((AB p.Slots i).Term.Var<=p.Vars - 1))=false:=by rw [Bool.eq_false_iff]; simp; omega
    have e2:(decide ((AB p.Slots i).Term.Var < -1)||decide (p.Vars<=(AB p.Slots i).Term.Var))=true:=by simp; omega
    rw [hb,e1,Bool.or_assoc (!true),e2]; rfl
   ·have e1:(decide (-1<=(AB p.Slots i).Term.Var)&&decide ((AB p.Slots i).Term.Var<=p.Vars - 1))=true:=by simp; omega
    have e2:(decide ((AB p.Slots i).Term.Var < -1)||decide (p.Vars<=(AB p.Slots i).Term.Var))=false:=by rw [Bool.eq_false_iff]; simp; omega
    rw [hb,e1,Bool.or_assoc (!true),e2]
    by_cases ha:(AB p.Slots i).Term.Add < -1000000∨1000000<(AB p.Slots i).Term.Add
    ·have e3:(decide (-1000000<=(AB p.Slots i).Term.Add)&&decide ((AB p.Slots i).Term.Add<=1000000))=false:=by rw [Bool.eq_false_iff]; simp; omega
     have e4:(decide ((AB p.Slots i).Term.Add < -1000000)||decide (1000000<(AB p.Slots i).Term.Add))=true:=by simp; omega
     rw [e3,e4]; rfl
    ·have e3:(decide (-1000000<=(AB p.Slots i).Term.Add)&&decide ((AB p.Slots i).Term.Add<=1000000))=true:=by simp; omega
     have e4:(decide ((AB p.Slots i).Term.Add < -1000000)||decide (1000000<(AB p.Slots i).Term.Add))=false:=by rw [Bool.eq_false_iff]; simp; omega
     rw [e3,e4]
     by_cases h0:0<=(AB p.Slots i).Term.Var
     ·simp only [Bool.not_true,Bool.false_eq_true,if_false,bs,h0,decide_true,if_true,Bool.or_false]
      rw [AF h0 (by rw [ZJ]; omega),bs,ZK h1 h2 h0]; rfl
     ·simp only [Bool.not_true,Bool.false_eq_true,if_false,bs,h0,decide_false,Bool.or_false]
      rw [Xh h1 h2 (by omega)]; rfl
  ·rw [Bool.not_eq_true] at hb
   rw [hb]; rfl
theorem bY (p:Pattern) (v:Int):KP p v=some (KL p v):=by
 unfold KP KL
 rw [CE (fun i=>decide ((AB p.Slots i).Term.Var=v)) true,Je]
 ·cases anyR (fun i=>decide ((AB p.Slots i).Term.Var=v)) 0 p.Slots.length <;> rfl
 ·intro i h1 h2 _
  rw [AF h1 h2,bs,KI]
theorem SO {t:Types} (hf:BV t) (p:Pattern):FU t p=some (IH t p):=by
 unfold FU IH
 rw [Q6 hf,bs,Na,bs]
 refine IN fun ht=>IN fun hg=>?_
 have hgo:=E3 hg
 rw [Su hgo,bs]
 refine Vy fun htd=>P5 (by simp; try omega) fun hv=>P5 (by simp; try omega) fun hl=>?_
 rw [CE (fun i=>O1 t p (AB p.Slots i)) 6,←Je]
 ·cases hb:p.Slots.any (O1 t p)
  ·simp only [Bool.false_eq_true,if_false,C4,dH,bs]
   by_cases hte:Jm p.Vars p.Tests=0
   ·simp only [hte]
    rw [CE (fun v=>!KL p v) 9]
    ·cases anyR (fun v=>!KL p v) 0 p.Vars <;> rfl
    ·intro i h1 h2 _
     rw [bY,bs,KI]
   ·simp [hte]
  ·rfl
 ·intro i h1 h2 _
  rw [AF h1 h2,bs,cz hf,bs]
  unfold O1 LD
  simp only [bs]
  have e:(!(decide (-1000000<=(AB p.Slots i).Term.Add)&&decide ((AB p.Slots i).Term.Add<=1000000)))=(decide ((AB p.Slots i).Term.Add < -1000000)||decide (1000000<(AB p.Slots i).Term.Add)):=by
   rw [Bool.not_and,←decide_not,←decide_not]
   congr 1 <;> rw [decide_eq_decide] <;> omega
  rw [e]
  cases (!(Ny t p (AB p.Slots i).Node (AB p.Slots i).Attr).2||decide ((AB p.Slots i).Term.Var < -1)||decide (p.Vars<=(AB p.Slots i).Term.Var))
  ·simp only [Bool.false_eq_true,if_false,bs,Bool.false_or,KI]
  ·rfl
end Go.Sf.Sc
namespace Go.Sf
theorem Vl {l:List Int} {R:Int->Int->Prop} (h:l.Pairwise R) {i j:Int} (h0:0<=i) (h1:i<j) (h2:j<l.length):R (AB l i) (AB l j):=by
 have:=(List.pairwise_iff_getElem.1 h) i.toNat j.toNat (by omega) (by omega) (by omega)
 unfold AB
 rw [List.getD_eq_getElem?_getD,List.getD_eq_getElem?_getD,List.getElem?_eq_getElem (by omega),List.getElem?_eq_getElem (by omega)]
 exact this
theorem VY {l:List Int} {R:Int->Int->Prop} (h:∀ i j:Int,0<=i->i<j->j<l.length->R (AB l i) (AB l j)):l.Pairwise R:=by
 refine List.pairwise_iff_getElem.2 (fun i j h1 h2 h3=>?_)
 have:=h i j (by omega) (by omega) (by omega)
 unfold AB at this
 rw [List.getD_eq_getElem?_getD,List.getD_eq_getElem?_getD,Int.toNat_natCast,Int.toNat_natCast,List.getElem?_eq_getElem h1,List.getElem?_eq_getElem h2] at this
 exact this
end Go.Sf
namespace Go.Sf.Sc
open Go Go.Sf
theorem TF {c:Int->Option Int} {a b:Int} (hc:∀ i,c i≠some 0) (h:(fst c a b).getD 0=0):∀ i,a<=i->i<b->c i=none:=by
 have:fst c a b=none:=by
  cases hf:fst c a b with
  | none=>rfl
  | some r=>
   rw [hf] at h
   simp only [Option.getD] at h
   subst h
   obtain ⟨i,_,_,h3,_⟩:=FD hf
   exact (hc i h3).elim
 exact CY.1 this
end Go.Sf.Sc
namespace Go.Sf.Sc
open Go Go.Sf
def Ky (a b:Graph) (m:Morphism) (i:Int):Option Int:=
 if AB m.Nodes i<0∨b.Nodes.length<=AB m.Nodes i then some 6 else if AB b.Nodes (AB m.Nodes i)≠AB a.Nodes i then some 13 else none
def IX (a b:Graph) (m:Morphism) (i:Int):Option Int:=
 if AB m.Edges i<0∨b.Edges.length<=AB m.Edges i then some 6 else
 if (AB a.Edges i).Type'≠(AB b.Edges (AB m.Edges i)).Type' then some 13 else
 if AB m.Nodes (AB a.Edges i).From≠(AB b.Edges (AB m.Edges i)).From∨AB m.Nodes (AB a.Edges i).To≠(AB b.Edges (AB m.Edges i)).To then some 11 else none
def MS (a b:Graph) (m:Morphism):Int:=
 if C1 a≠0 then C1 a else if C1 b≠0 then C1 b else if m.Nodes.length≠a.Nodes.length∨m.Edges.length≠a.Edges.length then 20 else
 match fst (Ky a b m) 0 m.Nodes.length with
 | some e=>e
 | none=>(fst (IX a b m) 0 m.Edges.length).getD 0
structure bG (a b:Graph) (m:Morphism):Prop where
 ga:Jp a
 gb:Jp b
 nlen:m.Nodes.length=a.Nodes.length
 elen:m.Edges.length=a.Edges.length
 node:∀ i:Int,0<=i->i<m.Nodes.length->(0<=AB m.Nodes i∧AB m.Nodes i<b.Nodes.length)∧AB b.Nodes (AB m.Nodes i)=AB a.Nodes i
 edge:∀ i:Int,0<=i->i<m.Edges.length->(0<=AB m.Edges i∧AB m.Edges i<b.Edges.length)∧(AB a.Edges i).Type'=(AB b.Edges (AB m.Edges i)).Type' ∧
  AB m.Nodes (AB a.Edges i).From=(AB b.Edges (AB m.Edges i)).From∧AB m.Nodes (AB a.Edges i).To=(AB b.Edges (AB m.Edges i)).To
theorem bR {a b:Graph} {m:Morphism} (h:MS a b m=0):bG a b m:=by
 unfold MS at h
 split at h
 ·omega
 split at h
 ·omega
 split at h
 ·cases h
 rename_i h1 h2 h3
 have hn:fst (Ky a b m) 0 m.Nodes.length=none:=by
  split at h
  ·rename_i r hr
   obtain ⟨i,_,_,k,_⟩:=FD hr
   subst h
   unfold Ky at k
   split at k
   ·cases k
   ·split at k <;> cases k
  ·assumption
 rw [hn] at h
 have he:=TF (fun i=>by
  unfold IX
  split
  ·simp
  ·split
   ·simp
   ·split <;> simp) h
 refine ⟨E3 (by omega),E3 (by omega),by omega,by omega,fun i i1 i2=>?_,fun i i1 i2=>?_⟩
 ·have:=CY.1 hn i i1 i2
  unfold Ky at this
  split at this
  ·cases this
  ·split at this
   ·cases this
   ·rename_i x y
    exact ⟨by omega,Classical.not_not.1 y⟩
 ·have:=he i i1 i2
  unfold IX at this
  split at this
  ·cases this
  ·split at this
   ·cases this
   ·split at this
    ·cases this
    ·rename_i x y z
     exact ⟨by omega,Classical.not_not.1 y,Classical.not_not.1 (fun h=>z (.inl h)),Classical.not_not.1 (fun h=>z (.inr h))⟩
theorem bS (a b:Graph) (m:Morphism):EH a b m=some (MS a b m):=by
 unfold EH MS
 rw [NY,bs,NY,bs]
 refine IN fun ha=>IN fun hb=>P5 (by simp; try omega) fun hl=>?_
 have ga:=E3 ha
 have gb:=E3 hb
 rw [CX (Ky a b m),GJ]
 ·cases hn:fst (Ky a b m) 0 m.Nodes.length with
  | some e=>rfl
  | none=>
   have hn2:=CY.1 hn
   dsimp only
   rw [CX (IX a b m),GD]
   intro i i1 i2 _
   unfold IX
   rw [AF i1 i2,bs]
   by_cases h1:AB m.Edges i<0∨b.Edges.length<=AB m.Edges i
   ·rw [if_pos (by simpa using h1),if_pos h1]; rfl
   ·have hf:=ga.fit _ (AN (l:=a.Edges) i1 (by omega))
    rw [if_neg (by simpa using h1),if_neg h1,AF i1 (by omega),bs,AF (by omega) (by omega),bs]
    by_cases h2:(AB a.Edges i).Type'=(AB b.Edges (AB m.Edges i)).Type'
    ·rw [if_neg (by simpa using h2),if_neg (by simpa using h2),AF (by omega) (by omega),bs]
     by_cases h3:AB m.Nodes (AB a.Edges i).From=(AB b.Edges (AB m.Edges i)).From
     ·rw [if_neg (by simpa using h3),AF (by omega) (by omega),bs,bs]
      by_cases h4:AB m.Nodes (AB a.Edges i).To=(AB b.Edges (AB m.Edges i)).To
      ·rw [if_neg (by simpa using h4),if_neg (by simp [h3,h4])]; rfl
      ·rw [if_pos (by simpa using h4),if_pos (.inr h4)]; rfl
     ·rw [if_pos (by simpa using h3),bs,if_pos rfl,if_pos (.inl h3)]; rfl
    ·rw [if_pos (by simpa using h2),if_pos h2]; rfl
 ·intro i i1 i2 _
  unfold Ky
  rw [AF i1 i2,bs]
  by_cases h1:AB m.Nodes i<0∨b.Nodes.length<=AB m.Nodes i
  ·rw [if_pos (by simpa using h1),if_pos h1]; rfl
  ·rw [if_neg (by simpa using h1),if_neg h1,AF (by omega) (by omega),bs,AF i1 (by omega),bs]
   by_cases h2:AB b.Nodes (AB m.Nodes i)=AB a.Nodes i
   ·rw [if_neg (by simpa using h2),if_neg (by simpa using h2)]; rfl
   ·rw [if_pos (by simpa using h2),if_pos h2]; rfl
theorem Un {x y:Prop} [Decidable x] [Decidable y]:(if decide x=true then some true else some (decide y))=some (decide (x∨y)):=by
 by_cases hx:x <;> simp [hx]
theorem bW (a b:Graph) (m:Morphism):Ju a b m=some (MS a b m):=by
 unfold Ju MS
 rw [Na,bs,Na,bs]
 refine IN fun ha=>IN fun hb=>P5 (by simp; try omega) fun hl=>?_
 have ga:=E3 ha
 have gb:=E3 hb
 rw [show (a.Nodes.length:Int)=m.Nodes.length by omega,show (a.Edges.length:Int)=m.Edges.length by omega,CX (Ky a b m),GJ]
 ·cases hn:fst (Ky a b m) 0 m.Nodes.length with
  | some e=>rfl
  | none=>
   have hn2:=CY.1 hn
   dsimp only
   rw [CX (IX a b m),GD]
   intro i i1 i2 _
   unfold IX
   rw [AF i1 i2]
   simp only [bs,Un]
   by_cases h1:AB m.Edges i<0∨b.Edges.length<=AB m.Edges i
   ·rw [if_pos (by simpa using h1),if_pos h1]; rfl
   ·have hf:=ga.fit _ (AN (l:=a.Edges) i1 (by omega))
    rw [if_neg (by simpa using h1),if_neg h1,AF i1 (by omega),bs,AF (by omega) (by omega),bs]
    by_cases h2:(AB a.Edges i).Type'=(AB b.Edges (AB m.Edges i)).Type'
    ·rw [if_neg (by simpa using h2),if_neg (by simpa using h2),AF (by omega) (by omega),bs]
     by_cases h3:AB m.Nodes (AB a.Edges i).From=(AB b.Edges (AB m.Edges i)).From
     ·rw [if_neg (by simpa using h3),AF (by omega) (by omega),bs,bs]
      by_cases h4:AB m.Nodes (AB a.Edges i).To=(AB b.Edges (AB m.Edges i)).To
      ·rw [if_neg (by simpa using h4),if_neg (by simp [h3,h4])]; rfl
      ·rw [if_pos (by simpa using h4),if_pos (.inr h4)]; rfl
     ·rw [if_pos (by simpa using h3),bs,if_pos rfl,if_pos (.inl h3)]; rfl
    ·rw [if_pos (by simpa using h2),if_pos h2]; rfl
 ·intro i i1 i2 _
  unfold Ky
  rw [AF i1 i2]
  simp only [bs,Un]
  by_cases h1:AB m.Nodes i<0∨b.Nodes.length<=AB m.Nodes i
  ·rw [if_pos (by simpa using h1),if_pos h1]; rfl
  ·rw [if_neg (by simpa using h1),if_neg h1,AF (by omega) (by omega),bs,AF i1 (by omega),bs]
   by_cases h2:AB b.Nodes (AB m.Nodes i)=AB a.Nodes i
   ·rw [if_neg (by simpa using h2),if_neg (by simpa using h2)]; rfl
   ·rw [if_pos (by simpa using h2),if_pos h2]; rfl
def ML (l:List Int):Bool:=!anyR (fun i=>anyR (fun j=>decide (AB l i=AB l j)) 0 i) 0 l.length
theorem MM {l:List Int}:ML l=true↔l.Nodup:=by
 unfold ML
 rw [Bool.not_eq_true',DW]
 constructor
 ·intro h
  refine VY (fun i j h0 h1 h2=>?_)
  have:=h j (by omega) h2
  rw [DW] at this
  have:=this i h0 h1
  rw [decide_eq_false_iff_not] at this
  exact fun e=>this e.symm
 ·intro h i i1 i2
  rw [DW]
  intro j j1 j2
  rw [decide_eq_false_iff_not]
  exact fun e=>Vl h j1 j2 i2 e.symm
theorem bV (l:List Int):H1 l=some (ML l):=by
 unfold H1 ML
 rw [CE (fun i=>anyR (fun j=>decide (AB l i=AB l j)) 0 i) false]
 ·cases anyR (fun i=>anyR (fun j=>decide (AB l i=AB l j)) 0 i) 0 l.length <;> rfl
 ·intro i i1 i2 _
  rw [CE (fun j=>decide (AB l i=AB l j)) false]
  ·cases anyR (fun j=>decide (AB l i=AB l j)) 0 i <;> rfl
  ·intro j j1 j2 _
   rw [AF i1 i2,bs,AF j1 (by omega),bs,KI]
theorem Uq {l:List Int} (hl:l.length<=1000):∃ k,HK l=some k∧decide (k=(l.length:Int))=ML l:=by
 have hs:(N7 l).length=l.length:=(NO l).length_eq
 refine ⟨((Go.Lib.compact (N7 l)).length:Int),?_,?_⟩
 ·unfold HK slices_Clone_int slices_Sort_int slices_Compact_int
  rw [FZ (by unfold BF; omega),bs,if_pos (by unfold BF; omega),bs,if_pos (by rw [hs]; unfold BF; omega),bs]
 ·rw [Bool.eq_iff_iff,MM,zzX,←(NO l).nodup_iff,←P6 (Nj l),hs]
  omega
def M7 (m:Morphism):Bool:=ML m.Nodes&&ML m.Edges
theorem mV {a b:Graph} {m:Morphism} (h:MS a b m=0):DV a b m=some (M7 m):=by
 have ho:=bR h
 have:=ho.ga.nodes
 have:=ho.ga.edges
 have:=ho.nlen
 have:=ho.elen
 obtain ⟨k,k1,k2⟩:=Uq (l:=m.Nodes) (by omega)
 obtain ⟨j,j1,j2⟩:=Uq (l:=m.Edges) (by omega)
 unfold DV M7
 rw [bS,h,bs,if_pos (decide_eq_true rfl),k1]
 simp only [bs,j1,k2,j2]
 cases ML m.Nodes <;> rfl
theorem mZ {a b:Graph} {m:Morphism} (h:MS a b m=0):Ib a b m=some (M7 m):=by
 unfold Ib M7
 rw [bW,h,bs,if_pos (decide_eq_true rfl),bV]
 simp only [bs,bV]
 cases ML m.Nodes <;> rfl
def RT (t:Types) (g:Graph) (i:Int):Bool:=Pa t (AB g.Edges i).Type' (AB g.Nodes (AB g.Edges i).From) (AB g.Nodes (AB g.Edges i).To)
end Go.Sf.Sc
namespace Go.Sf.Sc
open Go Go.Sf
structure QG (p:Pattern):Prop where
 nodes:p.Graph.Nodes.length<=45
 edges:p.Graph.Edges.length<=90
 slots:p.Slots.length<=15
 tests:p.Tests.length<=15
structure Wo (m:Morphism):Prop where
 nodes:m.Nodes.length<=140
 edges:m.Edges.length<=140
inductive C5:AA->Prop where
 | mk (c:AA) (hq:QG c.Pattern) (hm:Wo c.Map) (hk:∀ k∈c.Kids,C5 k):C5 c
theorem C5.q {c:AA} (h:C5 c):QG c.Pattern:=by cases h; assumption
theorem C5.m {c:AA} (h:C5 c):Wo c.Map:=by cases h; assumption
theorem C5.k {c:AA} (h:C5 c):∀ k∈c.Kids,C5 k:=by cases h; assumption
theorem D3 {c k:AA} (h:k∈c.Kids):SizeOf.sizeOf k<SizeOf.sizeOf c:=by
 have:=List.sizeOf_lt_of_mem h
 cases c
 simp only [AA.mk.sizeOf_spec] at *
 omega
theorem DI (c:AA):0<SizeOf.sizeOf c:=by
 cases c
 simp only [AA.mk.sizeOf_spec]
 omega
def NL (c:AA):Bool:=decide (c.Map.Nodes.length=0∧c.Map.Edges.length=0∧c.Pattern.Graph.Nodes.length=0∧c.Pattern.Graph.Edges.length=0∧c.Pattern.Slots.length=0∧c.Pattern.Tests.length=0∧c.Pattern.Vars=0)
theorem fR {c:AA} (hf:C5 c):FI c=some (NL c):=by
 have h1:=hf.q
 have h2:=hf.m
 have:=h1.nodes
 have:=h1.edges
 have:=h1.slots
 have:=h1.tests
 have:=h2.nodes
 have:=h2.edges
 unfold FI NL
 rw [AW (n:=(c.Map.Nodes.length:Int)+c.Map.Edges.length) (by omega) (by omega),AW (n:=(c.Map.Nodes.length:Int)+c.Map.Edges.length+c.Pattern.Graph.Nodes.length) (by omega) (by omega),
  AW (n:=(c.Map.Nodes.length:Int)+c.Map.Edges.length+c.Pattern.Graph.Nodes.length+c.Pattern.Graph.Edges.length) (by omega) (by omega),
  AW (n:=(c.Map.Nodes.length:Int)+c.Map.Edges.length+c.Pattern.Graph.Nodes.length+c.Pattern.Graph.Edges.length+c.Pattern.Slots.length) (by omega) (by omega),
  AW (n:=(c.Map.Nodes.length:Int)+c.Map.Edges.length+c.Pattern.Graph.Nodes.length+c.Pattern.Graph.Edges.length+c.Pattern.Slots.length+c.Pattern.Tests.length) (by omega) (by omega)]
 congr 1
 rw [Bool.eq_iff_iff]
 simp only [zzZ,zzX]
 omega
theorem Z7 {c:AA} (hf:C5 c):H8 c=some (NL c):=by
 have h1:=hf.q
 have h2:=hf.m
 have:=h1.nodes
 have:=h1.edges
 have:=h1.slots
 have:=h1.tests
 have:=h2.nodes
 have:=h2.edges
 unfold H8 NL
 rw [AW (n:=(c.Map.Nodes.length:Int)+c.Map.Edges.length) (by omega) (by omega),AW (n:=(c.Map.Nodes.length:Int)+c.Map.Edges.length+c.Pattern.Graph.Nodes.length) (by omega) (by omega),
  AW (n:=(c.Map.Nodes.length:Int)+c.Map.Edges.length+c.Pattern.Graph.Nodes.length+c.Pattern.Graph.Edges.length) (by omega) (by omega),
  AW (n:=(c.Pattern.Slots.length:Int)+c.Pattern.Tests.length) (by omega) (by omega)]
 congr 1
 rw [Bool.eq_iff_iff]
 simp only [zzZ,zzX]
 omega
def Pf (c:AA):Bool:=
 if c.Kind=1 then decide (c.Kids.length=0)&&NL c else if c.Kind=2 then decide (c.Kids.length=1)&&NL c else
 if c.Kind=3∨c.Kind=4 then decide (1<=c.Kids.length)&&NL c else if c.Kind=5 then decide (c.Kids.length=1) else false
def Km:Nat->AA->Bool
 | 0,_=>false
 | n+1,c=>Pf c&&c.Kids.all (Km n)
theorem fc:∀ (N:Nat) (c:AA),SizeOf.sizeOf c<=N->C5 c->∀ n,2*N<=n->BL n c=some (Km N c)
 | 0,c,h,_,_,_=>by have:=DI c; omega
 | N+1,c,h,hf,n,hn=>by
  obtain ⟨n,rfl⟩:∃ m,n=m+2:=⟨n - 2,by omega⟩
  rw [BL,Km,fR hf]
  have hk:B0 c.Kids (BP (n+1))=some (!c.Kids.all (Km N)):=by
   rw [UD (p:=fun k=>!Km N k) (fun k hk=>by
    have:=D3 hk
    rw [BP,fc N k (by omega) (hf.k k hk) n (by omega)]; rfl),List.all_eq_not_any_not,Bool.not_not]
  rw [hk]
  unfold Pf
  simp only [bs,zzX]
  generalize NL c=b
  generalize c.Kids.all (Km N)=w
  have e0:decide ((c.Kids.length:Int)=0)=decide (c.Kids.length=0):=by rw [decide_eq_decide]; omega
  have e1:decide ((c.Kids.length:Int)=1)=decide (c.Kids.length=1):=by rw [decide_eq_decide]; omega
  have e2:decide (1<=(c.Kids.length:Int))=decide (1<=c.Kids.length):=by rw [decide_eq_decide]; omega
  simp only [show ((c.Kids.length:Int)=0)↔c.Kids.length=0 by omega,show ((c.Kids.length:Int)=1)↔c.Kids.length=1 by omega,show (1<=(c.Kids.length:Int))↔1<=c.Kids.length by omega]
  by_cases k1:c.Kind=1
  ·rw [if_pos k1,if_pos k1]
   by_cases h0:c.Kids.length=0 <;> cases b <;> cases w <;> simp [h0]
  ·rw [if_neg k1,if_neg k1]
   by_cases k2:c.Kind=2
   ·rw [if_pos k2,if_pos k2]
    by_cases h0:c.Kids.length=1 <;> cases b <;> cases w <;> simp [h0]
   ·rw [if_neg k2,if_neg k2]
    by_cases k3:c.Kind=3
    ·simp only [k3,if_true,true_or]
     by_cases h0:1<=c.Kids.length <;> cases b <;> cases w <;> simp [h0]
    ·by_cases k4:c.Kind=4
     ·simp only [k4,if_true,or_true,show ¬ (4:Int)=3 by decide,if_false]
      by_cases h0:1<=c.Kids.length <;> cases b <;> cases w <;> simp [h0]
     ·simp only [k3,k4,if_false,or_false]
      by_cases k5:c.Kind=5
      ·rw [if_pos k5,if_pos k5]
       by_cases h0:c.Kids.length=1 <;> cases w <;> simp [h0]
      ·rw [if_neg k5,if_neg k5]
       cases w <;> rfl
theorem fh {c:AA} (hf:C5 c):K9 c=some (Pf c):=by
 unfold K9 Pf
 rw [Z7 hf]
 simp only [bs,zzX]
 generalize NL c=b
 simp only [show ((c.Kids.length:Int)=0)↔c.Kids.length=0 by omega,show ((c.Kids.length:Int)=1)↔c.Kids.length=1 by omega,show (0<(c.Kids.length:Int))↔1<=c.Kids.length by omega]
 by_cases k1:c.Kind=1
 ·rw [if_pos k1,if_pos k1]
  by_cases h0:c.Kids.length=0 <;> cases b <;> simp [h0]
 ·rw [if_neg k1,if_neg k1]
  by_cases k2:c.Kind=2
  ·rw [if_pos k2,if_pos k2]
   by_cases h0:c.Kids.length=1 <;> cases b <;> simp [h0]
  ·rw [if_neg k2,if_neg k2]
   by_cases k3:c.Kind=3
   ·simp only [k3,if_true,true_or,decide_true,bs]
    by_cases h0:1<=c.Kids.length <;> cases b <;> simp [h0]
   ·by_cases k4:c.Kind=4
    ·simp only [k4,if_true,or_true,show ¬ (4:Int)=3 by decide,if_false,decide_true,bs]
     by_cases h0:1<=c.Kids.length <;> cases b <;> simp [h0]
    ·simp only [k3,k4,if_false,or_false,decide_false,bs,Bool.false_eq_true]
     by_cases k5:c.Kind=5
     ·rw [if_pos k5,if_pos k5]
     ·rw [if_neg k5,if_neg k5]
theorem eY {α:Type} [Inhabited α] {l:List α} {p:α->Bool}:l.all p=!anyR (fun i=>!p (AB l i)) 0 l.length:=by
 rw [List.all_eq_not_any_not,Je]
theorem bU:∀ (N:Nat) (c:AA),SizeOf.sizeOf c<=N->C5 c->∀ n,N<=n->E0 n c=some (Km N c)
 | 0,c,h,_,_,_=>by have:=DI c; omega
 | N+1,c,h,hf,n,hn=>by
  obtain ⟨n,rfl⟩:∃ m,n=m+1:=⟨n - 1,by omega⟩
  rw [E0,Km,fh hf,bs,eY,CE (fun i=>!Km N (AB c.Kids i)) false]
  ·cases Pf c
   ·rfl
   ·cases anyR (fun i=>!Km N (AB c.Kids i)) 0 c.Kids.length <;> rfl
  ·intro i i1 i2 _
   have hm:=AN (l:=c.Kids) i1 i2
   have:=D3 hm
   rw [AF i1 i2,bs,bU N _ (by omega) (hf.k _ hm) n (by omega),bs,KI]
noncomputable def VQ (c:AA):Bool:=Km (SizeOf.sizeOf c) c
theorem mX {c:AA} (hf:C5 c):F3 c=some (VQ c):=FK (2*SizeOf.sizeOf c) fun n hn=>fc _ c (Nat.le_refl _) hf n hn
theorem md {c:AA} (hf:C5 c):MW c=some (VQ c):=FK (SizeOf.sizeOf c) fun n hn=>bU _ c (Nat.le_refl _) hf n hn
def JS:Nat->AA->Int × Int
 | 0,_=>(0,0)
 | n+1,c=>
  let s:=c.Kids.foldl (fun s k=>(AI (s.1+(JS n k).1),max s.2 (JS n k).2)) ((1,0):Int × Int)
  (s.1,if c.Kind=5 then AI (s.2+1) else s.2)
theorem TP {α σ:Type} [Inhabited α] {l:List α} {g:σ->α->σ} {s:σ} {f:Int->σ->Option σ} (h:∀ (i:Int) s,0<=i->i<l.length->f i s=some (g s (AB l i))):forA f 0 l.length s=some (l.foldl g s):=by
 rw [I5 (fun i=>(l.take i.toNat).foldl g s) (by omega) (by simp)]
 ·rw [Int.toNat_natCast,List.take_length]
 ·intro i i1 i2
  rw [h i _ i1 i2,JE i1 i2,List.foldl_append]; rfl
theorem YZ:∀ (N:Nat) (c:AA),SizeOf.sizeOf c<=N->∀ n,N<=n->CQ n c=some (JS N c)
 | 0,c,h,_,_=>by have:=DI c; omega
 | N+1,c,h,n,hn=>by
  obtain ⟨n,rfl⟩:∃ m,n=m+1:=⟨n - 1,by omega⟩
  rw [CQ,JS,TP (g:=fun s k=>(AI (s.1+(JS N k).1),max s.2 (JS N k).2))]
  ·simp only [bs,zzX]
   by_cases h5:c.Kind=5
   ·rw [if_pos h5,if_pos h5]; rfl
   ·rw [if_neg h5,if_neg h5]; rfl
  ·intro i s i1 i2
   have:=D3 (AN (l:=c.Kids) i1 i2)
   rw [AF i1 i2,bs,YZ N _ (by omega) n (by omega)]; rfl
theorem Ym:∀ (N:Nat) (c:AA),SizeOf.sizeOf c<=N->∀ n,N<=n->FL n c=some (JS N c)
 | 0,c,h,_,_=>by have:=DI c; omega
 | N+1,c,h,n,hn=>by
  obtain ⟨n,rfl⟩:∃ m,n=m+1:=⟨n - 1,by omega⟩
  rw [FL,JS,TP (g:=fun s k=>(AI (s.1+(JS N k).1),max s.2 (JS N k).2))]
  ·simp only [bs,zzX]
   by_cases h5:c.Kind=5
   ·rw [if_pos h5,if_pos h5]; rfl
   ·rw [if_neg h5,if_neg h5]; rfl
  ·intro i s i1 i2
   have:=D3 (AN (l:=c.Kids) i1 i2)
   rw [AF i1 i2,bs,Ym N _ (by omega) n (by omega)]; rfl
noncomputable def NP (c:AA):Int × Int:=JS (SizeOf.sizeOf c) c
noncomputable def Ie (c:AA):Int:=if VQ c=false then 1 else if 12<(NP c).1∨3<(NP c).2 then 3 else 0
theorem cw {c:AA} (hf:C5 c):EY c=some (Ie c):=by
 unfold EY Ie
 rw [mX hf,bs,show HU c=some (NP c) from FK (SizeOf.sizeOf c) fun n hn=>YZ _ c (Nat.le_refl _) n hn,bs]
 exact Vy fun _=>P5 (by simp) fun _=>rfl
theorem dF {c:AA} (hf:C5 c):K7 c=some (Ie c):=by
 unfold K7 Ie
 rw [md hf,bs,show ND c=some (NP c) from FK (SizeOf.sizeOf c) fun n hn=>Ym _ c (Nat.le_refl _) n hn,bs]
 exact Vy fun _=>P5 (by simp) fun _=>rfl
theorem R7 (g:Graph):C1 g≠9:=by
 unfold C1
 split
 ·decide
 ·split
  ·decide
  ·split <;> decide
theorem Pr {t:Types} {p:Pattern} (ht:(A7 t).2=0) (h:IH t p=0∨IH t p=9):0<=p.Vars∧p.Vars<=12:=by
 have hg:=R7 p.Graph
 unfold IH at h
 rw [if_neg (by simp [ht])] at h
 split at h
 ·omega
 ·split at h
  ·omega
  ·split at h
   ·omega
   ·omega
def MQ (t:Types) (q:Pattern) (v:Int):Int:=if IH t q≠9 then IH t q else if anyR (fun i=>!KL q i) v q.Vars=true then 9 else 0
theorem ni {α:Type} {P:Prop} [Decidable P] {v:α} {X:Option α} {Y:α} (h:P->X=some Y):(if (!decide P)=true then some v else X)=some (if ¬ P then v else Y):=by
 by_cases hp:P
 ·simp [hp,h hp]
 ·simp [hp]
theorem mW {t:Types} (hf:BV t) (ht:(A7 t).2=0) {q:Pattern} {v:Int} (h0:0<=v) (h1:v<=q.Vars):D1 t q v=some (MQ t q v):=by
 unfold D1 MQ
 rw [Tv hf,bs]
 refine ni fun h9=>?_
 have hv:=Pr ht (.inr h9)
 rw [Ow (c:=fun i=>(if (!KL q i)=true then some () else none).map fun _=>.inr 9) (a:=v) (b:=q.Vars) h1]
 ·rw [Qx,N5]
  cases anyR (fun i=>!KL q i) v q.Vars <;> rfl
 ·intro i i1 i2 _
  rw [if_pos (by simpa using i2),show (fun y0=>ID y0 i)=(fun y=>some (decide (y.Term.Var=i))) from rfl,cL,bs,show (q.Slots.any fun y=>decide (y.Term.Var=i))=KL q i from rfl,h9,AW (by omega) (by omega)]
  cases KL q i <;> rfl
 ·rw [if_neg (by simp)]
theorem dE (p:Pattern) (v:Int):L9 p v=some (KL p v):=bY p v
theorem ma {t:Types} (hf:BV t) (q:Pattern) (v:Int):K8 t v q=some (if q.Vars<v then 20 else MQ t q v):=by
 unfold K8 MQ
 refine P5 (by simp) fun _=>?_
 rw [SO hf,bs]
 refine ni fun h9=>?_
 rw [h9,CE (fun i=>!KL q i) 9]
 ·cases anyR (fun i=>!KL q i) v q.Vars <;> rfl
 ·intro i i1 i2 _
  rw [dE,bs,KI]
def GN:Nat->Types->Pattern->AA->Int
 | 0,_,_,_=>0
 | N+1,t,p,c=>
  if c.Kind=5 then
   if c.Pattern.Vars<p.Vars then 20 else if MQ t c.Pattern p.Vars≠0 then MQ t c.Pattern p.Vars else
   if MS p.Graph c.Pattern.Graph c.Map≠0 then MS p.Graph c.Pattern.Graph c.Map else if M7 c.Map=false then 1 else
   (fst (fun i=>nz (GN N t c.Pattern (AB c.Kids i))) 0 c.Kids.length).getD 0
  else (fst (fun i=>nz (GN N t p (AB c.Kids i))) 0 c.Kids.length).getD 0
theorem Zi {t:Types} (ht:(A7 t).2=0) {q:Pattern} {v:Int} (h:MQ t q v=0):0<=q.Vars:=by
 unfold MQ at h
 split at h
 ·exact (Pr ht (.inl h)).1
 ·rename_i h9
  exact (Pr ht (.inr (Classical.not_not.1 h9))).1
theorem Yb {t:Types} (hf:BV t) (ht:(A7 t).2=0):∀ (N:Nat) (c:AA) (p:Pattern),0<=p.Vars->SizeOf.sizeOf c<=N->∀ n,N<=n->CB n t p c=some (GN N t p c)
 | 0,c,p,_,h,_,_=>by have:=DI c; omega
 | N+1,c,p,hp,h,n,hn=>by
  obtain ⟨n,rfl⟩:∃ m,n=m+1:=⟨n - 1,by omega⟩
  rw [CB,GN]
  have hkids:∀ q:Pattern,0<=q.Vars->(thenR (forR (ρ:=Int) (fun (i0:Int) (_:Unit)=>
    (AH c.Kids i0).bind fun x55=>
    (CB n t q x55).bind fun x60=>
    if (!decide (x60=0))=true then
    some (.ret x60)
    else
    some (.next ())) 0 (c.Kids.length:Int) ()) (fun _=>
    some 0) (fun v0=>some v0))=some ((fst (fun i=>nz (GN N t q (AB c.Kids i))) 0 c.Kids.length).getD 0):=by
   intro q hq
   rw [CX (fun i=>nz (GN N t q (AB c.Kids i))),GD]
   intro i i1 i2 _
   have:=D3 (AN (l:=c.Kids) i1 i2)
   rw [AF i1 i2,bs,Yb hf ht N _ q hq (by omega) n (by omega),bs,Oj]
  by_cases h5:c.Kind=5
  ·rw [if_pos (by simpa using h5),if_pos h5]
   refine P5 (by simp) fun hv=>?_
   rw [mW hf ht hp (by omega),bs]
   refine IN fun hi=>?_
   rw [bS,bs]
   refine IN fun hm=>?_
   rw [mV hm,bs]
   exact Vy fun _=>hkids _ (Zi ht hi)
  ·rw [if_neg (by simpa using h5),if_neg h5]
   exact hkids p hp
theorem Yn {t:Types} (hf:BV t):∀ (N:Nat) (c:AA) (p:Pattern),SizeOf.sizeOf c<=N->∀ n,N<=n->FV n t p c=some (GN N t p c)
 | 0,c,p,h,_,_=>by have:=DI c; omega
 | N+1,c,p,h,n,hn=>by
  obtain ⟨n,rfl⟩:∃ m,n=m+1:=⟨n - 1,by omega⟩
  rw [FV,GN]
  have hkids:∀ q:Pattern,(thenR (forR (ρ:=Int) (fun (i0:Int) (_:Unit)=>
    (AH c.Kids i0).bind fun x55=>
    (FV n t q x55).bind fun x60=>
    if (!decide (x60=0))=true then
    some (.ret x60)
    else
    some (.next ())) 0 (c.Kids.length:Int) ()) (fun _=>
    some 0) (fun v0=>some v0))=some ((fst (fun i=>nz (GN N t q (AB c.Kids i))) 0 c.Kids.length).getD 0):=by
   intro q
   rw [CX (fun i=>nz (GN N t q (AB c.Kids i))),GD]
   intro i i1 i2 _
   have:=D3 (AN (l:=c.Kids) i1 i2)
   rw [AF i1 i2,bs,Yn hf N _ q (by omega) n (by omega),bs,Oj]
  by_cases h5:c.Kind=5
  ·rw [if_pos (by simpa using h5),if_pos h5,ma hf,bs]
   by_cases hv:c.Pattern.Vars<p.Vars
   ·simp [hv]
   ·simp only [if_neg hv]
    refine IN fun hi=>?_
    rw [bW,bs]
    refine IN fun hm=>?_
    rw [mZ hm,bs]
    exact Vy fun _=>hkids _
  ·rw [if_neg (by simpa using h5),if_neg h5]
   exact hkids p
noncomputable def E8 (t:Types) (p:Pattern) (c:AA):Int:=if IH t p≠0 then IH t p else if Ie c≠0 then Ie c else GN (SizeOf.sizeOf c) t p c
theorem fS {t:Types} (hf:BV t) (ht:(A7 t).2=0) (p:Pattern) {c:AA} (hc:C5 c):DU t p c=some (E8 t p c):=by
 unfold DU E8
 rw [Tv hf,bs]
 refine IN fun h=>?_
 rw [cw hc,bs,Option.bind_fun_some]
 exact IN fun _=>FK (SizeOf.sizeOf c) fun n hn=>Yb hf ht _ c p (Pr ht (.inl h)).1 (Nat.le_refl _) n hn
theorem Ux {t:Types} (hf:BV t) (p:Pattern) {c:AA} (hc:C5 c):Hu t p c=some (E8 t p c):=by
 unfold Hu E8
 rw [SO hf,bs]
 refine IN fun h=>?_
 rw [dF hc,bs,Option.bind_fun_some]
 exact IN fun _=>FK (SizeOf.sizeOf c) fun n hn=>Yn hf _ c p (Nat.le_refl _) n hn
end Go.Sf.Sc
namespace Go.Sf.Sc
open Go Go.Sf
def leafB (t:Types) (l:List Int):Bool:=!(l.any fun k=>t.Nodes.any fun n=>decide (n.Parent=k))
end Go.Sf.Sc
namespace Go.Sf
theorem Q8 {ρ:Type} {f:Int->Option (B8 Int ρ)} (p:Int->Bool) (v:ρ) {a b:Int} (hab:a<=b) (h:∀ i,a<=i->i<b->f i=some (if p i=true then .ret v else .next (i+1))) (hb:f b=some (.brk b)):FB f a=some (if anyR p a b=true then .inr v else .inl b):=by
 rw [Ow (c:=fun i=>(if p i=true then some () else none).map fun _=>.inr v) hab]
 ·rw [Qx,N5]
  cases anyR p a b <;> rfl
 ·intro i h1 h2 _
  rw [h i h1 h2]
  cases p i <;> rfl
 ·exact hb
theorem NW {α:Type} {e:α->TV} {n:Nat} {l:List α} (h:TV.Sm (.list n (l.map e))):(l.length:Int)<=140737488351232∧∀ x∈l,(e x).Sm:=by
 simp only [TV.Sm,List.length_map] at h
 refine ⟨by have:=h.1; unfold reachBytes at this; omega,fun x hx=>Oq.1 h.2 _ (List.mem_map.2 ⟨x,hx,rfl⟩)⟩
end Go.Sf
namespace Go.Sf.Sc
open Go Go.Sf
def UB (a:Attr):Bool:=(decide (40<(a.Name.size:Int))||decide (25<(a.Names.length:Int)))||anyR (fun i=>decide (40<((AB a.Names i).size:Int))) 0 a.Names.length
theorem ZY {a:Attr} (h:UB a=false):QF a:=by
 unfold UB at h
 simp only [Bool.or_eq_false_iff,decide_eq_false_iff_not,DW] at h
 refine ⟨by omega,by omega,fun x hx=>?_⟩
 obtain ⟨i,i1,i2,rfl⟩:=EP hx
 have:=h.2 i i1 i2
 omega
theorem YG {t:Types} (hs:(AU t).Sm):∃ b,Mx t=some b∧(b=true->BV t):=by
 have hs':TV.Sms [_,_]:=hs
 obtain ⟨hn,hn2⟩:=NW (e:=Hq) hs'.1
 unfold Mx
 by_cases hl:20<t.Nodes.length∨30<t.Edges.length
 ·rw [if_pos (by simp; omega)]
  exact ⟨false,rfl,fun h=>by cases h⟩
 rw [if_neg (by simp; omega)]
 rcases UQ (f:=(fun (i0:Int) (s0:Int)=>
 (AH t.Nodes i0).bind fun x30=>
 (if (decide (30<(AI (s0+(x30.Attrs.length:Int)))))=true then some true else ((AH t.Nodes i0).bind fun x41=>
 some (decide (40<(x41.Name.size:Int))))).bind fun x46=>
 if x46=true then
 some (B8.ret false)
 else
 thenR (FB (ρ:=Bool) (fun (s2:Int)=>
 (AH t.Nodes i0).bind fun x51=>
 if (decide (s2<(x51.Attrs.length:Int)))=true then
 (AH t.Nodes i0).bind fun x61=>
 (AH x61.Attrs s2).bind fun x65=>
 if ((decide (40<(x65.Name.size:Int)))||(decide (25<(x65.Names.length:Int))))=true then
 some (.ret false)
 else
 thenR (FB (ρ:=Bool) (fun (s4:Int)=>
 if (decide (s4<(x65.Names.length:Int)))=true then
 (AH x65.Names s4).bind fun x87=>
 if (decide (40<(x87.size:Int)))=true then
 some (.ret false)
 else
 some (.next (AI (s4+1)))
 else
 some (.brk s4)) 0) (fun s4=>
 some (.next (AI (s2+1)))) (fun v4=>some (.ret v4))
 else
 some (.brk s2)) 0) (fun s2=>
 some (.next (AI (s0+(x30.Attrs.length:Int))))) (fun v2=>some (.ret v2))))
  (fun i s=>0<=s∧s<=30∧∀ j,0<=j->j<i->((AB t.Nodes j).Name.size:Int)<=40∧(AB t.Nodes j).Attrs.length<=30∧∀ a∈(AB t.Nodes j).Attrs,QF a) (fun _=>False) (fun r=>r=false) (a:=0) (b:=t.Nodes.length) (s:=0) (by omega) ⟨by omega,by omega,fun j h1 h2=>by omega⟩ (fun i s i1 i2 hI=>by
   have hx:=hn2 _ (AN (l:=t.Nodes) i1 i2)
   have hx':TV.Sms [_,_,_,_]:=hx
   obtain ⟨ha,ha2⟩:=NW (e:=IS) hx'.2.2.2.1
   obtain ⟨hI1,hI2,hI3⟩:=hI
   have hw:AI (s+(AB t.Nodes i).Attrs.length)=s+(AB t.Nodes i).Attrs.length:=AW (by omega) (by omega)
   simp only [AF i1 i2,bs,hw,Un]
   by_cases hc:30<s+(AB t.Nodes i).Attrs.length∨40<((AB t.Nodes i).Name.size:Int)
   ·rw [if_pos (by simpa using hc)]
    exact .inr (.inr ⟨_,rfl,rfl⟩)
   rw [if_neg (by simpa using hc)]
   rw [Q8 (fun j=>UB (AB (AB t.Nodes i).Attrs j)) false (b:=(AB t.Nodes i).Attrs.length) (by omega)]
   ·cases hb:anyR (fun j=>UB (AB (AB t.Nodes i).Attrs j)) 0 (AB t.Nodes i).Attrs.length
    ·refine .inl ⟨_,rfl,by omega,by omega,fun j j1 j2=>?_⟩
     by_cases hj:j=i
     ·subst hj
      refine ⟨by omega,by omega,fun a ha=>?_⟩
      obtain ⟨k,k1,k2,rfl⟩:=EP ha
      exact ZY (DW.1 hb k k1 k2)
     ·exact hI3 j j1 (by omega)
    ·exact .inr (.inr ⟨_,rfl,rfl⟩)
   ·intro j j1 j2
    rw [if_pos (by simpa using j2),AF j1 j2,bs]
    have hy:=ha2 _ (AN (l:=(AB t.Nodes i).Attrs) j1 j2)
    have hy':TV.Sms [_,_,_,_]:=hy
    obtain ⟨hm,_⟩:=NW (e:=eS) hy'.2.2.2.1
    unfold UB
    cases h1:(decide (40<((AB (AB t.Nodes i).Attrs j).Name.size:Int))||decide (25<((AB (AB t.Nodes i).Attrs j).Names.length:Int)))
    ·rw [if_neg (by decide),Q8 (fun k=>decide (40<((AB (AB (AB t.Nodes i).Attrs j).Names k).size:Int))) false (b:=(AB (AB t.Nodes i).Attrs j).Names.length) (by omega)]
     ·cases anyR (fun k=>decide (40<((AB (AB (AB t.Nodes i).Attrs j).Names k).size:Int))) 0 (AB (AB t.Nodes i).Attrs j).Names.length
      ·rw [Bool.or_false,AW (show -9223372036854775808<=j+1 by omega) (by omega)]; rfl
      ·rfl
     ·intro k k1 k2
      rw [if_pos (by simpa using k2),AF k1 k2,bs,AW (show -9223372036854775808<=k+1 by omega) (by omega),KI]
     ·rw [if_neg (by simp)]
    ·rfl
   ·rw [if_neg (by simp)]) with ⟨s',h1,h2⟩ | ⟨r,h1,h2⟩
 ·rw [h1]
  rcases h2 with h2 | h2
  ·rw [C4,CE (fun i=>decide (40<((AB t.Edges i).Name.size:Int))) false]
   ·cases hb:anyR (fun i=>decide (40<((AB t.Edges i).Name.size:Int))) 0 t.Edges.length
    ·refine ⟨true,rfl,fun _=>⟨by omega,by omega,fun n hn=>?_,fun n hn=>?_,fun n hn=>?_,fun e he=>?_⟩⟩
     ·obtain ⟨k,k1,k2,rfl⟩:=EP hn
      exact (h2.2.2 k k1 k2).1
     ·obtain ⟨k,k1,k2,rfl⟩:=EP hn
      exact (h2.2.2 k k1 k2).2.1
     ·obtain ⟨k,k1,k2,rfl⟩:=EP hn
      exact (h2.2.2 k k1 k2).2.2
     ·obtain ⟨k,k1,k2,rfl⟩:=EP he
      have:=DW.1 hb k k1 k2
      simpa using this
    ·exact ⟨false,rfl,fun h=>by cases h⟩
   ·intro i i1 i2 _
    rw [AF i1 i2,bs,KI]
  ·exact h2.elim
 ·rw [h1]
  subst h2
  exact ⟨false,rfl,fun h=>by cases h⟩
theorem V4 (p:Pattern):∃ b,LU p=some b∧(b=true->QG p):=by
 refine ⟨_,rfl,fun h=>?_⟩
 simp only [zzZ,zzX] at h
 exact ⟨by omega,by omega,by omega,by omega⟩
theorem cY {a b:Int} (ha:0<=a) (ha2:a<=140737488351232) (hb:0<=b) (hb2:b<=140737488351232):AI (a+b)=a+b:=AW (by omega) (by omega)
theorem cX {m:Morphism} (hs:(BS m).Sm):∃ b,OG m 140=some b∧(b=true->Wo m):=by
 have hs':TV.Sms [_,_]:=hs
 have h1:=(NW (e:=eI) hs'.1).1
 have h2:=(NW (e:=eI) hs'.2.1).1
 refine ⟨_,rfl,fun h=>?_⟩
 rw [cY (by omega) h1 (by omega) h2] at h
 simp only [zzX] at h
 exact ⟨by omega,by omega⟩
theorem cO {c:AA} (h:(AJ c).Sm):(BS c.Map).Sm∧(c.Kids.length:Int)<=140737488351232∧∀ k∈c.Kids,(AJ k).Sm:=by
 have h':TV.Sms [_,_,_,_,_,_,_,_,_]:=h
 obtain ⟨_,h2,h3,h4,_⟩:=h'
 rw [Lj] at h2
 obtain ⟨k1,k2⟩:=NW h2
 exact ⟨⟨h3,h4,trivial⟩,k1,k2⟩
end Go.Sf.Sc
