/- Plain lemmas: what the functions of the program and of the reference compute. -/
import Derived.Test.YtmaobfbhdkafkaaGreatSfRead
import Derived.Test.YtmaobfbhdkafkaaGreatFns
import Derived.Test.YtmaobfbhdkafkaaGreatSfPl
set_option maxRecDepth 100000
namespace Go.Sf
theorem Rb {ρ τ:Type} {d:Int->Option ρ} {g:ρ->τ}:∀ (n:Nat) (a:Int),FQ (fun i=>(d i).map g) n a=(FQ d n a).map g
 | 0,_=>rfl
 | n+1,a=>by
  rw [FQ,FQ]
  cases d a with
  | some r=>rfl
  | none=>exact Rb n (a+1)
theorem Me {ρ τ:Type} {d:Int->Option ρ} {g:ρ->τ} {a b:Int}:fst (fun i=>(d i).map g) a b=(fst d a b).map g:=Rb _ _
theorem Qi {ρ:Type} {d:Int->Option ρ} {r:ρ}:∀ {n:Nat} {a:Int},FQ d n a=some r->∃ i,a<=i∧i<a+n∧d i=some r∧∀ j,a<=j->j<i->d j=none
 | 0,_,h=>by cases h
 | n+1,a,h=>by
  rw [FQ] at h
  cases hd:d a with
  | some r'=>
   rw [hd] at h
   exact ⟨a,Int.le_refl _,by omega,by rw [hd]; exact h,fun j h1 h2=>by omega⟩
  | none=>
   rw [hd] at h
   obtain ⟨i,h1,h2,h3,h4⟩:=Qi h
   refine ⟨i,by omega,by omega,h3,fun j k1 k2=>?_⟩
   by_cases hj:j=a
   ·subst hj; exact hd
   ·exact h4 j (by omega) k2
theorem DF {ρ:Type} {d:Int->Option ρ} {r:ρ} {a b:Int} (h:fst d a b=some r):∃ i,a<=i∧i<b∧d i=some r∧∀ j,a<=j->j<i->d j=none:=by
 obtain ⟨i,h1,h2,h3,h4⟩:=Qi h
 exact ⟨i,h1,by omega,h3,h4⟩
def J7 (p:Int->Bool) (s:ByteArray):Int:=(fst (fun i=>if p (bt s i) then none else some i) 0 s.size).getD s.size
theorem PX (p:Int->Bool) (s:ByteArray):0<=J7 p s∧J7 p s<=s.size∧(∀ j,0<=j->j<J7 p s->p (bt s j)=true)∧(J7 p s<s.size->p (bt s (J7 p s))=false):=by
 unfold J7
 cases h:fst (fun i=>if p (bt s i) then none else some i) 0 s.size with
 | none=>
  rw [DK] at h
  simp only [Option.getD]
  refine ⟨by omega,by omega,fun j h1 h2=>?_,fun h1=>by omega⟩
  have:=h j h1 h2
  cases hp:p (bt s j)
  ·simp [hp] at this
  ·rfl
 | some r=>
  obtain ⟨i,h1,h2,h3,h4⟩:=DF h
  have hi:p (bt s i)=false∧i=r:=by
   cases hp:p (bt s i) <;> simp [hp] at h3
   exact ⟨rfl,h3⟩
  obtain ⟨hi,rfl⟩:=hi
  simp only [Option.getD]
  refine ⟨h1,by omega,fun j k1 k2=>?_,fun _=>hi⟩
  have:=h4 j k1 k2
  cases hp:p (bt s j)
  ·simp [hp] at this
  ·rfl
theorem TU {s:ByteArray} (h:s≠⟨#[]⟩):0<s.size:=by
 rcases Nat.eq_zero_or_pos s.size with h0 | h0
 ·exfalso; apply h
  cases s with | mk d=>congr 1; exact Array.eq_empty_of_size_eq_zero h0
 ·exact h0
end Go.Sf
namespace Go.Sf.Sc
open Go Go.Sf
def GA (c:Int):Bool:=((decide (97<=c))&&(decide (c<=122)))||((decide (65<=c))&&(decide (c<=90)))
def digitB (c:Int):Bool:=(decide (48<=c))&&(decide (c<=57))
def NR (c:Int):Bool:=GA c||digitB c||decide (c=95)
theorem TC (c:Int):Jq c=some (GA c):=rfl
theorem RG (c:Int):JT c=some (digitB c):=rfl
theorem TK (c:Int):Jj c=some (GA c):=rfl
theorem Ug (c:Int):IL c=some (digitB c):=rfl
theorem cN (c:Int):LR c=some (NR c):=by
 unfold LR NR
 rw [TC,bs,RG]
 cases GA c <;> cases digitB c <;> rfl
theorem VQ {s:ByteArray} (hs:(s.size:Int)<=4611686018427387904) {ok:Int->Option Bool} {p:Int->Bool} (h:∀ c,ok c=some (p c)):HT s ok=some (J7 p s):=by
 unfold HT
 rw [ON (c:=fun i=>(if p (bt s i) then none else some i).map .inl) (a:=0) (b:=s.size) (by omega)]
 ·rw [Me]
  unfold J7
  cases fst (fun i=>if p (bt s i)=true then none else some i) 0 s.size <;> rfl
 ·intro i h1 h2 _
  simp only [h2,decide_true,if_true,Mm h1 h2,bs,h]
  cases p (bt s i)
  ·simp [He]
  ·simp [He,BF (show -9223372036854775808<=i+1 by omega) (by omega)]
 ·simp
def F2 (s:ByteArray):Bool:=decide (0<s.size)&&GA (bt s 0)&&decide (s.size<=20)&&decide (J7 NR s=s.size)
theorem RF (l:List ByteArray) (v:ByteArray):∃ k,GK l v=some k∧(0<=k↔v∈l):=by
 unfold GK
 rw [CF (fun i=>if (v==AA l i)=true then some i else none)]
 ·cases h:fst (fun i=>if (v==AA l i)=true then some i else none) 0 l.length with
  | none=>
   rw [DK] at h
   refine ⟨-1,rfl,by omega,fun hm=>?_⟩
   obtain ⟨i,h1,h2,h3⟩:=E9 hm
   have:=h i h1 h2
   rw [h3,if_pos (beq_self_eq_true v)] at this
   cases this
  | some k=>
   obtain ⟨i,h1,h2,h3,_⟩:=DF h
   have h4:(v==AA l i)=true∧i=k:=by
    by_cases hv:(v==AA l i)=true
    ·rw [if_pos hv] at h3; exact ⟨hv,by simpa using h3⟩
    ·rw [if_neg hv] at h3; cases h3
   obtain ⟨h4,rfl⟩:=h4
   refine ⟨i,rfl,fun _=>?_,fun _=>h1⟩
   rw [eq_of_beq h4]; exact AT h1 h2
 ·intro i h1 h2 _
  simp only [AG h1 h2,bs]
  split <;> rfl
theorem MS (l:List ByteArray) (v:ByteArray):D3 l v=some (l.contains v):=by
 unfold D3
 obtain ⟨k,h1,h2⟩:=RF l v
 rw [h1,bs]
 congr 1
 rw [Bool.eq_iff_iff,decide_eq_true_eq,h2,List.contains_iff_mem]
theorem cL {s:ByteArray} (h0:0<s.size) (hs:(s.size:Int)<=4611686018427387904):∃ k n e,IG s=some (k,n,e)∧(((decide (e=0))&&(decide (k=1)))&&(decide (n=(s.size:Int))))=F2 s:=by
 have hr:=PX NR s
 unfold IG F2
 simp only [Mm (Int.le_refl 0) (show (0:Int)<s.size by omega),bs,TC,RG,VQ hs cN,VQ hs RG,h0,decide_true,Bool.true_and]
 by_cases hl:GA (bt s 0)=true
 ·rw [if_pos hl]
  by_cases h20:20<J7 NR s
  ·refine ⟨0,0,3,by simp [h20],?_⟩
   simp [hl]
   intro h1 h2
   omega
  ·refine ⟨1,_,0,by rw [if_neg (by simpa using h20)],?_⟩
   simp only [hl,decide_true,Bool.true_and]
   rw [Bool.eq_iff_iff]
   simp only [decide_eq_true_eq,Bool.and_eq_true]
   omega
 ·rw [if_neg hl]
  have hl':GA (bt s 0)=false:=by simpa using hl
  rw [hl',Bool.false_and,Bool.false_and]
  by_cases hd:digitB (bt s 0)=true
  ·rw [if_pos hd]
   by_cases h9:9<J7 digitB s
   ·exact ⟨0,0,3,by simp [h9],by simp⟩
   ·exact ⟨2,_,0,by rw [if_neg (by simpa using h9)],by simp⟩
  ·rw [if_neg hd]
   by_cases hq:bt s 0=34
   ·have hsz:=SC (s:=s) (a:=1) (b:=s.size) (by omega) (by omega) (by omega)
    have hq2:∀ c,Jz c=some (((decide (32<=c))&&(decide (c<=126)))&&(!decide (c=34))):=fun _=>rfl
    have hr2:=PX (fun c=>((decide (32<=c))&&(decide (c<=126)))&&(!decide (c=34))) (s.extract (1:Int).toNat (s.size:Int).toNat)
    have hqq:∃ n e,Gz s=some (n,e):=by
     unfold Gz
     rw [Kx (by omega) (by omega) (by omega),bs,VQ (by omega) hq2,bs]
     rw [BF (by omega) (by omega)]
     by_cases he:1+J7 (fun c=>((decide (32<=c))&&(decide (c<=126)))&&(!decide (c=34))) (s.extract (1:Int).toNat (s.size:Int).toNat)=s.size
     ·refine ⟨0,2,?_⟩
      simp only [he,decide_true,if_true,bs]
     ·simp only [he,decide_false,Bool.false_eq_true,if_false]
      rw [Mm (by omega) (by omega)]
      simp only [bs]
      split
      ·exact ⟨_,_,rfl⟩
      ·split
       ·exact ⟨_,_,rfl⟩
       ·exact ⟨_,_,rfl⟩
    obtain ⟨n,e,hne⟩:=hqq
    refine ⟨3,n,e,by rw [if_pos (by simpa using hq),hne]; rfl,by simp⟩
   ·rw [if_neg (by simpa using hq)]
    have hp:∃ b,LQ s=some b:=by
     unfold LQ
     by_cases h2:2<=(s.size:Int)
     ·rw [if_pos (by simpa using h2),Kx (by omega) (by omega) h2]
      simp only [bs,MS]
      exact ⟨_,rfl⟩
     ·rw [if_neg (by simpa using h2)]
      exact ⟨_,rfl⟩
    obtain ⟨b,hb⟩:=hp
    rw [hb,bs]
    cases b
    ·simp only [Bool.false_eq_true,if_false,strings_IndexByte,bs]
     split
     ·exact ⟨_,_,_,rfl,rfl⟩
     ·exact ⟨_,_,_,rfl,rfl⟩
    ·exact ⟨_,_,_,rfl,rfl⟩
theorem Ok {s:ByteArray} (hs:(s.size:Int)<=4611686018427387904):EK s=some (F2 s):=by
 unfold EK IR
 simp only [show decide ((1:Int)=3)=false from rfl,Bool.false_eq_true,if_false,bs]
 by_cases he:s=⟨#[]⟩
 ·subst he; rfl
 ·rw [if_neg (by simpa using he)]
  obtain ⟨k,n,e,h1,h2⟩:=cL (TU he) hs
  rw [h1]
  simp only [bs]
  rw [h2]
theorem cZ {s:ByteArray} (hs:(s.size:Int)<=4611686018427387904) (digits:Bool):∃ n,L8 s 0 digits=some n∧0<=n∧n<=s.size∧(digits=false->n=J7 NR s):=by
 have hr:=PX (fun c=>digitB c||(!digits&&(GA c||decide (c=95)))) s
 refine ⟨J7 (fun c=>digitB c||(!digits&&(GA c||decide (c=95)))) s,?_,hr.1,hr.2.1,fun hd=>?_⟩
 ·unfold L8
  rw [ON (c:=fun i=>(if (digitB (bt s i)||(!digits&&(GA (bt s i)||decide (bt s i=95)))) then none else some i).map .inl) (a:=0) (b:=s.size) (by omega)]
  ·rw [Me]
   unfold J7
   cases fst (fun i=>if (digitB (bt s i)||(!digits&&(GA (bt s i)||decide (bt s i=95))))=true then none else some i) 0 s.size <;> rfl
  ·intro i h1 h2 _
   have hw:A3 (0+i)=i:=by rw [BF (by omega) (by omega)]; omega
   simp only [hw,h2,decide_true,if_true,Mm h1 h2,bs,Ug,TK]
   cases digitB (bt s i) <;> cases digits <;> cases GA (bt s i) <;> cases (decide (bt s i=95)) <;> simp [He,BF (show -9223372036854775808<=i+1 by omega) (by omega)]
  ·have hw:A3 (0+(s.size:Int))=s.size:=by rw [BF (by omega) (by omega)]; omega
   simp only [hw,Int.lt_irrefl,decide_false,Bool.false_eq_true,if_false,bs]
 ·subst hd
  congr 1
  funext c
  unfold NR
  cases GA c <;> cases digitB c <;> cases decide (c=95) <;> rfl
theorem X7 {s:ByteArray} (h0:0<s.size) (hs:(s.size:Int)<=4611686018427387904):∃ n,Jk s 0=some n∧(n=0∨(2<=n∧n<=s.size)):=by
 unfold Jk
 rw [ON (c:=fun i=>if decide (bt s i=34)=true then some (Sum.inr (i+1):Int ⊕ Int) else if (decide (bt s i<32)||decide (126<bt s i))=true then some (Sum.inr 0) else none) (a:=1) (b:=s.size) (by omega)]
 ·cases h:fst (fun i=>if decide (bt s i=34)=true then some (Sum.inr (i+1):Int ⊕ Int) else if (decide (bt s i<32)||decide (126<bt s i))=true then some (Sum.inr 0) else none) 1 s.size with
  | none=>exact ⟨0,rfl,.inl rfl⟩
  | some r=>
   obtain ⟨i,h1,h2,h3,_⟩:=DF h
   split at h3
   ·cases h3; exact ⟨_,rfl,.inr (by omega)⟩
   ·split at h3
    ·cases h3; exact ⟨_,rfl,.inl rfl⟩
    ·cases h3
 ·intro i h1 h2 _
  have hw:A3 (0+i)=i:=by rw [BF (by omega) (by omega)]; omega
  simp only [hw,h2,decide_true,if_true,Mm (show 0<=i by omega) h2,bs,BF (show -9223372036854775808<=i+1 by omega) (by omega)]
  split
  ·rfl
  ·split <;> rfl
 ·have hw:A3 (0+(s.size:Int))=s.size:=by rw [BF (by omega) (by omega)]; omega
  simp only [hw,Int.lt_irrefl,decide_false,Bool.false_eq_true,if_false]
theorem jM {s:ByteArray} (h0:0<s.size) (hs:(s.size:Int)<=4611686018427387904):∃ t n e,L7 s 0=some (t,n,e)∧(((decide (e=0))&&(decide (n=(s.size:Int))))&&(decide (t.Kind=1)))=F2 s:=by
 obtain ⟨m,hm1,hm2,hm3,hm4⟩:=cZ hs (digitB (bt s 0))
 unfold L7 F2
 simp only [Mm (Int.le_refl 0) (show (0:Int)<s.size by omega),bs,TK,Ug,h0,decide_true,Bool.true_and,hm1]
 have hw:A3 (0+m)=m:=by rw [BF (by omega) (by omega)]; omega
 by_cases hl:GA (bt s 0)=true
 ·have hd:digitB (bt s 0)=false:=by
   unfold GA at hl; unfold digitB
   simp only [Bool.or_eq_true,Bool.and_eq_true,decide_eq_true_eq] at hl
   rw [Bool.and_eq_false_iff]
   simp only [decide_eq_false_iff_not]
   omega
  have hm:=hm4 hd
  subst hm
  simp only [hl,if_true,hd,Bool.false_eq_true,if_false,bs,hw]
  by_cases h20:20<J7 NR s
  ·refine ⟨_,_,_,by rw [if_pos (by simpa using h20)],?_⟩
   rw [Bool.eq_iff_iff]
   simp only [decide_eq_true_eq,Bool.and_eq_true]
   omega
  ·rw [if_neg (by simpa using h20),Kx (Int.le_refl _) hm2 hm3]
   refine ⟨_,_,_,rfl,?_⟩
   rw [Bool.eq_iff_iff]
   simp only [decide_eq_true_eq,Bool.and_eq_true,true_and,and_true]
   omega
 ·have hl':GA (bt s 0)=false:=by simpa using hl
  simp only [hl',Bool.false_eq_true,if_false,bs,Bool.false_and,hw]
  by_cases hd:digitB (bt s 0)=true
  ·simp only [hd,if_true,bs]
   by_cases h9:9<m
   ·exact ⟨_,_,_,by rw [if_pos (by simpa using h9)],by simp⟩
   ·rw [if_neg (by simpa using h9),Kx (Int.le_refl _) hm2 hm3]
    exact ⟨_,_,_,rfl,by simp⟩
  ·have hd':digitB (bt s 0)=false:=by simpa using hd
   simp only [hd',Bool.false_eq_true,if_false,bs]
   by_cases hq:bt s 0=34
   ·obtain ⟨n,hn,hn2⟩:=X7 h0 hs
    rw [if_pos (by simpa using hq),hn,bs]
    rcases hn2 with rfl | hn2
    ·exact ⟨_,_,_,rfl,by simp⟩
    ·rw [if_neg (by simp; omega)]
     split
     ·exact ⟨_,_,_,rfl,by simp⟩
     ·have e1:A3 (0+1)=1:=by decide
      have e2:A3 (0+n)=n:=by rw [BF (by omega) (by omega)]; omega
      rw [e1,e2,BF (show -9223372036854775808<=n - 1 by omega) (by omega),Kx (by omega) (by omega) (by omega)]
      exact ⟨_,_,_,rfl,by simp⟩
   ·rw [if_neg (by simpa using hq)]
    unfold Lu
    rw [bs]
    generalize hL:([(⟨#[45,62]⟩:ByteArray),(⟨#[60,61]⟩:ByteArray),(⟨#[62,61]⟩:ByteArray),(⟨#[61,61]⟩:ByteArray),(⟨#[33,61]⟩:ByteArray),(⟨#[123]⟩:ByteArray),(⟨#[125]⟩:ByteArray),(⟨#[40]⟩:ByteArray),(⟨#[41]⟩:ByteArray),(⟨#[91]⟩:ByteArray),(⟨#[93]⟩:ByteArray),(⟨#[44]⟩:ByteArray),(⟨#[59]⟩:ByteArray),(⟨#[58]⟩:ByteArray),(⟨#[61]⟩:ByteArray),(⟨#[43]⟩:ByteArray),(⟨#[45]⟩:ByteArray),(⟨#[42]⟩:ByteArray),(⟨#[60]⟩:ByteArray),(⟨#[62]⟩:ByteArray),(⟨#[33]⟩:ByteArray),(⟨#[38]⟩:ByteArray),(⟨#[124]⟩:ByteArray),(⟨#[46]⟩:ByteArray),(⟨#[63]⟩:ByteArray)]:List ByteArray)=L
    have hsz:∀ x∈L,x.size<=2:=by subst hL; decide
    rcases Sp (f:=(fun (i0:Int) (s0:FD)=>
      (AH L i0).bind fun x75=>
      (if (decide ((A3 (0+(x75.size:Int)))<=(s.size:Int)))=true then ((AH L i0).bind fun x88=>
      (sslc s 0 (A3 (0+(x88.size:Int)))).bind fun x92=>
      (AH L i0).bind fun x95=>
      some (x92==x95)) else some false).bind fun x98=>
      if x98=true then
      (AH L i0).bind fun x101=>
      (AH L i0).bind fun x106=>
      some (CD.ret (FD.mk 4 x101 0,(x106.size:Int),(0:Int)))
      else
      some (CD.next s0))) (fun _ s=>True) (fun _=>True) (fun r=>r.1.Kind=4) (a:=0) (b:=L.length) (s:=FD.mk 0 (⟨#[]⟩:ByteArray) 0) (by omega) trivial (fun i t h1 h2 _=>by
      have hx:=hsz _ (AT h1 h2)
      have hw2:A3 (0+((AA L i).size:Int))=(AA L i).size:=by rw [BF (by omega) (by omega)]; omega
      simp only [AG h1 h2,bs,hw2]
      by_cases hc:((AA L i).size:Int)<=s.size
      ·rw [if_pos (by simpa using hc),Kx (by omega) (by omega) hc]
       simp only [bs]
       split
       ·exact .inr (.inr ⟨_,rfl,rfl⟩)
       ·exact .inl ⟨_,rfl,trivial⟩
      ·rw [if_neg (by simpa using hc)]
       simp only [bs]
       exact .inl ⟨_,rfl,trivial⟩) with ⟨s',h1,_⟩ | ⟨r,h1,h2⟩
    ·rw [h1]; exact ⟨_,_,_,rfl,by simp⟩
    ·rw [h1]; exact ⟨_,_,_,rfl,by simp [h2]⟩
theorem Om {s:ByteArray} (hs:(s.size:Int)<=4611686018427387904):Gv s=some (F2 s):=by
 unfold Gv Lt MZ
 simp only [show decide ((1:Int)=3)=false from rfl,Bool.false_eq_true,if_false,bs]
 by_cases he:s=⟨#[]⟩
 ·subst he; rfl
 ·rw [if_neg (by simpa using he)]
  obtain ⟨t,n,e,h1,h2⟩:=jM (TU he) hs
  rw [h1]
  simp only [bs]
  rw [h2]
end Go.Sf.Sc
namespace Go.Sf
variable {ρ β:Type}
def nz (e:Int):Option Int:=if e=0 then none else some e
theorem OF (e:Int):(if (!decide (e=0))=true then some (CD.ret e) else some (CD.next ()))=some (NW (nz e)):=by
 unfold nz
 by_cases h:e=0 <;> simp [h,NW]
theorem ba (b:Bool) (r:ρ):(if b=true then some (CD.ret r) else some (CD.next ()))=some (NW (if b=true then some r else none)):=by
 cases b <;> rfl
theorem DQ {σ:Type} {s:σ} {k:σ->Option β} {kr:ρ->Option β}:thenR (some (.inl s)) k kr=k s:=rfl
theorem R5 {σ:Type} {r:ρ} {k:σ->Option β} {kr:ρ->Option β}:thenR (some (.inr r)) k kr=kr r:=rfl
theorem E3 (o:Option ρ) (k:Unit->Option β) (kr:ρ->Option β):thenR (some (Yu o)) k kr=match o with | none=>k () | some r=>kr r:=by
 cases o <;> rfl
theorem F9 (o:Option Int):thenR (some (Yu o)) (fun _=>some 0) (fun v=>some v)=some (o.getD 0):=by
 cases o <;> rfl
theorem Sr {c:Int->Int} {a b:Int} (h:(fst (fun i=>nz (c i)) a b).getD 0=0):∀ i,a<=i->i<b->c i=0:=by
 have:fst (fun i=>nz (c i)) a b=none:=by
  cases hf:fst (fun i=>nz (c i)) a b with
  | none=>rfl
  | some r=>
   rw [hf] at h
   simp only [Option.getD] at h
   subst h
   obtain ⟨i,_,_,h3,_⟩:=DF hf
   unfold nz at h3
   split at h3
   ·cases h3
   ·rename_i hn; simp at h3; exact (hn h3).elim
 rw [DK] at this
 intro i h1 h2
 have:=this i h1 h2
 unfold nz at this
 split at this
 ·assumption
 ·cases this
theorem Mh {e:Int}:nz e=none↔e=0:=by
 unfold nz
 by_cases h:e=0 <;> simp [h]
theorem Su {α:Type} [Inhabited α] {l:List α} {f:α->Option Bool} {p:α->Bool} (h:∀ x∈l,f x=some (p x)) :
  (thenR (forR (ρ:=Int) (fun (i0:Int) (_:Unit)=>(AH l i0).bind fun x14=>(f x14).bind fun x16=>if x16=true then some (.ret i0) else some (.next ())) 0 (l.length:Int) ()) (fun _=>some (-1)) (fun v0=>some v0)) =
   some ((fst (fun i=>if p (AA l i)=true then some i else none) 0 l.length).getD (-1)):=by
 rw [CF (fun i=>if p (AA l i)=true then some i else none)]
 ·rw [E3]; cases fst (fun i=>if p (AA l i)=true then some i else none) 0 l.length <;> rfl
 ·intro i h1 h2 _
  rw [AG h1 h2,bs,h _ (AT h1 h2),bs,ba]
theorem Rj {α:Type} [Inhabited α] {l:List α} {p:α->Bool}:decide (0<=(fst (fun i=>if p (AA l i)=true then some i else none) 0 l.length).getD (-1))=l.any p:=by
 rw [KB,anyR]
 cases h:fst (fun i=>if p (AA l i)=true then some i else none) 0 l.length with
 | none=>
  rw [DK] at h
  symm
  show Option.isSome _=false
  rw [Option.isSome_eq_false_iff,Option.isNone_iff_eq_none,DK]
  intro i h1 h2
  have:=h i h1 h2
  by_cases hp:p (AA l i)=true
  ·rw [if_pos hp] at this; cases this
  ·rw [if_neg hp]
 | some k=>
  obtain ⟨i,h1,h2,h3,_⟩:=DF h
  have h4:p (AA l i)=true∧i=k:=by
   by_cases hv:p (AA l i)=true
   ·rw [if_pos hv] at h3; exact ⟨hv,by simpa using h3⟩
   ·rw [if_neg hv] at h3; cases h3
  simp only [Option.getD]
  rw [decide_eq_true (show (0:Int)<=k by omega)]
  symm
  show Option.isSome _=true
  rw [Option.isSome_iff_ne_none,ne_eq,DK]
  intro hn
  have:=hn i h1 h2
  rw [if_pos h4.1] at this
  cases this
theorem FR {α:Type} [Inhabited α] {l:List α} {f:α->Option Bool} {p:α->Bool} (h:∀ x∈l,f x=some (p x)) :
  ((thenR (forR (ρ:=Int) (fun (i0:Int) (_:Unit)=>(AH l i0).bind fun x14=>(f x14).bind fun x16=>if x16=true then some (.ret i0) else some (.next ())) 0 (l.length:Int) ()) (fun _=>some (-1)) (fun v0=>some v0)).bind fun x7=>some (decide (0<=x7)))=some (l.any p):=by
 rw [Su h,bs,Rj]
end Go.Sf
namespace Go.Sf.Sc
open Go Go.Sf
instance:Inhabited Attr:=⟨⟨⟨#[]⟩,0,0,[]⟩⟩
instance:Inhabited CC:=⟨⟨⟨#[]⟩,0,false,[]⟩⟩
instance:Inhabited CL:=⟨⟨⟨#[]⟩,0,0,0,0,0,0⟩⟩
instance:Inhabited CS:=⟨⟨0,0,0⟩⟩
instance:Inhabited DH:=⟨⟨0,0,⟨0,0⟩⟩⟩
instance:Inhabited Test:=⟨⟨0,⟨0,0⟩,⟨0,0⟩⟩⟩
instance:Inhabited AB:=⟨⟨0,[],⟨[],[]⟩,⟨⟨[],[]⟩,[],0,[]⟩⟩⟩
theorem SX {l:List Int} {f:Int->Option Bool} {p:Int->Bool} (h:∀ x∈l,f x=some (p x)):BG l f=some (l.any p):=FR h
theorem UG {l:List CS} {f:CS->Option Bool} {p:CS->Bool} (h:∀ x∈l,f x=some (p x)):BT l f=some (l.any p):=FR h
theorem SW {l:List AB} {f:AB->Option Bool} {p:AB->Bool} (h:∀ x∈l,f x=some (p x)):BZ l f=some (l.any p):=FR h
theorem Tm {l:List CC} {p:CC->Bool}:CH l (fun x=>some (p x))=some (l.any p):=FR (fun _ _=>rfl)
theorem Tl {l:List CL} {p:CL->Bool}:CG l (fun x=>some (p x))=some (l.any p):=FR (fun _ _=>rfl)
theorem Zf {l:List Attr} {p:Attr->Bool}:C5 l (fun x=>some (p x))=some (l.any p):=FR (fun _ _=>rfl)
theorem V2 {l:List Int} {p:Int->Bool}:BG l (fun x=>some (p x))=some (l.any p):=FR (fun _ _=>rfl)
theorem Zg {l:List CS} {p:CS->Bool}:BT l (fun x=>some (p x))=some (l.any p):=FR (fun _ _=>rfl)
theorem Zh {l:List DH} {p:DH->Bool}:C6 l (fun x=>some (p x))=some (l.any p):=FR (fun _ _=>rfl)
theorem bm (l:List Int) (v:Int):Hp l v=some ((fst (fun i=>if decide (v=AA l i)=true then some i else none) 0 l.length).getD (-1)):=by
 have:=Su (l:=l) (f:=fun x=>some (decide (v=x))) (p:=fun x=>decide (v=x)) (fun _ _=>rfl)
 unfold Hp
 simpa only [bs] using this
theorem Sb (l:List Int) (v:Int):C9 l v=some (l.any fun x=>decide (v=x)):=by
 unfold C9
 rw [bm,bs,Rj (p:=fun x=>decide (v=x))]
theorem Zk (l:List Bool) (v:Bool):F8 l v=some (l.any fun x=>v==x):=by
 have:=FR (l:=l) (f:=fun x=>some (v==x)) (p:=fun x=>v==x) (fun _ _=>rfl)
 unfold F8 IW
 simpa only [bs] using this
structure P6 (a:Attr):Prop where
 name:(a.Name.size:Int)<=40
 names:a.Names.length<=25
 each:∀ x∈a.Names,(x.size:Int)<=40
structure BU (t:AD):Prop where
 nodes:t.Nodes.length<=20
 edges:t.Edges.length<=30
 name:∀ n∈t.Nodes,(n.Name.size:Int)<=40
 attrs:∀ n∈t.Nodes,n.Attrs.length<=30
 each:∀ n∈t.Nodes,∀ a∈n.Attrs,P6 a
 ename:∀ e∈t.Edges,(e.Name.size:Int)<=40
def par (t:AD) (i:Int):Int:=(AA t.Nodes i).Parent
def FX (t:AD) (k:Int):Prop:=∀ i,0<=i->i<k->-1<=par t i∧par t i<i
def CB (t:AD):Nat->Int->List Attr
 | 0,_=>[]
 | n+1,a=>if a<0 then [] else CB t n (par t a)++(AA t.Nodes a).Attrs
def A8 (t:AD) (a:Int):List Attr:=CB t (a+1).toNat a
theorem H3 {t:AD} {n:Nat} {a:Int} (h:a<0):CB t n a=[]:=by
 cases n with
 | zero=>rfl
 | succ n=>rw [CB,if_pos h]
theorem Kl {t:AD} {k:Int} (hp:FX t k):∀ (n m:Nat) (a:Int),a<k->a<n->a<m->CB t n a=CB t m a
 | n,m,a,hk,hn,hm=>by
  by_cases h0:a<0
  ·rw [H3 h0,H3 h0]
  ·cases n with
   | zero=>omega
   | succ n=>
    cases m with
    | zero=>omega
    | succ m=>
     rw [CB,CB,if_neg h0,if_neg h0]
     have:=hp a (by omega) hk
     rw [Kl hp n m (par t a) (by omega) (by omega) (by omega)]
theorem K3 {t:AD} (hf:BU t) {k:Int} (hk:k<=t.Nodes.length) (hp:FX t k):∀ (n:Nat) (a:Int),a<k->((CB t n a).length:Int)<=30*n
 | 0,_,_=>by simp [CB]
 | n+1,a,ha=>by
  rw [CB]
  split
  ·simp; omega
  ·rename_i h0
   have h1:=hp a (by omega) ha
   have h2:=K3 hf hk hp n (par t a) (by omega)
   have h3:=hf.attrs _ (AT (l:=t.Nodes) (show 0<=a by omega) (by omega))
   rw [List.length_append]
   omega
theorem QU {t:AD} (hf:BU t) {k:Int} (hk:k<=t.Nodes.length) (hp:FX t k):∀ (n:Nat) (a:Int),a<k->∀ x∈CB t n a,P6 x
 | 0,_,_=>by simp [CB]
 | n+1,a,ha=>by
  rw [CB]
  split
  ·simp
  ·rename_i h0
   have h1:=hp a (by omega) ha
   intro x hx
   rcases List.mem_append.1 hx with hx | hx
   ·exact QU hf hk hp n (par t a) (by omega) x hx
   ·exact hf.each _ (AT (l:=t.Nodes) (show 0<=a by omega) (by omega)) x hx
theorem K5 {t:AD} (hf:BU t) {k a:Int} (hk:k<=t.Nodes.length) (hp:FX t k) (ha:a<k):(A8 t a).length<=600:=by
 have:=K3 hf hk hp (a+1).toNat a ha
 have:=hf.nodes
 unfold A8
 omega
theorem K4 {t:AD} (hf:BU t) {k a:Int} (hk:k<=t.Nodes.length) (hp:FX t k) (ha:a<k):∀ x∈A8 t a,P6 x:=QU hf hk hp _ a ha
theorem S9 {t:AD} (hf:BU t) {k:Int} (hk:k<=t.Nodes.length) (hp:FX t k):∀ (n:Nat) (a:Int),0<=a->a<k->a<n->DU n t a=some (CB t n a)
 | 0,_,_,_,_=>by omega
 | n+1,a,h0,ha,hn=>by
  have h1:=hp a (by omega) ha
  have h2:=K3 hf hk hp n (par t a) (by omega)
  have h3:=hf.attrs _ (AT (l:=t.Nodes) h0 (by omega))
  have h4:=hf.nodes
  rw [DU,CB,if_neg (by omega),AG h0 (by omega)]
  simp only [bs]
  show ((if decide (0<=par t a)=true then (DU n t (par t a)).bind fun x17=>some x17 else some []).bind _)=_
  have e:(if decide (0<=par t a)=true then (DU n t (par t a)).bind fun x17=>some x17 else some [])=some (CB t n (par t a)):=by
   by_cases hq:0<=par t a
   ·rw [if_pos (by simpa using hq),S9 hf hk hp n (par t a) hq (by omega) (by omega)]; rfl
   ·rw [if_neg (by simpa using hq),H3 (by omega)]
  have hb:(CB t n (par t a)).length+(AA t.Nodes a).Attrs.length<=BY:=by
   unfold BY
   have:((CB t n (par t a)).length:Int)<=30*n:=h2
   have h5:CB t n (par t a)=CB t 20 (par t a):=by
    by_cases hneg:par t a<0
    ·rw [H3 hneg,H3 hneg]
    ·exact Kl hp n 20 (par t a) (by omega) (by omega) (by omega)
   have h6:=K3 hf hk hp 20 (par t a) (by omega)
   rw [←h5] at h6
   omega
  rw [e,bs,DB hb]
  rfl
theorem UZ {t:AD} (hf:BU t) {k:Int} (hk:k<=t.Nodes.length) (hp:FX t k) {a:Int} (h0:0<=a) (ha:a<k):JU t a=some (A8 t a):=
 F4 (a+1).toNat fun n hn=>by
  rw [S9 hf hk hp n a h0 ha (by omega),A8,Kl hp n (a+1).toNat a ha (by omega) (by omega)]
theorem TG {t:AD} (hf:BU t) {k:Int} (hk:k<=t.Nodes.length) (hp:FX t k):∀ (n:Nat) (a:Int),-1<=a->a<k->a+1<n->Gw n t a=some (CB t n a)
 | 0,_,_,_,_=>by omega
 | n+1,a,h0,ha,hn=>by
  rw [Gw,CB]
  by_cases hneg:a<0
  ·rw [if_pos (by simpa using hneg),if_pos hneg]
  ·have h1:=hp a (by omega) ha
   have h3:=hf.attrs _ (AT (l:=t.Nodes) (show 0<=a by omega) (by omega))
   have h4:=hf.nodes
   rw [if_neg (by simpa using hneg),if_neg hneg,AG (by omega) (by omega)]
   simp only [bs]
   have h5:CB t n (par t a)=CB t 20 (par t a):=by
    by_cases hneg:par t a<0
    ·rw [H3 hneg,H3 hneg]
    ·exact Kl hp n 20 (par t a) (by omega) (by omega) (by omega)
   have h6:=K3 hf hk hp 20 (par t a) (by omega)
   rw [←h5] at h6
   have hb:(CB t n (par t a)).length+(AA t.Nodes a).Attrs.length<=BY:=by unfold BY; omega
   rw [show (AA t.Nodes a).Parent=par t a from rfl,TG hf hk hp n (par t a) (by omega) (by omega) (by omega),bs,DB (by simp; unfold BY; omega)]
   simp only [bs,List.nil_append]
   rw [DB hb]; rfl
theorem Ue {t:AD} (hf:BU t) {k:Int} (hk:k<=t.Nodes.length) (hp:FX t k) {a:Int} (h0:0<=a) (ha:a<k):Lv t a=some (A8 t a):=
 F4 (a+2).toNat fun n hn=>by
  rw [TG hf hk hp n a (by omega) ha (by omega),A8,Kl hp n (a+1).toNat a ha (by omega) (by omega)]
end Go.Sf.Sc
namespace Go.Sf.Sc
open Go Go.Sf
def Ii (l:List ByteArray):Int:=
 if (20:Int)<l.length then 3 else (fst (fun i=>if F2 (AA l i)=false then some 2 else if anyR (fun j=>AA l j==AA l i) 0 i=true then some 5 else none) 0 l.length).getD 0
theorem Sa {l:List ByteArray} {x:ByteArray} {b:Int} (h0:0<=b) (h1:b<=l.length):(l.take b.toNat).contains x=anyR (fun j=>AA l j==x) 0 b:=by
 rw [List.contains_eq_any_beq,OP h0 h1]
 exact QS (fun i _ _=>by rw [Bool.beq_comm])
theorem Z7 {l:List ByteArray} (hl:∀ x∈l,(x.size:Int)<=40):HV l=some (Ii l):=by
 unfold HV Ii
 by_cases h20:(20:Int)<l.length
 ·rw [if_pos (by simpa using h20),if_pos h20]
 ·rw [if_neg (by simpa using h20),if_neg h20]
  rw [CF (fun i=>if F2 (AA l i)=false then some 2 else if anyR (fun j=>AA l j==AA l i) 0 i=true then some 5 else none),F9]
  intro i h1 h2 _
  have hx:=hl _ (AT h1 h2)
  rw [AG h1 h2,bs,Ok (by omega),bs,Lj h1 (by omega)]
  simp only [bs,MS,Sa h1 (show i<=l.length by omega)]
  cases F2 (AA l i) <;> cases anyR (fun j=>AA l j==AA l i) 0 i <;> rfl
theorem aH {l:List ByteArray} (hl:∀ x∈l,(x.size:Int)<=40):KJ l=some (Ii l):=by
 unfold KJ Ii
 by_cases h20:(20:Int)<l.length
 ·rw [if_pos (by simpa using h20),if_pos h20]
 ·rw [if_neg (by simpa using h20),if_neg h20]
  rw [CF (fun i=>if F2 (AA l i)=false then some 2 else if anyR (fun j=>AA l j==AA l i) 0 i=true then some 5 else none),F9]
  intro i h1 h2 _
  have hx:=hl _ (AT h1 h2)
  rw [AG h1 h2,bs,Om (by omega),bs,B8 (fun j=>AA l j==AA l i) 5]
  ·cases F2 (AA l i) <;> cases anyR (fun j=>AA l j==AA l i) 0 i <;> rfl
  ·intro j k1 k2 _
   rw [AG k1 (by omega),bs,bs]
   split <;> rfl
def K1 (all:List Attr) (k:Int):Int:=
 let x:=AA all k
 if F2 x.Name=false then 2 else if anyR (fun j=>(AA all j).Name==x.Name) 0 k=true then 5 else
 if x.Names.length=0 then (if -1000000<=x.Low∧x.Low<=x.High∧x.High<=1000000 then 0 else 6) else
 if Ii x.Names≠0 then Ii x.Names else if x.Low=0∧x.High=x.Names.length - 1 then 0 else 6
theorem Tz {all:List Attr} (hl:∀ x∈all,P6 x) {k:Int} (h0:0<=k) (h1:k<all.length):E4 (AA all k) (all.take k.toNat)=some (K1 all k):=by
 have hx:=hl _ (AT h0 h1)
 have hn:=hx.name
 unfold E4 K1
 dsimp only
 rw [Ok (by omega),bs,show (fun y0=>IX y0 (AA all k))=(fun y0=>some (y0.Name==(AA all k).Name)) from rfl,Zf,bs,OP h0 (by omega),Z7 hx.each,bs]
 have hl2:=hx.names
 have hw:A3 ((AA all k).Names.length - 1)=(AA all k).Names.length - 1:=BF (by omega) (by omega)
 rw [hw]
 have hz:(AA all k).Names.length=0->Ii (AA all k).Names=0:=fun h=>by rw [List.eq_nil_of_length_eq_zero h]; rfl
 generalize Ii (AA all k).Names=e at hz ⊢
 simp only [bs,decide_eq_true_eq,Bool.or_eq_true,Bool.and_eq_true,Bool.not_eq_true',decide_eq_false_iff_not,Bool.not_eq_false',Bool.or_eq_false_iff,Bool.and_eq_false_iff,ne_eq]
 repeat' (first | rfl | (exfalso; omega; done) | split)
 all_goals (first | rfl | (exfalso; omega) | omega | simp_all | (simp_all; omega))
theorem T3 {x:Attr} (hx:P6 x):IC x=some (
 if x.Names.length=0 then (if -1000000<=x.Low∧x.Low<=x.High∧x.High<=1000000 then 0 else 6) else
 if Ii x.Names≠0 then Ii x.Names else if x.Low=0∧x.High=x.Names.length - 1 then 0 else 6):=by
 have hl2:=hx.names
 have hw:A3 (x.Names.length - 1)=x.Names.length - 1:=BF (by omega) (by omega)
 unfold IC D6
 simp only [bs,hw,aH hx.each]
 generalize Ii x.Names=e
 simp only [bs,decide_eq_true_eq,Bool.or_eq_true,Bool.and_eq_true,Bool.not_eq_true',decide_eq_false_iff_not,Bool.not_eq_false',Bool.or_eq_false_iff,Bool.and_eq_false_iff,ne_eq]
 repeat' (first | rfl | (exfalso; omega; done) | split)
 all_goals (first | rfl | (exfalso; omega) | omega | simp_all | (simp_all; omega))
def Hr (t:AD) (i:Int):Int:=
 let n:=AA t.Nodes i
 if F2 n.Name=false then 2 else if anyR (fun j=>(AA t.Nodes j).Name==n.Name) 0 i=true then 5 else
 if n.Parent < -1∨i<=n.Parent then 6 else if 4<n.Attrs.length∨8<(A8 t i).length then 3 else
 (fst (fun k=>nz (K1 (A8 t i) k)) ((A8 t i).length - n.Attrs.length) (A8 t i).length).getD 0
theorem QX {t:AD} {i:Int} (h0:0<=i):(AA t.Nodes i).Attrs.length<=(A8 t i).length:=by
 unfold A8
 rw [show (i+1).toNat=i.toNat+1 by omega,CB,if_neg (by omega),List.length_append]
 omega
theorem FX.next {t:AD} {i:Int} (h:FX t i) (h1:-1<=par t i) (h2:par t i<i):FX t (i+1):=by
 intro j k1 k2
 by_cases hj:j=i
 ·subst hj; exact ⟨h1,h2⟩
 ·exact h j k1 (by omega)
theorem cM {t:AD} (hf:BU t) {i:Int} (h0:0<=i) (h1:i<t.Nodes.length) (hp:FX t i):IJ t i=some (Hr t i):=by
 have hn:=hf.name _ (AT h0 h1)
 unfold IJ Hr
 dsimp only
 rw [AG h0 h1,bs,Ok (by omega),bs,Lj h0 (by omega),bs,show (fun y0=>LT y0 (AA t.Nodes i))=(fun y0=>some (y0.Name==(AA t.Nodes i).Name)) from rfl,Tm,bs,OP h0 (by omega)]
 cases F2 (AA t.Nodes i).Name
 ·rfl
 ·cases anyR (fun j=>(AA t.Nodes j).Name==(AA t.Nodes i).Name) 0 i
  ·by_cases hr:(AA t.Nodes i).Parent < -1∨i<=(AA t.Nodes i).Parent
   ·rcases hr with hr | hr <;> simp [hr]
   ·have hp':FX t (i+1):=hp.next (by unfold par; omega) (by unfold par; omega)
    have hr2:(decide ((AA t.Nodes i).Parent < -1)||decide (i<=(AA t.Nodes i).Parent))=false:=by
     rw [Bool.eq_false_iff]; simpa using hr
    rw [UZ hf (k:=i+1) (by omega) hp' h0 (by omega),bs]
    have hlen:=K5 hf (k:=i+1) (a:=i) (by omega) hp' (by omega)
    have hsub:=QX (t:=t) h0
    have hfew:=K4 hf (k:=i+1) (a:=i) (by omega) hp' (by omega)
    rw [BF (by omega) (by omega),CF (fun k=>nz (K1 (A8 t i) k)),F9]
    ·simp only [hr2,hr,Bool.not_true,Bool.false_eq_true,if_false]
     simp only [bs,decide_eq_true_eq,Bool.or_eq_true,Bool.and_eq_true,Bool.not_eq_true',decide_eq_false_iff_not,Bool.not_eq_false',Bool.or_eq_false_iff,Bool.and_eq_false_iff,ne_eq]
     repeat' (first | rfl | (exfalso; omega; done) | split)
     all_goals (first | rfl | (exfalso; omega) | omega | simp_all | (simp_all; omega))
    ·intro k k1 k2 _
     rw [AG (by omega) k2,bs,Lj (by omega) (by omega),bs,Tz hfew (by omega) k2,bs,OF]
  ·rfl
theorem cY {t:AD} (hf:BU t) {i:Int} (h0:0<=i) (h1:i<t.Nodes.length) (hp:FX t i):LJ t i=some (Hr t i):=by
 have hn:=hf.name _ (AT h0 h1)
 have hl:=hf.nodes
 unfold LJ Hr D6
 dsimp only
 rw [AG h0 h1,bs,Om (by omega),bs,B8 (fun j=>(AA t.Nodes j).Name==(AA t.Nodes i).Name) 5]
 ·cases F2 (AA t.Nodes i).Name
  ·rfl
  ·cases anyR (fun j=>(AA t.Nodes j).Name==(AA t.Nodes i).Name) 0 i
   ·simp only [Bool.not_true,Bool.false_eq_true,if_false,DQ,bs]
    rw [BF (by omega) (by omega)]
    by_cases hr:(AA t.Nodes i).Parent < -1∨i<=(AA t.Nodes i).Parent
    ·rw [if_pos,if_neg (by decide),if_pos hr]
     simp; omega
    ·have hp':FX t (i+1):=hp.next (by unfold par; omega) (by unfold par; omega)
     rw [if_neg (by simp; omega),if_neg (by decide),if_neg hr]
     rw [Ue hf (k:=i+1) (by omega) hp' h0 (by omega),bs]
     have hlen:=K5 hf (k:=i+1) (a:=i) (by omega) hp' (by omega)
     have hsub:=QX (t:=t) h0
     have hfew:=K4 hf (k:=i+1) (a:=i) (by omega) hp' (by omega)
     rw [BF (by omega) (by omega)]
     rw [CF (fun k=>nz (K1 (A8 t i) k)),F9]
     ·simp only [bs,decide_eq_true_eq,Bool.or_eq_true,Bool.and_eq_true,Bool.not_eq_true',decide_eq_false_iff_not,Bool.not_eq_false',Bool.or_eq_false_iff,Bool.and_eq_false_iff,ne_eq]
      repeat' (first | rfl | (exfalso; omega; done) | split)
      all_goals (first | rfl | (exfalso; omega) | omega | simp_all | (simp_all; omega))
     ·intro k k1 k2 _
      have hx:=hfew _ (AT (show 0<=k by omega) k2)
      have hxn:=hx.name
      simp only [AG (show 0<=k by omega) k2,bs]
      rw [Om (by omega),bs,B8 (fun j=>(AA (A8 t i) j).Name==(AA (A8 t i) k).Name) 5]
      ·rw [T3 hx]
       simp only [bs,OF]
       unfold K1
       dsimp only
       cases F2 (AA (A8 t i) k).Name
       ·rfl
       ·cases anyR (fun j=>(AA (A8 t i) j).Name==(AA (A8 t i) k).Name) 0 k <;> rfl
      ·intro j j1 j2 _
       rw [AG j1 (by omega),bs]
       split <;> rfl
   ·rfl
 ·intro j k1 k2 _
  rw [AG k1 (by omega),bs]
  split <;> rfl
def K6 (low high:Int):Bool:=((decide (0<=low))&&(decide (low<=40)))&&((decide (high=(-1)))||((decide (low<=high))&&(decide (high<=40))))
theorem aE (low high:Int):JN low high=some (K6 low high):=by
 unfold JN K6 D6
 simp only [bs]
 cases (decide (0<=low)&&decide (low<=40)) <;> cases decide (high=-1) <;> rfl
def IV (t:AD) (i:Int):Int:=
 let x:=AA t.Edges i
 if F2 x.Name=false then 2 else if anyR (fun j=>(AA t.Edges j).Name==x.Name) 0 i=true then 5 else
 if (0<=x.From∧x.From<t.Nodes.length)∧(0<=x.To∧x.To<t.Nodes.length)∧K6 x.OutLow x.OutHigh=true∧K6 x.InLow x.InHigh=true then 0 else 6
theorem cH {t:AD} (hf:BU t) {i:Int} (h0:0<=i) (h1:i<t.Edges.length):II t i=some (IV t i):=by
 have hn:=hf.ename _ (AT h0 h1)
 unfold II IV Jr
 dsimp only
 rw [AG h0 h1,bs,Ok (by omega),bs,Lj h0 (by omega),bs,show (fun y0=>LS y0 (AA t.Edges i))=(fun y0=>some (y0.Name==(AA t.Edges i).Name)) from rfl,Tl,bs,OP h0 (by omega)]
 simp only [show ∀ a b,JH a b=some (K6 a b) from fun _ _=>rfl,bs]
 generalize F2 (AA t.Edges i).Name=b1
 generalize anyR (fun j=>(AA t.Edges j).Name==(AA t.Edges i).Name) 0 i=b2
 generalize K6 (AA t.Edges i).OutLow (AA t.Edges i).OutHigh=b3
 generalize K6 (AA t.Edges i).InLow (AA t.Edges i).InHigh=b4
 cases b1
 ·rfl
 ·cases b2
  ·cases b3 <;> cases b4
   all_goals
    by_cases ha:0<=(AA t.Edges i).From∧(AA t.Edges i).From<t.Nodes.length
    ·by_cases hb:0<=(AA t.Edges i).To∧(AA t.Edges i).To<t.Nodes.length
     ·simp [ha,hb]
     ·have:(decide (0<=(AA t.Edges i).To)&&decide ((AA t.Edges i).To<t.Nodes.length))=false:=by rw [Bool.eq_false_iff]; simpa using hb
      simp [ha,hb,this]
    ·have:(decide (0<=(AA t.Edges i).From)&&decide ((AA t.Edges i).From<t.Nodes.length))=false:=by rw [Bool.eq_false_iff]; simpa using ha
     simp [ha,this]
  ·rfl
theorem cU {t:AD} (hf:BU t) {i:Int} (h0:0<=i) (h1:i<t.Edges.length):LI t i=some (IV t i):=by
 have hn:=hf.ename _ (AT h0 h1)
 have hl:=hf.nodes
 unfold LI IV D6
 dsimp only
 rw [AG h0 h1,bs,Om (by omega),bs,B8 (fun j=>(AA t.Edges j).Name==(AA t.Edges i).Name) 5]
 ·simp only [BF (show -9223372036854775808<=(t.Nodes.length:Int) - 1 by omega) (by omega),aE,bs]
  generalize F2 (AA t.Edges i).Name=b1
  generalize anyR (fun j=>(AA t.Edges j).Name==(AA t.Edges i).Name) 0 i=b2
  generalize K6 (AA t.Edges i).OutLow (AA t.Edges i).OutHigh=b3
  generalize K6 (AA t.Edges i).InLow (AA t.Edges i).InHigh=b4
  cases b1
  ·rfl
  ·cases b2
   ·cases b3 <;> cases b4
    all_goals
     by_cases ha:0<=(AA t.Edges i).From∧(AA t.Edges i).From<t.Nodes.length
     ·have ha':(AA t.Edges i).From<=(t.Nodes.length:Int) - 1:=by omega
      by_cases hb:0<=(AA t.Edges i).To∧(AA t.Edges i).To<t.Nodes.length
      ·have hb':(AA t.Edges i).To<=(t.Nodes.length:Int) - 1:=by omega
       simp [ha,hb,ha',hb',DQ]
      ·have:(decide (0<=(AA t.Edges i).To)&&decide ((AA t.Edges i).To<=(t.Nodes.length:Int) - 1))=false:=by rw [Bool.eq_false_iff]; simp; omega
       simp [ha,hb,ha',this,DQ]
     ·have:(decide (0<=(AA t.Edges i).From)&&decide ((AA t.Edges i).From<=(t.Nodes.length:Int) - 1))=false:=by rw [Bool.eq_false_iff]; simp; omega
      simp [ha,this,DQ]
   ·rfl
 ·intro j k1 k2 _
  rw [AG k1 (by omega),bs]
  split <;> rfl
def BA (t:AD):ByteArray × Int:=
 if t.Nodes.length=0 then (⟨#[]⟩,7) else if 12<t.Nodes.length∨20<t.Edges.length then (⟨#[]⟩,3) else
 match fst (fun i=>(nz (Hr t i)).map fun e=>((AA t.Nodes i).Name,e)) 0 t.Nodes.length with
 | some r=>r
 | none=>(fst (fun i=>(nz (IV t i)).map fun e=>((AA t.Edges i).Name,e)) 0 t.Edges.length).getD (⟨#[]⟩,0)
theorem WI {t:AD} {i:Int} (h:Hr t i=0):-1<=par t i∧par t i<i:=by
 unfold Hr at h
 dsimp only at h
 unfold par
 by_cases hr:(AA t.Nodes i).Parent < -1∨i<=(AA t.Nodes i).Parent
 ·rw [if_pos hr] at h
  split at h
  ·cases h
  ·split at h <;> cases h
 ·omega
theorem Ld {α β:Type} {o:Option α} {g:α->β}:o.map g=none↔o=none:=by cases o <;> simp
theorem QF {t:AD} {i:Int} (h:∀ j,0<=j->j<i->Hr t j=0):FX t i:=fun j h1 h2=>WI (h j h1 h2)
theorem Pj {ρ:Type} (e:Int) (n:ByteArray):(if (!decide (e=0))=true then some (CD.ret (n,e)) else some (CD.next ()))=some (NW ((nz e).map fun e=>(n,e))):=by
 unfold nz
 by_cases h:e=0 <;> simp [h,NW]
theorem Pm {t:AD} (hf:BU t):FC t=some (BA t):=by
 unfold FC BA
 rw [CF (fun i=>(nz (Hr t i)).map fun e=>((AA t.Nodes i).Name,e)),E3]
 ·rw [CF (fun i=>(nz (IV t i)).map fun e=>((AA t.Edges i).Name,e)),E3]
  ·cases fst (fun i=>(nz (Hr t i)).map fun e=>((AA t.Nodes i).Name,e)) 0 t.Nodes.length <;> cases fst (fun i=>(nz (IV t i)).map fun e=>((AA t.Edges i).Name,e)) 0 t.Edges.length
   all_goals dsimp only
   all_goals try simp only [Option.getD]
   all_goals
    simp only [bs,decide_eq_true_eq,Bool.or_eq_true,Bool.and_eq_true,Bool.not_eq_true',decide_eq_false_iff_not,Bool.not_eq_false',Bool.or_eq_false_iff,Bool.and_eq_false_iff,ne_eq]
    repeat' (first | rfl | (exfalso; omega; done) | split)
    all_goals (first | rfl | (exfalso; omega) | omega | simp_all | (simp_all; omega))
  ·intro i h1 h2 _
   rw [AG h1 h2,bs,cH hf h1 h2,bs]
   exact Pj (ρ:=Unit) _ _
 ·intro i h1 h2 h3
  have hp:FX t i:=QF fun j k1 k2=>Mh.1 (Ld.1 (h3 j k1 k2))
  rw [AG h1 h2,bs,cM hf h1 h2 hp,bs]
  exact Pj (ρ:=Unit) _ _
theorem Po {t:AD} (hf:BU t):HP t=some (BA t):=by
 unfold HP BA
 rw [CF (fun i=>(nz (Hr t i)).map fun e=>((AA t.Nodes i).Name,e)),E3]
 ·rw [CF (fun i=>(nz (IV t i)).map fun e=>((AA t.Edges i).Name,e)),E3]
  ·cases fst (fun i=>(nz (Hr t i)).map fun e=>((AA t.Nodes i).Name,e)) 0 t.Nodes.length <;> cases fst (fun i=>(nz (IV t i)).map fun e=>((AA t.Edges i).Name,e)) 0 t.Edges.length
   all_goals dsimp only
   all_goals try simp only [Option.getD]
   all_goals
    simp only [bs,decide_eq_true_eq,Bool.or_eq_true,Bool.and_eq_true,Bool.not_eq_true',decide_eq_false_iff_not,Bool.not_eq_false',Bool.or_eq_false_iff,Bool.and_eq_false_iff,ne_eq]
    repeat' (first | rfl | (exfalso; omega; done) | split)
    all_goals (first | rfl | (exfalso; omega) | omega | simp_all | (simp_all; omega))
  ·intro i h1 h2 _
   simp only [cU hf h1 h2,AG h1 h2,bs]
   exact Pj (ρ:=Unit) _ _
 ·intro i h1 h2 h3
  have hp:FX t i:=QF fun j k1 k2=>Mh.1 (Ld.1 (h3 j k1 k2))
  simp only [cY hf h1 h2 hp,AG h1 h2,bs]
  exact Pj (ρ:=Unit) _ _
end Go.Sf.Sc
namespace Go.Sf.Sc
open Go Go.Sf
theorem Iz {α:Type} {c:Bool} {a b:α}:(if c=true then some a else some b)=some (if c=true then a else b):=by cases c <;> rfl
def Jv (n:Int):Bool:=(decide (0<=n))&&(decide (n<=99))
def OW (e:CS) (n:Int):Bool:=Jv e.Type'&&(decide (0<=e.From)&&decide (e.From<n))&&(decide (0<=e.To)&&decide (e.To<n))
def CU (g:Graph):Int:=
 if 40<g.Nodes.length∨80<g.Edges.length then 3 else if (g.Nodes.any fun n=>!Jv n)=true then 6 else if (g.Edges.any fun e=>!OW e g.Nodes.length)=true then 6 else 0
structure JJ (g:Graph):Prop where
 nodes:g.Nodes.length<=40
 edges:g.Edges.length<=80
 kind:∀ n∈g.Nodes,0<=n∧n<=99
 fit:∀ e∈g.Edges,(0<=e.Type'∧e.Type'<=99)∧(0<=e.From∧e.From<g.Nodes.length)∧(0<=e.To∧e.To<g.Nodes.length)
theorem E6 {g:Graph} (h:CU g=0):JJ g:=by
 unfold CU at h
 split at h
 ·cases h
 ·split at h
  ·cases h
  ·split at h
   ·cases h
   ·rename_i h1 h2 h3
    refine ⟨by omega,by omega,fun n hn=>?_,fun e he=>?_⟩
    ·rw [Bool.not_eq_true,List.any_eq_false] at h2
     have:=h2 n hn
     simp [Jv] at this
     exact this
    ·rw [Bool.not_eq_true,List.any_eq_false] at h3
     have:=h3 e he
     simp only [OW,Jv,Bool.not_eq_true',Bool.not_eq_false,Bool.and_eq_true,decide_eq_true_eq] at this
     omega
theorem cK {e:CS} {n:Nat} (h:n<=40):LC e n=some (OW e n):=by
 unfold LC Hg OW Jv
 simp only [bs,BF (show -9223372036854775808<=(n:Int) - 1 by omega) (by omega)]
 have e1:decide (e.From<=(n:Int) - 1)=decide (e.From<n):=by rw [decide_eq_decide]; omega
 have e2:decide (e.To<=(n:Int) - 1)=decide (e.To<n):=by rw [decide_eq_decide]; omega
 rw [e1,e2]
 generalize (decide (0<=e.Type')&&decide (e.Type'<=99))=b1
 generalize (decide (0<=e.From)&&decide (e.From<n))=b2
 cases b1 <;> cases b2 <;> simp
theorem Mi (g:Graph):D2 g=some (CU g):=by
 unfold D2 CU
 by_cases h:40<g.Nodes.length∨80<g.Edges.length
 ·rw [if_pos (by simp; omega),if_pos h]
 ·rw [if_neg (by simp; omega),if_neg h,show KY=(fun n=>some (!Jv n)) from rfl,V2,UG (p:=fun e=>!OW e g.Nodes.length) (fun e _=>by
   unfold KZ
   rw [cK (by omega)]; rfl)]
  simp only [bs]
  cases g.Nodes.any fun n=>!Jv n
  ·cases g.Edges.any fun e=>!OW e g.Nodes.length <;> rfl
  ·rfl
theorem Mk (g:Graph):FU g=some (CU g):=by
 unfold FU CU
 by_cases h:40<g.Nodes.length∨80<g.Edges.length
 ·rw [if_pos (by simp; omega),if_pos h]
 ·rw [if_neg (by simp; omega),if_neg h,KB,KB,B8 (fun i=>!Jv (AA g.Nodes i)) 6]
  ·rw [B8 (fun i=>!OW (AA g.Edges i) g.Nodes.length) 6]
   ·cases anyR (fun i=>!Jv (AA g.Nodes i)) 0 g.Nodes.length
    ·cases anyR (fun i=>!OW (AA g.Edges i) g.Nodes.length) 0 g.Edges.length <;> rfl
    ·rfl
   ·intro i h1 h2 _
    rw [AG h1 h2,bs]
    unfold Lw OW
    simp only [show ∀ n,Jx n=some (Jv n) from fun _=>rfl,bs]
    generalize Jv (AA g.Edges i).Type'=b1
    cases b1 <;> cases decide (0<=(AA g.Edges i).From) <;> cases decide ((AA g.Edges i).From<g.Nodes.length) <;> cases decide (0<=(AA g.Edges i).To) <;> cases decide ((AA g.Edges i).To<g.Nodes.length) <;> rfl
  ·intro i h1 h2 _
   rw [AG h1 h2,bs,show Jx (AA g.Nodes i)=some (Jv (AA g.Nodes i)) from rfl,bs]
   cases Jv (AA g.Nodes i) <;> rfl
def FB (t:AD) (g:Graph):Bool:=!(g.Nodes.any fun n=>decide (t.Nodes.length<=n))&&!(g.Edges.any fun e=>decide (t.Edges.length<=e.Type'))
theorem Lk {t:AD} {g:Graph} (hg:JJ g) (h:FB t g=true):(∀ n∈g.Nodes,0<=n∧n<t.Nodes.length)∧∀ e∈g.Edges,0<=e.Type'∧e.Type'<t.Edges.length:=by
 unfold FB at h
 simp only [Bool.and_eq_true,Bool.not_eq_true',List.any_eq_false,decide_eq_true_eq] at h
 refine ⟨fun n hn=>?_,fun e he=>?_⟩
 ·have:=h.1 n hn
  have:=hg.kind n hn
  omega
 ·have:=h.2 e he
  have:=hg.fit e he
  omega
theorem RI {t:AD} {g:Graph} (hg:JJ g):IM t g=some (FB t g):=by
 unfold IM FB
 rw [KB,KB,B8 (fun i=>decide (t.Nodes.length<=AA g.Nodes i)) false]
 ·rw [B8 (fun i=>decide (t.Edges.length<=(AA g.Edges i).Type')) false]
  ·cases anyR (fun i=>decide (t.Nodes.length<=AA g.Nodes i)) 0 g.Nodes.length
   ·cases anyR (fun i=>decide (t.Edges.length<=(AA g.Edges i).Type')) 0 g.Edges.length <;> rfl
   ·rfl
  ·intro i h1 h2 _
   have:=(hg.fit _ (AT h1 h2)).1.1
   simp only [AG h1 h2,bs]
   rw [if_neg (by simp; omega),bs,Iz]
 ·intro i h1 h2 _
  have:=(hg.kind _ (AT h1 h2)).1
  simp only [AG h1 h2,bs]
  rw [if_neg (by simp; omega),bs,Iz]
structure G0 (t:AD):Prop where
 nodes:t.Nodes.length<=12
 edges:t.Edges.length<=20
 node:∀ i:Int,0<=i->i<t.Nodes.length->Hr t i=0
 edge:∀ i:Int,0<=i->i<t.Edges.length->IV t i=0
theorem GB {t:AD} (h:(BA t).2=0):G0 t:=by
 unfold BA at h
 split at h
 ·cases h
 ·split at h
  ·cases h
  ·rename_i h1 h2
   have hn:∀ i:Int,0<=i->i<t.Nodes.length->Hr t i=0:=by
    split at h
    ·rename_i r hr
     obtain ⟨i,_,_,k3,_⟩:=DF hr
     unfold nz at k3
     split at k3
     ·cases k3
     ·rename_i hne
      cases k3; exact absurd h hne
    ·rename_i hr
     intro i k1 k2
     exact Mh.1 (Ld.1 (DK.1 hr i k1 k2))
   have he:∀ i:Int,0<=i->i<t.Edges.length->IV t i=0:=by
    split at h
    ·rename_i r hr
     obtain ⟨i,k1,k2,k3,_⟩:=DF hr
     rw [hn i k1 k2] at k3
     cases k3
    ·cases hr:fst (fun i=>(nz (IV t i)).map fun e=>((AA t.Edges i).Name,e)) 0 t.Edges.length with
     | some r=>
      rw [hr] at h
      obtain ⟨i,_,_,k3,_⟩:=DF hr
      unfold nz at k3
      split at k3
      ·cases k3
      ·rename_i hne
       cases k3; exact absurd h hne
     | none=>
      intro i k1 k2
      exact Mh.1 (Ld.1 (DK.1 hr i k1 k2))
   exact ⟨by omega,by omega,hn,he⟩
theorem G0.par {t:AD} (h:G0 t):FX t t.Nodes.length:=QF h.node
theorem G0.ends {t:AD} (h:G0 t) {i:Int} (h0:0<=i) (h1:i<t.Edges.length):(0<=(AA t.Edges i).From∧(AA t.Edges i).From<t.Nodes.length)∧(0<=(AA t.Edges i).To∧(AA t.Edges i).To<t.Nodes.length):=by
 have:=h.edge i h0 h1
 unfold IV at this
 dsimp only at this
 split at this
 ·cases this
 ·split at this
  ·cases this
  ·split at this
   ·rename_i hc; exact ⟨hc.1,hc.2.1⟩
   ·cases this
def Hu (t:AD) (a:Int):Bool:=decide (0<=a)&&decide (a<t.Nodes.length)
theorem Kn {t:AD} {a:Int}:Hu t a=true↔0<=a∧a<t.Nodes.length:=by unfold Hu; simp
theorem RH {t:AD} (hf:BU t) (l:List Int):FW t l=some (if (BA t).2≠0 then (BA t).2 else if (l.all (Hu t))=true then 0 else 6):=by
 unfold FW
 rw [Pm hf,bs,SX (p:=fun a=>!Hu t a) (fun a _=>by unfold Kd Hu; rw [show decide (a<0)=!decide (0<=a) from by rw [←decide_not,decide_eq_decide]; omega,show decide ((t.Nodes.length:Int)<=a)=!decide (a<t.Nodes.length) from by rw [←decide_not,decide_eq_decide]; omega,Bool.not_and]),bs]
 rw [show (l.any fun a=>!Hu t a)=!(l.all (Hu t)) from by rw [List.all_eq_not_any_not,Bool.not_not]]
 cases l.all (Hu t) <;> by_cases h:(BA t).2=0 <;> simp [h]
theorem Uh {t:AD} (hf:BU t) (a b:Int):JO t a b=some (if (BA t).2≠0 then (BA t).2 else if (Hu t a&&Hu t b)=true then 0 else 6):=by
 have hl:=hf.nodes
 have e:∀ a,decide (a<=(t.Nodes.length:Int) - 1)=decide (a<(t.Nodes.length:Int)):=fun a=>by rw [decide_eq_decide]; omega
 unfold JO D6
 rw [Po hf,bs]
 simp only [BF (show -9223372036854775808<=(t.Nodes.length:Int) - 1 by omega) (by omega),bs,e]
 change (if (!decide ((BA t).snd=0))=true then some (BA t).snd else (if (!Hu t a)=true then some true else some (!Hu t b)).bind fun x32=>if x32=true then some 6 else some 0)=_
 cases Hu t a <;> cases Hu t b <;> by_cases h:(BA t).2=0 <;> simp [h]
theorem Wp {α:Type} [Inhabited α] {l:List α} {i:Int} (h0:0<=i) (h1:i<l.length):CP l i (AA l i)=l:=by
 unfold CP AA
 rw [List.getD_eq_getElem?_getD,List.getElem?_eq_getElem (by omega)]
 exact List.set_getElem_self _
theorem Iq {α:Type} [Inhabited α] {l:List α} {i:Int} (h0:0<=i) (h1:i<l.length):l.take (i+1).toNat=l.take i.toNat++[AA l i]:=by
 unfold AA
 rw [show (i+1).toNat=i.toNat+1 by omega,List.take_add_one,List.getD_eq_getElem?_getD,List.getElem?_eq_getElem (by omega)]
 rfl
theorem Hd {α:Type} {l:List α} (h:l.length<=BY):CM [] l=some l:=by rw [DB (by simpa using h)]; rfl
def H4 (t:AD) (a:Int):List Attr × Int:=if (BA t).2≠0 then ([],(BA t).2) else if Hu t a=true then (A8 t a,0) else ([],6)
theorem UY {t:AD} (hf:BU t) (a:Int):GX t a=some (H4 t a):=by
 unfold GX H4
 rw [RH hf,bs]
 by_cases h:(BA t).2=0
 ·have hok:=GB h
  have e:[a].all (Hu t)=Hu t a:=by simp
  rw [e]
  simp only [h,ne_eq,not_true_eq_false,if_false]
  cases hi:Hu t a
  ·rfl
  ·rw [if_pos rfl,if_pos rfl]
   have hr:=Kn.1 hi
   have hl:=K5 hf (Int.le_refl _) hok.par hr.2
   have hw:=K4 hf (Int.le_refl _) hok.par hr.2
   rw [if_neg (by decide),UZ hf (Int.le_refl _) hok.par hr.1 hr.2,bs]
   obtain ⟨s',h1,rfl⟩:=Sn (f:=(fun (i0:Int) (s0:List Attr)=>
 (AH s0 i0).bind fun x28=>
 (slices_Clone_string x28.Names).bind fun x31=>
 (AH s0 i0).bind fun x32=>
 some (CP s0 i0 (Attr.mk x32.Name x32.Low x32.High x31)))) (fun _ s=>s=A8 t a) (a:=0) (b:=(A8 t a).length) (s:=A8 t a) (by omega) rfl (fun i s k1 k2 hs=>by
     subst hs
     have:=(hw _ (AT k1 k2)).names
     refine ⟨A8 t a,?_,rfl⟩
     unfold slices_Clone_string
     rw [AG k1 k2,bs,Hd (by unfold BY; omega),bs,bs]
     congr 1
     exact Wp k1 k2)
   rw [h1]; rfl
 ·simp only [h,ne_eq,not_false_eq_true,if_true,decide_false,Bool.not_false]
theorem Ud {t:AD} (hf:BU t) (a:Int):JM t a=some (H4 t a):=by
 unfold JM H4
 rw [Uh hf,bs]
 by_cases h:(BA t).2=0
 ·have hok:=GB h
  rw [Bool.and_self]
  simp only [h,ne_eq,not_true_eq_false,if_false]
  cases hi:Hu t a
  ·rfl
  ·rw [if_pos rfl,if_pos rfl]
   have hr:=Kn.1 hi
   have hl:=K5 hf (Int.le_refl _) hok.par hr.2
   have hw:=K4 hf (Int.le_refl _) hok.par hr.2
   rw [if_neg (by decide),Ue hf (Int.le_refl _) hok.par hr.1 hr.2,bs]
   rw [HY (fun i=>(A8 t a).take i.toNat) (by omega) (by simp)]
   ·rw [bs,Int.toNat_natCast,List.take_length]
   ·intro i k1 k2
    have:=(hw _ (AT k1 k2)).names
    rw [AG k1 k2,bs,Hd (by unfold BY; omega),bs,DB (by rw [List.length_take]; simp; unfold BY; omega),Iq k1 k2]
    rfl
 ·simp only [h,ne_eq,not_false_eq_true,if_true,decide_false,Bool.not_false]
end Go.Sf.Sc
namespace Go.Sf.Sc
open Go Go.Sf
def MF (t:AD):Nat->Int->List Int
 | 0,_=>[]
 | n+1,a=>if a<0 then [] else a::MF t n (par t a)
theorem Ur (t:AD):∀ (n:Nat) (a:Int),(MF t n a).length<=n
 | 0,_=>by simp [MF]
 | n+1,a=>by
  rw [MF]
  split
  ·simp
  ·have:=Ur t n (par t a); simp; omega
def Hv (t:AD) (a b:Int):Bool:=(MF t (a+1).toNat a).any fun x=>decide (b=x)
theorem UU {t:AD} (h12:t.Nodes.length<=12) (hp:FX t t.Nodes.length):∀ (n:Nat) (a:Int) (l:List Int),a<t.Nodes.length->a<n->l.length+n<=1000 ->
  ∃ x,LY (ρ:=List Int) (fun (s0:Int × List Int)=>
 if (decide (0<=s0.1))=true then
 (CM s0.2 [s0.1]).bind fun x17=>
 (AH t.Nodes s0.1).bind fun x11=>
 some (.next (x11.Parent,x17))
 else
 some (.brk (s0.1,s0.2))) (a,l) (.inl (x,l++MF t n a))
 | 0,a,l,h1,h2,_=>by
  refine ⟨a,.brk ?_⟩
  rw [if_neg (by simp; omega)]
  simp [MF]
 | n+1,a,l,h1,h2,h3=>by
  by_cases h0:a<0
  ·refine ⟨a,.brk ?_⟩
   rw [if_neg (by simp; omega)]
   simp [MF,h0]
  ·have hq:=hp a (by omega) h1
   obtain ⟨x,hx⟩:=UU h12 hp n (par t a) (l++[a]) (by omega) (by omega) (by simp; omega)
   refine ⟨x,.next (s':=(par t a,l++[a])) ?_ ?_⟩
   ·rw [if_pos (by simp; omega),DB (by simp; unfold BY; omega),bs,AG (by omega) h1]; rfl
   ·rw [MF,if_neg h0,show l++a::MF t n (par t a)=(l++[a])++MF t n (par t a) by simp]
    exact hx
theorem Xz {t:AD} (h:G0 t) {a b:Int} (ha:0<=a) (ha2:a<t.Nodes.length):IS t a b=some (Hv t a b):=by
 have h12:=h.nodes
 obtain ⟨x,hx⟩:=UU h12 h.par (a+1).toNat a [] ha2 (by omega) (by simp; omega)
 have hl:=Ur t (a+1).toNat a
 unfold IS I7
 rw [hx.eq,DQ]
 simp only [List.nil_append]
 unfold slices_Reverse_int
 rw [if_pos (by unfold BY; omega)]
 simp only [bs]
 rw [Sb,bs]
 unfold Hv
 rw [List.any_reverse]
theorem TH {t:AD} (hp:FX t t.Nodes.length) {b:Int} (hb:0<=b):∀ (n m:Nat) (a:Int),-1<=a->a<t.Nodes.length->a+1<n->a<m->GD n t a b=some ((MF t m a).any fun x=>decide (b=x))
 | 0,_,_,_,_,_,_=>by omega
 | n+1,m,a,h0,h1,h2,h3=>by
  rw [GD]
  by_cases ha:a<0
  ·rw [if_neg (by simp; omega),if_neg (by simp; omega)]
   cases m <;> simp [MF,ha]
  ·cases m with
   | zero=>omega
   | succ m=>
    have hq:=hp a (by omega) h1
    rw [MF,if_neg ha,List.any_cons,if_pos (show decide (0<=a)=true by simp; omega),AG (by omega) h1]
    simp only [bs]
    rw [show (AA t.Nodes a).Parent=par t a from rfl,TH hp hb n m (par t a) (by omega) (by omega) (by omega) (by omega)]
    by_cases hab:a=b
    ·simp [hab]
    ·have:¬ b=a:=fun e=>hab e.symm
     simp [hab,this]
theorem Pp {t:AD} (h:G0 t) {a b:Int} (ha:0<=a) (ha2:a<t.Nodes.length) (hb:0<=b):Hi t a b=some (Hv t a b):=
 F4 (a+2).toNat fun n hn=>TH h.par hb n (a+1).toNat a (by omega) ha2 (by omega) (by omega)
def OX (t:AD) (e f g:Int):Bool:=
 decide ((BA t).2=0)&&(Hu t f&&Hu t g)&&(decide (0<=e)&&decide (e<t.Edges.length))&&(Hv t f (AA t.Edges e).From&&Hv t g (AA t.Edges e).To)
theorem cE {t:AD} (hf:BU t) (e f g:Int):IH t e f g=some (OX t e f g):=by
 unfold IH OX
 rw [RH hf,bs,show [f,g].all (Hu t)=(Hu t f&&Hu t g) by simp]
 by_cases h:(BA t).2=0
 ·simp only [h,ne_eq,not_true_eq_false,if_false]
  have hok:=GB h
  cases hi:(Hu t f&&Hu t g)
  ·rfl
  ·rw [Bool.and_eq_true,Kn,Kn] at hi
   by_cases he:0<=e∧e<t.Edges.length
   ·rw [if_neg (by simp; omega),AG he.1 he.2]
    simp only [bs,Xz hok hi.1.1 hi.1.2,Xz hok hi.2.1 hi.2.2,he.1,he.2,decide_true,Bool.true_and]
    cases Hv t f (AA t.Edges e).From <;> rfl
   ·rw [if_pos (by simp; omega)]
    have:(decide (0<=e)&&decide (e<t.Edges.length))=false:=by rw [Bool.eq_false_iff]; simpa using he
    rw [this]; simp
 ·simp [h]
theorem cR {t:AD} (hf:BU t) (e f g:Int):LH t e f g=some (OX t e f g):=by
 have hl:=hf.edges
 unfold LH OX D6
 rw [Uh hf,bs]
 by_cases h:(BA t).2=0
 ·simp only [h,ne_eq,not_true_eq_false,if_false]
  have hok:=GB h
  cases hi:(Hu t f&&Hu t g)
  ·rfl
  ·rw [Bool.and_eq_true,Kn,Kn] at hi
   rw [BF (by omega) (by omega)]
   simp only [bs]
   by_cases he:0<=e∧e<t.Edges.length
   ·have he2:=hok.ends he.1 he.2
    have he3:e<=(t.Edges.length:Int) - 1:=by omega
    rw [if_neg (by simp),bs,if_neg (by simp [he.1,he3]),AG he.1 he.2]
    simp only [bs,Pp hok hi.1.1 hi.1.2 he2.1.1,Pp hok hi.2.1 hi.2.2 he2.2.1,he.1,he.2,decide_true,Bool.true_and]
    cases Hv t f (AA t.Edges e).From <;> rfl
   ·have:(decide (0<=e)&&decide (e<t.Edges.length))=false:=by rw [Bool.eq_false_iff]; simpa using he
    have h2:(decide (0<=e)&&decide (e<=(t.Edges.length:Int) - 1))=false:=by rw [Bool.eq_false_iff]; simp; omega
    rw [this,h2]; simp
 ·simp [h]
def LP (n:Int) (x:Term):Bool:=(((decide ((-1)<=x.Var))&&(decide (x.Var<n)))&&(decide ((-1000000)<=x.Add)))&&(decide (x.Add<=1000000))
def Kc (n:Int) (x:Test):Int:=if ¬ x.Kind=1∧¬ x.Kind=2 then 1 else if (LP n x.Left&&LP n x.Right)=true then 0 else 6
def IF (n:Int) (l:List Test):Int:=if n<0∨12<n then 6 else if 40<l.length then 3 else (fst (fun i=>nz (Kc n (AA l i))) 0 l.length).getD 0
theorem cO (n:Int) (x:Test):Ie n x=some (Kc n x):=by
 unfold Ie Kc
 simp only [show ∀ n x,H7 n x=some (LP n x) from fun _ _=>rfl,bs]
 generalize LP n x.Left=b1
 generalize LP n x.Right=b2
 cases b1 <;> cases b2
 all_goals
  simp only [bs,decide_eq_true_eq,Bool.or_eq_true,Bool.and_eq_true,Bool.not_eq_true',decide_eq_false_iff_not,Bool.not_eq_false',Bool.or_eq_false_iff,Bool.and_eq_false_iff,ne_eq]
  repeat' (first | rfl | (exfalso; omega; done) | split)
  all_goals (first | rfl | (exfalso; omega) | omega | simp_all | (simp_all; omega))
theorem X9 (n:Int) (x:Term):Ij n x=some (if LP n x=true then 0 else 6):=by
 unfold Ij LP
 simp only [bs,decide_eq_true_eq,Bool.or_eq_true,Bool.and_eq_true,Bool.not_eq_true',decide_eq_false_iff_not,Bool.not_eq_false',Bool.or_eq_false_iff,Bool.and_eq_false_iff,ne_eq]
 repeat' (first | rfl | (exfalso; omega; done) | split)
 all_goals (first | rfl | (exfalso; omega) | omega | simp_all | (simp_all; omega))
theorem cb (n:Int) (x:Test):L9 n x=some (Kc n x):=by
 unfold L9 Kc
 simp only [X9,bs]
 generalize LP n x.Left=b1
 generalize LP n x.Right=b2
 cases b1 <;> cases b2
 all_goals
  simp only [bs,decide_eq_true_eq,Bool.or_eq_true,Bool.and_eq_true,Bool.not_eq_true',decide_eq_false_iff_not,Bool.not_eq_false',Bool.or_eq_false_iff,Bool.and_eq_false_iff,ne_eq]
  repeat' (first | rfl | (exfalso; omega; done) | split)
  all_goals (first | rfl | (exfalso; omega) | omega | simp_all | (simp_all; omega))
theorem aA (n:Int) (l:List Test):Hf n l=some (IF n l):=by
 unfold Hf IF
 rw [CF (fun i=>nz (Kc n (AA l i))),F9]
 ·simp only [bs,decide_eq_true_eq,Bool.or_eq_true,Bool.and_eq_true,Bool.not_eq_true',decide_eq_false_iff_not,Bool.not_eq_false',Bool.or_eq_false_iff,Bool.and_eq_false_iff,ne_eq]
  repeat' (first | rfl | (exfalso; omega; done) | split)
  all_goals (first | rfl | (exfalso; omega) | omega | simp_all | (simp_all; omega))
 ·intro i h1 h2 _
  rw [AG h1 h2,bs,cO,bs,OF]
theorem aL (n:Int) (l:List Test):KI n l=some (IF n l):=by
 unfold KI IF
 rw [CF (fun i=>nz (Kc n (AA l i))),F9]
 ·simp only [bs,decide_eq_true_eq,Bool.or_eq_true,Bool.and_eq_true,Bool.not_eq_true',decide_eq_false_iff_not,Bool.not_eq_false',Bool.or_eq_false_iff,Bool.and_eq_false_iff,ne_eq]
  repeat' (first | rfl | (exfalso; omega; done) | split)
  all_goals (first | rfl | (exfalso; omega) | omega | simp_all | (simp_all; omega))
 ·intro i h1 h2 _
  rw [AG h1 h2,bs,cb,bs,OF]
def NF (t:AD) (p:Pattern) (node ix:Int):Attr × Bool:=
 if node<0∨p.Graph.Nodes.length<=node then (default,false) else
 let l:=(H4 t (AA p.Graph.Nodes node)).1
 if ix<0∨l.length<=ix then (default,false) else (AA l ix,true)
theorem QW {t:AD} (hf:BU t) (a:Int):(H4 t a).1.length<=600∧((H4 t a).2≠0->(H4 t a).1=[]):=by
 unfold H4
 split
 ·simp
 ·rename_i h
  have hok:=GB (t:=t) (by omega)
  split
  ·rename_i hi
   exact ⟨K5 hf (Int.le_refl _) hok.par (Kn.1 hi).2,by simp⟩
  ·simp
theorem Z3 {t:AD} (hf:BU t) {p:Pattern} (hg:JJ p.Graph) (s:DH):FM t p s=some (NF t p s.Node s.Attr):=by
 have hn:=hg.nodes
 unfold FM NF C3
 dsimp only
 rw [BF (by omega) (by omega),bs]
 by_cases h:s.Node<0∨p.Graph.Nodes.length<=s.Node
 ·rw [if_pos (by simp; omega),if_pos h]; rfl
 ·rw [if_neg (by simp; omega),if_neg h,AG (by omega) (by omega),bs,UY hf,bs]
  have hl:=(QW hf (AA p.Graph.Nodes s.Node)).1
  rw [BF (by omega) (by omega),bs]
  by_cases h2:s.Attr<0∨(H4 t (AA p.Graph.Nodes s.Node)).1.length<=s.Attr
  ·rw [if_pos (by simp; omega),if_pos h2]; rfl
  ·rw [if_neg (by simp; omega),if_neg h2,AG (by omega) (by omega)]; rfl
theorem aD {t:AD} (hf:BU t) {p:Pattern} (node ix:Int):LM t p node ix=some (NF t p node ix):=by
 unfold LM NF
 dsimp only
 by_cases h:node<0∨p.Graph.Nodes.length<=node
 ·rw [if_pos (by simp; omega),if_pos h]; rfl
 ·rw [if_neg (by simp; omega),if_neg h,AG (by omega) (by omega),bs,Ud hf,bs]
  have hl:=(QW hf (AA p.Graph.Nodes node)).2
  by_cases h2:ix<0∨(H4 t (AA p.Graph.Nodes node)).1.length<=ix
  ·rw [if_pos (by simp; omega),if_pos h2]; rfl
  ·by_cases he:(H4 t (AA p.Graph.Nodes node)).2=0
   ·rw [if_neg (by simp [he]; omega),if_neg h2,AG (by omega) (by omega)]; rfl
   ·rw [hl he] at h2; simp at h2; omega
end Go.Sf.Sc
namespace Go.Sf
variable {σ ρ:Type}
def dI (s:σ) (o:Option ρ):CD σ ρ:=match o with
 | none=>.next s
 | some r=>.ret r
def ZI (s:σ) (o:Option ρ):σ ⊕ ρ:=match o with
 | none=>.inl s
 | some r=>.inr r
theorem So {f:Int->σ->Option (CD σ ρ)} (g:Int->σ) (c:Int->Option ρ):∀ (n:Nat) (a:Int),
  (∀ i,a<=i->i<a+n->(∀ j,a<=j->j<i->c j=none)->f i (g i)=some (dI (g (i+1)) (c i)))->forGo f n a (g a)=some (ZI (g (a+n)) (FQ c n a))
 | 0,a,_=>by simp [forGo,FQ,ZI]
 | n+1,a,h=>by
  have h0:=h a (Int.le_refl _) (by omega) (fun j h1 h2=>by omega)
  rw [GR,h0,FQ]
  cases hc:c a with
  | some r=>rfl
  | none=>
   simp only [dI]
   rw [show a+((n+1:Nat):Int)=a+1+n by omega]
   refine So g c n (a+1) (fun i h1 h2 h3=>h i (by omega) (by omega) (fun j h4 h5=>?_))
   by_cases hj:j=a
   ·subst hj; exact hc
   ·exact h3 j (by omega) h5
theorem OC {f:Int->σ->Option (CD σ ρ)} (g:Int->σ) (c:Int->Option ρ) {a b:Int} {s:σ} (hab:a<=b) (hs:s=g a) (h:∀ i,a<=i->i<b->(∀ j,a<=j->j<i->c j=none)->f i (g i)=some (dI (g (i+1)) (c i))):forR f a b s=some (ZI (g b) (fst c a b)):=by
 subst hs
 unfold forR fst
 have:=So g c (b - a).toNat a (fun i h1 h2 h3=>h i h1 (by omega) h3)
 rwa [show a+((b - a).toNat:Int)=b by omega] at this
variable {α:Type}
theorem HC {e:Int} {X:Option Int} {Y:Int} (h:e=0->X=some Y):(if (!decide (e=0))=true then some e else X)=some (if e≠0 then e else Y):=by
 by_cases he:e=0
 ·simp [he,h he]
 ·simp [he]
theorem Je {e:Int} {v:α} {X:Option α} {Y:α} (h:e=0->X=some Y):(if (!decide (e=0))=true then some v else X)=some (if e≠0 then v else Y):=by
 by_cases he:e=0
 ·simp [he,h he]
 ·simp [he]
theorem N6 {P:Prop} [Decidable P] {b:Bool} {v:α} {X:Option α} {Y:α} (hb:b=true↔P) (h:¬ P->X=some Y):(if b=true then some v else X)=some (if P then v else Y):=by
 by_cases hp:P
 ·rw [if_pos (hb.2 hp),if_pos hp]
 ·rw [if_neg (fun h=>hp (hb.1 h)),if_neg hp,h hp]
theorem UH {b:Bool} {v:α} {X:Option α} {Y:α} (h:b=true->X=some Y):(if (!b)=true then some v else X)=some (if b=false then v else Y):=by
 cases b
 ·rfl
 ·simpa using h rfl
theorem kP {b:Bool} {v:α} {X:Option α} {Y:α} (h:b=false->X=some Y):(if b=true then some v else X)=some (if b=true then v else Y):=by
 cases b
 ·simpa using h rfl
 ·rfl
end Go.Sf
namespace Go.Sf.Sc
open Go Go.Sf
def OR (t:AD) (p:Pattern) (s:DH):Bool:=!(NF t p s.Node s.Attr).2||decide (s.Term.Var < -1)||decide (p.Vars<=s.Term.Var)||(decide (s.Term.Add < -1000000)||decide (1000000<s.Term.Add))
def Jh (p:Pattern) (v:Int):Bool:=p.Slots.any fun s=>decide (s.Term.Var=v)
def I3 (t:AD) (p:Pattern):Int:=
 if (BA t).2≠0 then (BA t).2 else if CU p.Graph≠0 then CU p.Graph else if FB t p.Graph=false then 13 else
 if p.Vars<0∨12<p.Vars then 6 else if 10<p.Slots.length∨10<p.Tests.length then 3 else
 if (p.Slots.any (OR t p))=true then 6 else if IF p.Vars p.Tests≠0 then IF p.Vars p.Tests else
 if anyR (fun v=>!Jh p v) 0 p.Vars=true then 9 else 0
def I9 (p:Pattern) (i:Int):List Bool:=(List.range p.Vars.toNat).map fun (v:Nat)=>(p.Slots.take i.toNat).any fun s=>decide (s.Term.Var=(v:Int))
theorem Vs {p:Pattern}:I9 p 0=List.replicate p.Vars.toNat false:=by
 unfold I9
 refine List.ext_getElem (by simp) (fun n h1 h2=>by simp)
theorem XD (p:Pattern) (i:Int):(I9 p i).length=p.Vars.toNat:=by simp [I9]
theorem XE {p:Pattern} {i:Int} (h0:0<=i) (h1:i<p.Slots.length) (hv:0<=(AA p.Slots i).Term.Var):CP (I9 p i) (AA p.Slots i).Term.Var true=I9 p (i+1):=by
 unfold CP
 refine List.ext_getElem (by simp [I9]) (fun n k1 k2=>?_)
 simp only [I9,List.getElem_set,List.getElem_map,List.getElem_range,Iq h0 h1,List.any_append,List.any_cons,List.any_nil,Bool.or_false]
 by_cases hn:(AA p.Slots i).Term.Var.toNat=n
 ·rw [if_pos hn,decide_eq_true (show (AA p.Slots i).Term.Var=(n:Int) by omega),Bool.or_true]
 ·rw [if_neg hn,decide_eq_false (show ¬ (AA p.Slots i).Term.Var=(n:Int) by omega),Bool.or_false]
theorem Vr {p:Pattern} {i:Int} (h0:0<=i) (h1:i<p.Slots.length) (hv:(AA p.Slots i).Term.Var<0):I9 p i=I9 p (i+1):=by
 refine List.ext_getElem (by simp [I9]) (fun n k1 k2=>?_)
 simp only [I9,List.getElem_map,List.getElem_range,Iq h0 h1,List.any_append,List.any_cons,List.any_nil,Bool.or_false]
 rw [decide_eq_false (show ¬ (AA p.Slots i).Term.Var=(n:Int) by omega),Bool.or_false]
theorem XC (p:Pattern):((I9 p p.Slots.length).any fun x=>false==x)=anyR (fun v=>!Jh p v) 0 p.Vars:=by
 rw [Bool.eq_iff_iff,List.any_eq_true,Hc]
 simp only [I9,Int.toNat_natCast,List.take_length,List.mem_map,List.mem_range]
 constructor
 ·rintro ⟨x,⟨v,hv,rfl⟩,hx⟩
  refine ⟨v,by omega,by omega,?_⟩
  unfold Jh
  revert hx
  cases p.Slots.any fun s=>decide (s.Term.Var=(v:Int)) <;> simp
 ·rintro ⟨v,h0,h1,hx⟩
  refine ⟨_,⟨v.toNat,by omega,rfl⟩,?_⟩
  rw [Int.toNat_of_nonneg h0]
  unfold Jh at hx
  revert hx
  cases p.Slots.any fun s=>decide (s.Term.Var=v) <;> simp
theorem Zr {α ρ:Type} [Inhabited α] {l:List α} {q:α->Bool} {v:ρ}:fst (fun i=>if q (AA l i)=true then some v else none) 0 l.length=if l.any q=true then some v else none:=by
 rw [NJ,KB]
theorem SJ {t:AD} (hf:BU t) (p:Pattern):DV t p=some (I3 t p):=by
 unfold DV I3
 rw [Pm hf,bs,Mi,bs]
 refine HC fun ht=>HC fun hg=>?_
 have hgo:=E6 hg
 have e:((BG p.Graph.Nodes (fun y0=>G9 y0 t)).bind fun x32=>
   (if x32=true then some true else ((BT p.Graph.Edges (fun y0=>HB y0 t)).bind fun x38=>some (x38))))=some (!FB t p.Graph):=by
  unfold FB
  rw [show (fun y0=>G9 y0 t)=(fun (n:Int)=>some (decide (t.Nodes.length<=n))) from rfl,V2,show (fun y0=>HB y0 t)=(fun (e:CS)=>some (decide (t.Edges.length<=e.Type'))) from rfl,Zg]
  simp only [bs]
  cases p.Graph.Nodes.any fun n=>decide (t.Nodes.length<=n) <;> simp
 rw [←Option.bind_assoc,e,bs]
 refine UH fun htd=>?_
 unfold C3
 simp only [bs]
 refine N6 (by simp; try omega) fun hv=>N6 (by simp; try omega) fun hl=>?_
 unfold KF
 rw [if_pos (by omega),bs,←Vs,BF (show -9223372036854775808<=p.Vars - 1 by omega) (by omega),OC (I9 p) (fun i=>if OR t p (AA p.Slots i)=true then some 6 else none) (by omega) rfl,Zr]
 ·cases hb:p.Slots.any (OR t p)
  ·simp only [Bool.false_eq_true,if_false,ZI,DQ,aA,bs,Zk,XC]
   by_cases hte:IF p.Vars p.Tests=0
   ·simp only [hte]
    cases anyR (fun v=>!Jh p v) 0 p.Vars <;> rfl
   ·simp [hte]
  ·rfl
 ·intro i h1 h2 _
  rw [AG h1 h2,bs,Z3 hf hgo,bs]
  unfold OR
  by_cases hb:(NF t p (AA p.Slots i).Node (AA p.Slots i).Attr).2=true
  ·by_cases hvar:(AA p.Slots i).Term.Var < -1∨p.Vars<=(AA p.Slots i).Term.Var
   ·have e1:(decide (-1<=(AA p.Slots i).Term.Var)&&decide ((AA p.Slots i).Term.Var<=p.Vars - 1))=false:=by rw [Bool.eq_false_iff]; simp; omega
    have e2:(decide ((AA p.Slots i).Term.Var < -1)||decide (p.Vars<=(AA p.Slots i).Term.Var))=true:=by simp; omega
    rw [hb,e1,Bool.or_assoc (!true),e2]; rfl
   ·have e1:(decide (-1<=(AA p.Slots i).Term.Var)&&decide ((AA p.Slots i).Term.Var<=p.Vars - 1))=true:=by simp; omega
    have e2:(decide ((AA p.Slots i).Term.Var < -1)||decide (p.Vars<=(AA p.Slots i).Term.Var))=false:=by rw [Bool.eq_false_iff]; simp; omega
    rw [hb,e1,Bool.or_assoc (!true),e2]
    by_cases ha:(AA p.Slots i).Term.Add < -1000000∨1000000<(AA p.Slots i).Term.Add
    ·have e3:(decide (-1000000<=(AA p.Slots i).Term.Add)&&decide ((AA p.Slots i).Term.Add<=1000000))=false:=by rw [Bool.eq_false_iff]; simp; omega
     have e4:(decide ((AA p.Slots i).Term.Add < -1000000)||decide (1000000<(AA p.Slots i).Term.Add))=true:=by simp; omega
     rw [e3,e4]; rfl
    ·have e3:(decide (-1000000<=(AA p.Slots i).Term.Add)&&decide ((AA p.Slots i).Term.Add<=1000000))=true:=by simp; omega
     have e4:(decide ((AA p.Slots i).Term.Add < -1000000)||decide (1000000<(AA p.Slots i).Term.Add))=false:=by rw [Bool.eq_false_iff]; simp; omega
     rw [e3,e4]
     by_cases h0:0<=(AA p.Slots i).Term.Var
     ·simp only [Bool.not_true,Bool.false_eq_true,if_false,bs,h0,decide_true,if_true,Bool.or_false]
      rw [AG h0 (by rw [XD]; omega),bs,XE h1 h2 h0]; rfl
     ·simp only [Bool.not_true,Bool.false_eq_true,if_false,bs,h0,decide_false,Bool.or_false]
      rw [Vr h1 h2 (by omega)]; rfl
  ·rw [Bool.not_eq_true] at hb
   rw [hb]; rfl
theorem Y6 (p:Pattern) (v:Int):Jn p v=some (Jh p v):=by
 unfold Jn Jh
 rw [B8 (fun i=>decide ((AA p.Slots i).Term.Var=v)) true,KB]
 ·cases anyR (fun i=>decide ((AA p.Slots i).Term.Var=v)) 0 p.Slots.length <;> rfl
 ·intro i h1 h2 _
  rw [AG h1 h2,bs,Iz]
theorem VT {t:AD} (hf:BU t) (p:Pattern):IP t p=some (I3 t p):=by
 unfold IP I3
 rw [Po hf,bs,Mk,bs]
 refine HC fun ht=>HC fun hg=>?_
 have hgo:=E6 hg
 rw [RI hgo,bs]
 refine UH fun htd=>N6 (by simp; try omega) fun hv=>N6 (by simp; try omega) fun hl=>?_
 rw [B8 (fun i=>OR t p (AA p.Slots i)) 6,←KB]
 ·cases hb:p.Slots.any (OR t p)
  ·simp only [Bool.false_eq_true,if_false,DQ,aL,bs]
   by_cases hte:IF p.Vars p.Tests=0
   ·simp only [hte]
    rw [B8 (fun v=>!Jh p v) 9]
    ·cases anyR (fun v=>!Jh p v) 0 p.Vars <;> rfl
    ·intro i h1 h2 _
     rw [Y6,bs,Iz]
   ·simp [hte]
  ·rfl
 ·intro i h1 h2 _
  rw [AG h1 h2,bs,aD hf,bs]
  unfold OR Ka
  simp only [bs]
  have e:(!(decide (-1000000<=(AA p.Slots i).Term.Add)&&decide ((AA p.Slots i).Term.Add<=1000000)))=(decide ((AA p.Slots i).Term.Add < -1000000)||decide (1000000<(AA p.Slots i).Term.Add)):=by
   rw [Bool.not_and,←decide_not,←decide_not]
   congr 1 <;> rw [decide_eq_decide] <;> omega
  rw [e]
  cases (!(NF t p (AA p.Slots i).Node (AA p.Slots i).Attr).2||decide ((AA p.Slots i).Term.Var < -1)||decide (p.Vars<=(AA p.Slots i).Term.Var))
  ·simp only [Bool.false_eq_true,if_false,bs,Bool.false_or,Iz]
  ·rfl
end Go.Sf.Sc
namespace Go.Sf
theorem T2 {l:List Int} {R:Int->Int->Prop} (h:l.Pairwise R) {i j:Int} (h0:0<=i) (h1:i<j) (h2:j<l.length):R (AA l i) (AA l j):=by
 have:=(List.pairwise_iff_getElem.1 h) i.toNat j.toNat (by omega) (by omega) (by omega)
 unfold AA
 rw [List.getD_eq_getElem?_getD,List.getD_eq_getElem?_getD,List.getElem?_eq_getElem (by omega),List.getElem?_eq_getElem (by omega)]
 exact this
theorem Tj {l:List Int} {R:Int->Int->Prop} (h:∀ i j:Int,0<=i->i<j->j<l.length->R (AA l i) (AA l j)):l.Pairwise R:=by
 refine List.pairwise_iff_getElem.2 (fun i j h1 h2 h3=>?_)
 have:=h i j (by omega) (by omega) (by omega)
 unfold AA at this
 rw [List.getD_eq_getElem?_getD,List.getD_eq_getElem?_getD,Int.toNat_natCast,Int.toNat_natCast,List.getElem?_eq_getElem h1,List.getElem?_eq_getElem h2] at this
 exact this
end Go.Sf
namespace Go.Sf.Sc
open Go Go.Sf
theorem Rc {c:Int->Option Int} {a b:Int} (hc:∀ i,c i≠some 0) (h:(fst c a b).getD 0=0):∀ i,a<=i->i<b->c i=none:=by
 have:fst c a b=none:=by
  cases hf:fst c a b with
  | none=>rfl
  | some r=>
   rw [hf] at h
   simp only [Option.getD] at h
   subst h
   obtain ⟨i,_,_,h3,_⟩:=DF hf
   exact (hc i h3).elim
 exact DK.1 this
end Go.Sf.Sc
namespace Go.Sf.Sc
open Go Go.Sf
def JF (a b:Graph) (m:Morphism) (i:Int):Option Int:=
 if AA m.Nodes i<0∨b.Nodes.length<=AA m.Nodes i then some 6 else if AA b.Nodes (AA m.Nodes i)≠AA a.Nodes i then some 13 else none
def GJ (a b:Graph) (m:Morphism) (i:Int):Option Int:=
 if AA m.Edges i<0∨b.Edges.length<=AA m.Edges i then some 6 else
 if (AA a.Edges i).Type'≠(AA b.Edges (AA m.Edges i)).Type' then some 13 else
 if AA m.Nodes (AA a.Edges i).From≠(AA b.Edges (AA m.Edges i)).From∨AA m.Nodes (AA a.Edges i).To≠(AA b.Edges (AA m.Edges i)).To then some 11 else none
def MN (a b:Graph) (m:Morphism):Int:=
 if CU a≠0 then CU a else if CU b≠0 then CU b else if m.Nodes.length≠a.Nodes.length∨m.Edges.length≠a.Edges.length then 20 else
 match fst (JF a b m) 0 m.Nodes.length with
 | some e=>e
 | none=>(fst (GJ a b m) 0 m.Edges.length).getD 0
structure Yr (a b:Graph) (m:Morphism):Prop where
 ga:JJ a
 gb:JJ b
 nlen:m.Nodes.length=a.Nodes.length
 elen:m.Edges.length=a.Edges.length
 node:∀ i:Int,0<=i->i<m.Nodes.length->(0<=AA m.Nodes i∧AA m.Nodes i<b.Nodes.length)∧AA b.Nodes (AA m.Nodes i)=AA a.Nodes i
 edge:∀ i:Int,0<=i->i<m.Edges.length->(0<=AA m.Edges i∧AA m.Edges i<b.Edges.length)∧(AA a.Edges i).Type'=(AA b.Edges (AA m.Edges i)).Type' ∧
  AA m.Nodes (AA a.Edges i).From=(AA b.Edges (AA m.Edges i)).From∧AA m.Nodes (AA a.Edges i).To=(AA b.Edges (AA m.Edges i)).To
theorem Y0 {a b:Graph} {m:Morphism} (h:MN a b m=0):Yr a b m:=by
 unfold MN at h
 split at h
 ·omega
 split at h
 ·omega
 split at h
 ·cases h
 rename_i h1 h2 h3
 have hn:fst (JF a b m) 0 m.Nodes.length=none:=by
  split at h
  ·rename_i r hr
   obtain ⟨i,_,_,k,_⟩:=DF hr
   subst h
   unfold JF at k
   split at k
   ·cases k
   ·split at k <;> cases k
  ·assumption
 rw [hn] at h
 have he:=Rc (fun i=>by
  unfold GJ
  split
  ·simp
  ·split
   ·simp
   ·split <;> simp) h
 refine ⟨E6 (by omega),E6 (by omega),by omega,by omega,fun i i1 i2=>?_,fun i i1 i2=>?_⟩
 ·have:=DK.1 hn i i1 i2
  unfold JF at this
  split at this
  ·cases this
  ·split at this
   ·cases this
   ·rename_i x y
    exact ⟨by omega,Classical.not_not.1 y⟩
 ·have:=he i i1 i2
  unfold GJ at this
  split at this
  ·cases this
  ·split at this
   ·cases this
   ·split at this
    ·cases this
    ·rename_i x y z
     exact ⟨by omega,Classical.not_not.1 y,Classical.not_not.1 (fun h=>z (.inl h)),Classical.not_not.1 (fun h=>z (.inr h))⟩
theorem Y1 (a b:Graph) (m:Morphism):EM a b m=some (MN a b m):=by
 unfold EM MN
 rw [Mi,bs,Mi,bs]
 refine HC fun ha=>HC fun hb=>N6 (by simp; try omega) fun hl=>?_
 have ga:=E6 ha
 have gb:=E6 hb
 rw [CF (JF a b m),E3]
 ·cases hn:fst (JF a b m) 0 m.Nodes.length with
  | some e=>rfl
  | none=>
   have hn2:=DK.1 hn
   dsimp only
   rw [CF (GJ a b m),F9]
   intro i i1 i2 _
   unfold GJ
   rw [AG i1 i2,bs]
   by_cases h1:AA m.Edges i<0∨b.Edges.length<=AA m.Edges i
   ·rw [if_pos (by simpa using h1),if_pos h1]; rfl
   ·have hf:=ga.fit _ (AT (l:=a.Edges) i1 (by omega))
    rw [if_neg (by simpa using h1),if_neg h1,AG i1 (by omega),bs,AG (by omega) (by omega),bs]
    by_cases h2:(AA a.Edges i).Type'=(AA b.Edges (AA m.Edges i)).Type'
    ·rw [if_neg (by simpa using h2),if_neg (by simpa using h2),AG (by omega) (by omega),bs]
     by_cases h3:AA m.Nodes (AA a.Edges i).From=(AA b.Edges (AA m.Edges i)).From
     ·rw [if_neg (by simpa using h3),AG (by omega) (by omega),bs,bs]
      by_cases h4:AA m.Nodes (AA a.Edges i).To=(AA b.Edges (AA m.Edges i)).To
      ·rw [if_neg (by simpa using h4),if_neg (by simp [h3,h4])]; rfl
      ·rw [if_pos (by simpa using h4),if_pos (.inr h4)]; rfl
     ·rw [if_pos (by simpa using h3),bs,if_pos rfl,if_pos (.inl h3)]; rfl
    ·rw [if_pos (by simpa using h2),if_pos h2]; rfl
 ·intro i i1 i2 _
  unfold JF
  rw [AG i1 i2,bs]
  by_cases h1:AA m.Nodes i<0∨b.Nodes.length<=AA m.Nodes i
  ·rw [if_pos (by simpa using h1),if_pos h1]; rfl
  ·rw [if_neg (by simpa using h1),if_neg h1,AG (by omega) (by omega),bs,AG i1 (by omega),bs]
   by_cases h2:AA b.Nodes (AA m.Nodes i)=AA a.Nodes i
   ·rw [if_neg (by simpa using h2),if_neg (by simpa using h2)]; rfl
   ·rw [if_pos (by simpa using h2),if_pos h2]; rfl
theorem PQ {x y:Prop} [Decidable x] [Decidable y]:(if decide x=true then some true else some (decide y))=some (decide (x∨y)):=by
 by_cases hx:x <;> simp [hx]
theorem Y4 (a b:Graph) (m:Morphism):JP a b m=some (MN a b m):=by
 unfold JP MN
 rw [Mk,bs,Mk,bs]
 refine HC fun ha=>HC fun hb=>N6 (by simp; try omega) fun hl=>?_
 have ga:=E6 ha
 have gb:=E6 hb
 rw [show (a.Nodes.length:Int)=m.Nodes.length by omega,show (a.Edges.length:Int)=m.Edges.length by omega,CF (JF a b m),E3]
 ·cases hn:fst (JF a b m) 0 m.Nodes.length with
  | some e=>rfl
  | none=>
   have hn2:=DK.1 hn
   dsimp only
   rw [CF (GJ a b m),F9]
   intro i i1 i2 _
   unfold GJ
   rw [AG i1 i2]
   simp only [bs,PQ]
   by_cases h1:AA m.Edges i<0∨b.Edges.length<=AA m.Edges i
   ·rw [if_pos (by simpa using h1),if_pos h1]; rfl
   ·have hf:=ga.fit _ (AT (l:=a.Edges) i1 (by omega))
    rw [if_neg (by simpa using h1),if_neg h1,AG i1 (by omega),bs,AG (by omega) (by omega),bs]
    by_cases h2:(AA a.Edges i).Type'=(AA b.Edges (AA m.Edges i)).Type'
    ·rw [if_neg (by simpa using h2),if_neg (by simpa using h2),AG (by omega) (by omega),bs]
     by_cases h3:AA m.Nodes (AA a.Edges i).From=(AA b.Edges (AA m.Edges i)).From
     ·rw [if_neg (by simpa using h3),AG (by omega) (by omega),bs,bs]
      by_cases h4:AA m.Nodes (AA a.Edges i).To=(AA b.Edges (AA m.Edges i)).To
      ·rw [if_neg (by simpa using h4),if_neg (by simp [h3,h4])]; rfl
      ·rw [if_pos (by simpa using h4),if_pos (.inr h4)]; rfl
     ·rw [if_pos (by simpa using h3),bs,if_pos rfl,if_pos (.inl h3)]; rfl
    ·rw [if_pos (by simpa using h2),if_pos h2]; rfl
 ·intro i i1 i2 _
  unfold JF
  rw [AG i1 i2]
  simp only [bs,PQ]
  by_cases h1:AA m.Nodes i<0∨b.Nodes.length<=AA m.Nodes i
  ·rw [if_pos (by simpa using h1),if_pos h1]; rfl
  ·rw [if_neg (by simpa using h1),if_neg h1,AG (by omega) (by omega),bs,AG i1 (by omega),bs]
   by_cases h2:AA b.Nodes (AA m.Nodes i)=AA a.Nodes i
   ·rw [if_neg (by simpa using h2),if_neg (by simpa using h2)]; rfl
   ·rw [if_pos (by simpa using h2),if_pos h2]; rfl
def J5 (l:List Int):Bool:=!anyR (fun i=>anyR (fun j=>decide (AA l i=AA l j)) 0 i) 0 l.length
theorem Se {l:List Int}:J5 l=true↔l.Nodup:=by
 unfold J5
 rw [Bool.not_eq_true',FE]
 constructor
 ·intro h
  refine Tj (fun i j h0 h1 h2=>?_)
  have:=h j (by omega) h2
  rw [FE] at this
  have:=this i h0 h1
  rw [decide_eq_false_iff_not] at this
  exact fun e=>this e.symm
 ·intro h i i1 i2
  rw [FE]
  intro j j1 j2
  rw [decide_eq_false_iff_not]
  exact fun e=>T2 h j1 j2 i2 e.symm
theorem VS (l:List Int):Hb l=some (J5 l):=by
 unfold Hb J5
 rw [B8 (fun i=>anyR (fun j=>decide (AA l i=AA l j)) 0 i) false]
 ·cases anyR (fun i=>anyR (fun j=>decide (AA l i=AA l j)) 0 i) 0 l.length <;> rfl
 ·intro i i1 i2 _
  rw [B8 (fun j=>decide (AA l i=AA l j)) false]
  ·cases anyR (fun j=>decide (AA l i=AA l j)) 0 i <;> rfl
  ·intro j j1 j2 _
   rw [AG i1 i2,bs,AG j1 (by omega),bs,Iz]
theorem TB {l:List Int} (hl:l.length<=1000):∃ k,G3 l=some k∧decide (k=(l.length:Int))=J5 l:=by
 have hs:(NM l).length=l.length:=(MY l).length_eq
 refine ⟨((Go.Lib.compact (NM l)).length:Int),?_,?_⟩
 ·unfold G3 slices_Clone_int slices_Sort_int slices_Compact_int
  rw [Hd (by unfold BY; omega),bs,if_pos (by unfold BY; omega),bs,if_pos (by rw [hs]; unfold BY; omega),bs]
 ·rw [Bool.eq_iff_iff,Se,decide_eq_true_eq,←(MY l).nodup_iff,←O2 (My l),hs]
  omega
def N1 (m:Morphism):Bool:=J5 m.Nodes&&J5 m.Edges
theorem jG {a b:Graph} {m:Morphism} (h:MN a b m=0):DY a b m=some (N1 m):=by
 have ho:=Y0 h
 have:=ho.ga.nodes
 have:=ho.ga.edges
 have:=ho.nlen
 have:=ho.elen
 obtain ⟨k,k1,k2⟩:=TB (l:=m.Nodes) (by omega)
 obtain ⟨j,j1,j2⟩:=TB (l:=m.Edges) (by omega)
 unfold DY N1
 rw [Y1,h,bs,if_pos (decide_eq_true rfl),k1]
 simp only [bs,j1,k2,j2]
 cases J5 m.Nodes <;> rfl
theorem jK {a b:Graph} {m:Morphism} (h:MN a b m=0):ID a b m=some (N1 m):=by
 unfold ID N1
 rw [Y4,h,bs,if_pos (decide_eq_true rfl),VS]
 simp only [bs,VS]
 cases J5 m.Nodes <;> rfl
def QB (t:AD) (g:Graph) (i:Int):Bool:=OX t (AA g.Edges i).Type' (AA g.Nodes (AA g.Edges i).From) (AA g.Nodes (AA g.Edges i).To)
end Go.Sf.Sc
namespace Go.Sf.Sc
open Go Go.Sf
structure PB (p:Pattern):Prop where
 nodes:p.Graph.Nodes.length<=45
 edges:p.Graph.Edges.length<=90
 slots:p.Slots.length<=15
 tests:p.Tests.length<=15
structure XL (m:Morphism):Prop where
 nodes:m.Nodes.length<=140
 edges:m.Edges.length<=140
inductive EL:AB->Prop where
 | mk (c:AB) (hq:PB c.Pattern) (hm:XL c.Map) (hk:∀ k∈c.Kids,EL k):EL c
theorem EL.q {c:AB} (h:EL c):PB c.Pattern:=by cases h; assumption
theorem EL.m {c:AB} (h:EL c):XL c.Map:=by cases h; assumption
theorem EL.k {c:AB} (h:EL c):∀ k∈c.Kids,EL k:=by cases h; assumption
theorem G6 {c k:AB} (h:k∈c.Kids):SizeOf.sizeOf k<SizeOf.sizeOf c:=by
 have:=List.sizeOf_lt_of_mem h
 cases c
 simp only [AB.mk.sizeOf_spec] at *
 omega
theorem GG (c:AB):0<SizeOf.sizeOf c:=by
 cases c
 simp only [AB.mk.sizeOf_spec]
 omega
def MU (c:AB):Bool:=decide (c.Map.Nodes.length=0∧c.Map.Edges.length=0∧c.Pattern.Graph.Nodes.length=0∧c.Pattern.Graph.Edges.length=0∧c.Pattern.Slots.length=0∧c.Pattern.Tests.length=0∧c.Pattern.Vars=0)
theorem cF {c:AB} (hf:EL c):FN c=some (MU c):=by
 have h1:=hf.q
 have h2:=hf.m
 have:=h1.nodes
 have:=h1.edges
 have:=h1.slots
 have:=h1.tests
 have:=h2.nodes
 have:=h2.edges
 unfold FN MU
 rw [BF (n:=(c.Map.Nodes.length:Int)+c.Map.Edges.length) (by omega) (by omega),BF (n:=(c.Map.Nodes.length:Int)+c.Map.Edges.length+c.Pattern.Graph.Nodes.length) (by omega) (by omega),
  BF (n:=(c.Map.Nodes.length:Int)+c.Map.Edges.length+c.Pattern.Graph.Nodes.length+c.Pattern.Graph.Edges.length) (by omega) (by omega),
  BF (n:=(c.Map.Nodes.length:Int)+c.Map.Edges.length+c.Pattern.Graph.Nodes.length+c.Pattern.Graph.Edges.length+c.Pattern.Slots.length) (by omega) (by omega),
  BF (n:=(c.Map.Nodes.length:Int)+c.Map.Edges.length+c.Pattern.Graph.Nodes.length+c.Pattern.Graph.Edges.length+c.Pattern.Slots.length+c.Pattern.Tests.length) (by omega) (by omega)]
 congr 1
 rw [Bool.eq_iff_iff]
 simp only [Bool.and_eq_true,decide_eq_true_eq]
 omega
theorem X8 {c:AB} (hf:EL c):Hk c=some (MU c):=by
 have h1:=hf.q
 have h2:=hf.m
 have:=h1.nodes
 have:=h1.edges
 have:=h1.slots
 have:=h1.tests
 have:=h2.nodes
 have:=h2.edges
 unfold Hk MU
 rw [BF (n:=(c.Map.Nodes.length:Int)+c.Map.Edges.length) (by omega) (by omega),BF (n:=(c.Map.Nodes.length:Int)+c.Map.Edges.length+c.Pattern.Graph.Nodes.length) (by omega) (by omega),
  BF (n:=(c.Map.Nodes.length:Int)+c.Map.Edges.length+c.Pattern.Graph.Nodes.length+c.Pattern.Graph.Edges.length) (by omega) (by omega),
  BF (n:=(c.Pattern.Slots.length:Int)+c.Pattern.Tests.length) (by omega) (by omega)]
 congr 1
 rw [Bool.eq_iff_iff]
 simp only [Bool.and_eq_true,decide_eq_true_eq]
 omega
def Ob (c:AB):Bool:=
 if c.Kind=1 then decide (c.Kids.length=0)&&MU c else if c.Kind=2 then decide (c.Kids.length=1)&&MU c else
 if c.Kind=3∨c.Kind=4 then decide (1<=c.Kids.length)&&MU c else if c.Kind=5 then decide (c.Kids.length=1) else false
def OM:Nat->AB->Bool
 | 0,_=>false
 | n+1,c=>Ob c&&c.Kids.all (OM n)
theorem cQ:∀ (N:Nat) (c:AB),SizeOf.sizeOf c<=N->EL c->∀ n,2*N<=n->BI n c=some (OM N c)
 | 0,c,h,_,_,_=>by have:=GG c; omega
 | N+1,c,h,hf,n,hn=>by
  obtain ⟨n,rfl⟩:∃ m,n=m+2:=⟨n - 2,by omega⟩
  rw [BI,OM,cF hf]
  have hk:BZ c.Kids (BP (n+1))=some (!c.Kids.all (OM N)):=by
   rw [SW (p:=fun k=>!OM N k) (fun k hk=>by
    have:=G6 hk
    rw [BP,cQ N k (by omega) (hf.k k hk) n (by omega)]; rfl),List.all_eq_not_any_not,Bool.not_not]
  rw [hk]
  unfold Ob
  simp only [bs,decide_eq_true_eq]
  generalize MU c=b
  generalize c.Kids.all (OM N)=w
  have e0:decide ((c.Kids.length:Int)=0)=decide (c.Kids.length=0):=by rw [decide_eq_decide]; omega
  have e1:decide ((c.Kids.length:Int)=1)=decide (c.Kids.length=1):=by rw [decide_eq_decide]; omega
  have e2:decide (1<=(c.Kids.length:Int))=decide (1<=c.Kids.length):=by rw [decide_eq_decide]; omega
  simp only [show ((c.Kids.length:Int)=0)↔c.Kids.length=0 by omega,show ((c.Kids.length:Int)=1)↔c.Kids.length=1 by omega,show (1<=(c.Kids.length:Int))↔1<=c.Kids.length by omega]
  by_cases k1:c.Kind=1
  ·rw [if_pos k1,if_pos k1]
   by_cases h0:c.Kids.length=0 <;> cases b <;> cases w <;> simp [h0]
  ·rw [if_neg k1,if_neg k1]
   by_cases k2:c.Kind=2
   ·rw [if_pos k2,if_pos k2]
    by_cases h0:c.Kids.length=1 <;> cases b <;> cases w <;> simp [h0]
   ·rw [if_neg k2,if_neg k2]
    by_cases k3:c.Kind=3
    ·simp only [k3,if_true,true_or]
     by_cases h0:1<=c.Kids.length <;> cases b <;> cases w <;> simp [h0]
    ·by_cases k4:c.Kind=4
     ·simp only [k4,if_true,or_true,show ¬ (4:Int)=3 by decide,if_false]
      by_cases h0:1<=c.Kids.length <;> cases b <;> cases w <;> simp [h0]
     ·simp only [k3,k4,if_false,or_false]
      by_cases k5:c.Kind=5
      ·rw [if_pos k5,if_pos k5]
       by_cases h0:c.Kids.length=1 <;> cases w <;> simp [h0]
      ·rw [if_neg k5,if_neg k5]
       cases w <;> rfl
theorem cX {c:AB} (hf:EL c):KT c=some (Ob c):=by
 unfold KT Ob
 rw [X8 hf]
 simp only [bs,decide_eq_true_eq]
 generalize MU c=b
 simp only [show ((c.Kids.length:Int)=0)↔c.Kids.length=0 by omega,show ((c.Kids.length:Int)=1)↔c.Kids.length=1 by omega,show (0<(c.Kids.length:Int))↔1<=c.Kids.length by omega]
 by_cases k1:c.Kind=1
 ·rw [if_pos k1,if_pos k1]
  by_cases h0:c.Kids.length=0 <;> cases b <;> simp [h0]
 ·rw [if_neg k1,if_neg k1]
  by_cases k2:c.Kind=2
  ·rw [if_pos k2,if_pos k2]
   by_cases h0:c.Kids.length=1 <;> cases b <;> simp [h0]
  ·rw [if_neg k2,if_neg k2]
   by_cases k3:c.Kind=3
   ·simp only [k3,if_true,true_or,decide_true,bs]
    by_cases h0:1<=c.Kids.length <;> cases b <;> simp [h0]
   ·by_cases k4:c.Kind=4
    ·simp only [k4,if_true,or_true,show ¬ (4:Int)=3 by decide,if_false,decide_true,bs]
     by_cases h0:1<=c.Kids.length <;> cases b <;> simp [h0]
    ·simp only [k3,k4,if_false,or_false,decide_false,bs,Bool.false_eq_true]
     by_cases k5:c.Kind=5
     ·rw [if_pos k5,if_pos k5]
     ·rw [if_neg k5,if_neg k5]
theorem bY {α:Type} [Inhabited α] {l:List α} {p:α->Bool}:l.all p=!anyR (fun i=>!p (AA l i)) 0 l.length:=by
 rw [List.all_eq_not_any_not,KB]
theorem Y3:∀ (N:Nat) (c:AB),SizeOf.sizeOf c<=N->EL c->∀ n,N<=n->E2 n c=some (OM N c)
 | 0,c,h,_,_,_=>by have:=GG c; omega
 | N+1,c,h,hf,n,hn=>by
  obtain ⟨n,rfl⟩:∃ m,n=m+1:=⟨n - 1,by omega⟩
  rw [E2,OM,cX hf,bs,bY,B8 (fun i=>!OM N (AA c.Kids i)) false]
  ·cases Ob c
   ·rfl
   ·cases anyR (fun i=>!OM N (AA c.Kids i)) 0 c.Kids.length <;> rfl
  ·intro i i1 i2 _
   have hm:=AT (l:=c.Kids) i1 i2
   have:=G6 hm
   rw [AG i1 i2,bs,Y3 N _ (by omega) (hf.k _ hm) n (by omega),bs,Iz]
noncomputable def ZJ (c:AB):Bool:=OM (SizeOf.sizeOf c) c
theorem jI {c:AB} (hf:EL c):F1 c=some (ZJ c):=F4 (2*SizeOf.sizeOf c) fun n hn=>cQ _ c (Nat.le_refl _) hf n hn
theorem jO {c:AB} (hf:EL c):Lh c=some (ZJ c):=F4 (SizeOf.sizeOf c) fun n hn=>Y3 _ c (Nat.le_refl _) hf n hn
def LE:Nat->AB->Int × Int
 | 0,_=>(0,0)
 | n+1,c=>
  let s:=c.Kids.foldl (fun s k=>(A3 (s.1+(LE n k).1),max s.2 (LE n k).2)) ((1,0):Int × Int)
  (s.1,if c.Kind=5 then A3 (s.2+1) else s.2)
theorem Ro {α σ:Type} [Inhabited α] {l:List α} {g:σ->α->σ} {s:σ} {f:Int->σ->Option σ} (h:∀ (i:Int) s,0<=i->i<l.length->f i s=some (g s (AA l i))):forA f 0 l.length s=some (l.foldl g s):=by
 rw [HY (fun i=>(l.take i.toNat).foldl g s) (by omega) (by simp)]
 ·rw [Int.toNat_natCast,List.take_length]
 ·intro i i1 i2
  rw [h i _ i1 i2,Iq i1 i2,List.foldl_append]; rfl
theorem WR:∀ (N:Nat) (c:AB),SizeOf.sizeOf c<=N->∀ n,N<=n->CN n c=some (LE N c)
 | 0,c,h,_,_=>by have:=GG c; omega
 | N+1,c,h,n,hn=>by
  obtain ⟨n,rfl⟩:∃ m,n=m+1:=⟨n - 1,by omega⟩
  rw [CN,LE,Ro (g:=fun s k=>(A3 (s.1+(LE N k).1),max s.2 (LE N k).2))]
  ·simp only [bs,decide_eq_true_eq]
   by_cases h5:c.Kind=5
   ·rw [if_pos h5,if_pos h5]; rfl
   ·rw [if_neg h5,if_neg h5]; rfl
  ·intro i s i1 i2
   have:=G6 (AT (l:=c.Kids) i1 i2)
   rw [AG i1 i2,bs,WR N _ (by omega) n (by omega)]; rfl
theorem Wf:∀ (N:Nat) (c:AB),SizeOf.sizeOf c<=N->∀ n,N<=n->FP n c=some (LE N c)
 | 0,c,h,_,_=>by have:=GG c; omega
 | N+1,c,h,n,hn=>by
  obtain ⟨n,rfl⟩:∃ m,n=m+1:=⟨n - 1,by omega⟩
  rw [FP,LE,Ro (g:=fun s k=>(A3 (s.1+(LE N k).1),max s.2 (LE N k).2))]
  ·simp only [bs,decide_eq_true_eq]
   by_cases h5:c.Kind=5
   ·rw [if_pos h5,if_pos h5]; rfl
   ·rw [if_neg h5,if_neg h5]; rfl
  ·intro i s i1 i2
   have:=G6 (AT (l:=c.Kids) i1 i2)
   rw [AG i1 i2,bs,Wf N _ (by omega) n (by omega)]; rfl
noncomputable def SH (c:AB):Int × Int:=LE (SizeOf.sizeOf c) c
noncomputable def MD (c:AB):Int:=if ZJ c=false then 1 else if 12<(SH c).1∨3<(SH c).2 then 3 else 0
theorem Z8 {c:AB} (hf:EL c):EZ c=some (MD c):=by
 unfold EZ MD
 rw [jI hf,bs,show HD c=some (SH c) from F4 (SizeOf.sizeOf c) fun n hn=>WR _ c (Nat.le_refl _) n hn,bs]
 exact UH fun _=>N6 (by simp) fun _=>rfl
theorem aJ {c:AB} (hf:EL c):KP c=some (MD c):=by
 unfold KP MD
 rw [jO hf,bs,show MR c=some (SH c) from F4 (SizeOf.sizeOf c) fun n hn=>Wf _ c (Nat.le_refl _) n hn,bs]
 exact UH fun _=>N6 (by simp) fun _=>rfl
theorem Qj (g:Graph):CU g≠9:=by
 unfold CU
 split
 ·decide
 ·split
  ·decide
  ·split <;> decide
theorem Ol {t:AD} {p:Pattern} (ht:(BA t).2=0) (h:I3 t p=0∨I3 t p=9):0<=p.Vars∧p.Vars<=12:=by
 have hg:=Qj p.Graph
 unfold I3 at h
 rw [if_neg (by simp [ht])] at h
 split at h
 ·omega
 ·split at h
  ·omega
  ·split at h
   ·omega
   ·omega
def MK (t:AD) (q:Pattern) (v:Int):Int:=if I3 t q≠9 then I3 t q else if anyR (fun i=>!Jh q i) v q.Vars=true then 9 else 0
theorem kO {α:Type} {P:Prop} [Decidable P] {v:α} {X:Option α} {Y:α} (h:P->X=some Y):(if (!decide P)=true then some v else X)=some (if ¬ P then v else Y):=by
 by_cases hp:P
 ·simp [hp,h hp]
 ·simp [hp]
theorem jH {t:AD} (hf:BU t) (ht:(BA t).2=0) {q:Pattern} {v:Int} (h0:0<=v) (h1:v<=q.Vars):D5 t q v=some (MK t q v):=by
 unfold D5 MK
 rw [SJ hf,bs]
 refine kO fun h9=>?_
 have hv:=Ol ht (.inr h9)
 rw [ON (c:=fun i=>(if (!Jh q i)=true then some () else none).map fun _=>.inr 9) (a:=v) (b:=q.Vars) h1]
 ·rw [Me,NJ]
  cases anyR (fun i=>!Jh q i) v q.Vars <;> rfl
 ·intro i i1 i2 _
  rw [if_pos (by simpa using i2),show (fun y0=>Hq y0 i)=(fun y=>some (decide (y.Term.Var=i))) from rfl,Zh,bs,show (q.Slots.any fun y=>decide (y.Term.Var=i))=Jh q i from rfl,h9,BF (by omega) (by omega)]
  cases Jh q i <;> rfl
 ·rw [if_neg (by simp)]
theorem aI (p:Pattern) (v:Int):LN p v=some (Jh p v):=Y6 p v
theorem jL {t:AD} (hf:BU t) (q:Pattern) (v:Int):KS t v q=some (if q.Vars<v then 20 else MK t q v):=by
 unfold KS MK
 refine N6 (by simp) fun _=>?_
 rw [VT hf,bs]
 refine kO fun h9=>?_
 rw [h9,B8 (fun i=>!Jh q i) 9]
 ·cases anyR (fun i=>!Jh q i) v q.Vars <;> rfl
 ·intro i i1 i2 _
  rw [aI,bs,Iz]
def Ht:Nat->AD->Pattern->AB->Int
 | 0,_,_,_=>0
 | N+1,t,p,c=>
  if c.Kind=5 then
   if c.Pattern.Vars<p.Vars then 20 else if MK t c.Pattern p.Vars≠0 then MK t c.Pattern p.Vars else
   if MN p.Graph c.Pattern.Graph c.Map≠0 then MN p.Graph c.Pattern.Graph c.Map else if N1 c.Map=false then 1 else
   (fst (fun i=>nz (Ht N t c.Pattern (AA c.Kids i))) 0 c.Kids.length).getD 0
  else (fst (fun i=>nz (Ht N t p (AA c.Kids i))) 0 c.Kids.length).getD 0
theorem Xm {t:AD} (ht:(BA t).2=0) {q:Pattern} {v:Int} (h:MK t q v=0):0<=q.Vars:=by
 unfold MK at h
 split at h
 ·exact (Ol ht (.inl h)).1
 ·rename_i h9
  exact (Ol ht (.inr (Classical.not_not.1 h9))).1
theorem WT {t:AD} (hf:BU t) (ht:(BA t).2=0):∀ (N:Nat) (c:AB) (p:Pattern),0<=p.Vars->SizeOf.sizeOf c<=N->∀ n,N<=n->CA n t p c=some (Ht N t p c)
 | 0,c,p,_,h,_,_=>by have:=GG c; omega
 | N+1,c,p,hp,h,n,hn=>by
  obtain ⟨n,rfl⟩:∃ m,n=m+1:=⟨n - 1,by omega⟩
  rw [CA,Ht]
  have hkids:∀ q:Pattern,0<=q.Vars->(thenR (forR (ρ:=Int) (fun (i0:Int) (_:Unit)=>
    (AH c.Kids i0).bind fun x55=>
    (CA n t q x55).bind fun x60=>
    if (!decide (x60=0))=true then
    some (.ret x60)
    else
    some (.next ())) 0 (c.Kids.length:Int) ()) (fun _=>
    some 0) (fun v0=>some v0))=some ((fst (fun i=>nz (Ht N t q (AA c.Kids i))) 0 c.Kids.length).getD 0):=by
   intro q hq
   rw [CF (fun i=>nz (Ht N t q (AA c.Kids i))),F9]
   intro i i1 i2 _
   have:=G6 (AT (l:=c.Kids) i1 i2)
   rw [AG i1 i2,bs,WT hf ht N _ q hq (by omega) n (by omega),bs,OF]
  by_cases h5:c.Kind=5
  ·rw [if_pos (by simpa using h5),if_pos h5]
   refine N6 (by simp) fun hv=>?_
   rw [jH hf ht hp (by omega),bs]
   refine HC fun hi=>?_
   rw [Y1,bs]
   refine HC fun hm=>?_
   rw [jG hm,bs]
   exact UH fun _=>hkids _ (Xm ht hi)
  ·rw [if_neg (by simpa using h5),if_neg h5]
   exact hkids p hp
theorem Wg {t:AD} (hf:BU t):∀ (N:Nat) (c:AB) (p:Pattern),SizeOf.sizeOf c<=N->∀ n,N<=n->FV n t p c=some (Ht N t p c)
 | 0,c,p,h,_,_=>by have:=GG c; omega
 | N+1,c,p,h,n,hn=>by
  obtain ⟨n,rfl⟩:∃ m,n=m+1:=⟨n - 1,by omega⟩
  rw [FV,Ht]
  have hkids:∀ q:Pattern,(thenR (forR (ρ:=Int) (fun (i0:Int) (_:Unit)=>
    (AH c.Kids i0).bind fun x55=>
    (FV n t q x55).bind fun x60=>
    if (!decide (x60=0))=true then
    some (.ret x60)
    else
    some (.next ())) 0 (c.Kids.length:Int) ()) (fun _=>
    some 0) (fun v0=>some v0))=some ((fst (fun i=>nz (Ht N t q (AA c.Kids i))) 0 c.Kids.length).getD 0):=by
   intro q
   rw [CF (fun i=>nz (Ht N t q (AA c.Kids i))),F9]
   intro i i1 i2 _
   have:=G6 (AT (l:=c.Kids) i1 i2)
   rw [AG i1 i2,bs,Wg hf N _ q (by omega) n (by omega),bs,OF]
  by_cases h5:c.Kind=5
  ·rw [if_pos (by simpa using h5),if_pos h5,jL hf,bs]
   by_cases hv:c.Pattern.Vars<p.Vars
   ·simp [hv]
   ·simp only [if_neg hv]
    refine HC fun hi=>?_
    rw [Y4,bs]
    refine HC fun hm=>?_
    rw [jK hm,bs]
    exact UH fun _=>hkids _
  ·rw [if_neg (by simpa using h5),if_neg h5]
   exact hkids p
noncomputable def K8 (t:AD) (p:Pattern) (c:AB):Int:=if I3 t p≠0 then I3 t p else if MD c≠0 then MD c else Ht (SizeOf.sizeOf c) t p c
theorem cG {t:AD} (hf:BU t) (ht:(BA t).2=0) (p:Pattern) {c:AB} (hc:EL c):DW t p c=some (K8 t p c):=by
 unfold DW K8
 rw [SJ hf,bs]
 refine HC fun h=>?_
 rw [Z8 hc,bs,Option.bind_fun_some]
 exact HC fun _=>F4 (SizeOf.sizeOf c) fun n hn=>WT hf ht _ c p (Ol ht (.inl h)).1 (Nat.le_refl _) n hn
theorem WZ {t:AD} (hf:BU t) (p:Pattern) {c:AB} (hc:EL c):JS t p c=some (K8 t p c):=by
 unfold JS K8
 rw [VT hf,bs]
 refine HC fun h=>?_
 rw [aJ hc,bs,Option.bind_fun_some]
 exact HC fun _=>F4 (SizeOf.sizeOf c) fun n hn=>Wg hf _ c p (Nat.le_refl _) n hn
end Go.Sf.Sc
namespace Go.Sf.Sc
open Go Go.Sf
def leafB (t:AD) (l:List Int):Bool:=!(l.any fun k=>t.Nodes.any fun n=>decide (n.Parent=k))
end Go.Sf.Sc
namespace Go.Sf
theorem Pt {ρ:Type} {f:Int->Option (CD Int ρ)} (p:Int->Bool) (v:ρ) {a b:Int} (hab:a<=b) (h:∀ i,a<=i->i<b->f i=some (if p i=true then .ret v else .next (i+1))) (hb:f b=some (.brk b)):IT f a=some (if anyR p a b=true then .inr v else .inl b):=by
 rw [ON (c:=fun i=>(if p i=true then some () else none).map fun _=>.inr v) hab]
 ·rw [Me,NJ]
  cases anyR p a b <;> rfl
 ·intro i h1 h2 _
  rw [h i h1 h2]
  cases p i <;> rfl
 ·exact hb
theorem Mf {α:Type} {e:α->TV} {n:Nat} {l:List α} (h:TV.Sm (.list n (l.map e))):(l.length:Int)<=140737488351232∧∀ x∈l,(e x).Sm:=by
 simp only [TV.Sm,List.length_map] at h
 refine ⟨by have:=h.1; unfold reachBytes at this; omega,fun x hx=>Pq.1 h.2 _ (List.mem_map.2 ⟨x,hx,rfl⟩)⟩
end Go.Sf
namespace Go.Sf.Sc
open Go Go.Sf
def SV (a:Attr):Bool:=(decide (40<(a.Name.size:Int))||decide (25<(a.Names.length:Int)))||anyR (fun i=>decide (40<((AA a.Names i).size:Int))) 0 a.Names.length
theorem XW {a:Attr} (h:SV a=false):P6 a:=by
 unfold SV at h
 simp only [Bool.or_eq_false_iff,decide_eq_false_iff_not,FE] at h
 refine ⟨by omega,by omega,fun x hx=>?_⟩
 obtain ⟨i,i1,i2,rfl⟩:=E9 hx
 have:=h.2 i i1 i2
 omega
theorem RU {t:AD} (hs:(AP t).Sm):∃ b,Ku t=some b∧(b=true->BU t):=by
 have hs':TV.Sms [_,_]:=hs
 obtain ⟨hn,hn2⟩:=Mf (e:=GC) hs'.1
 unfold Ku
 by_cases hl:20<t.Nodes.length∨30<t.Edges.length
 ·rw [if_pos (by simp; omega)]
  exact ⟨false,rfl,fun h=>by cases h⟩
 rw [if_neg (by simp; omega)]
 rcases Sp (f:=(fun (i0:Int) (s0:Int)=>
 (AH t.Nodes i0).bind fun x30=>
 (if (decide (30<(A3 (s0+(x30.Attrs.length:Int)))))=true then some true else ((AH t.Nodes i0).bind fun x41=>
 some (decide (40<(x41.Name.size:Int))))).bind fun x46=>
 if x46=true then
 some (CD.ret false)
 else
 thenR (IT (ρ:=Bool) (fun (s2:Int)=>
 (AH t.Nodes i0).bind fun x51=>
 if (decide (s2<(x51.Attrs.length:Int)))=true then
 (AH t.Nodes i0).bind fun x61=>
 (AH x61.Attrs s2).bind fun x65=>
 if ((decide (40<(x65.Name.size:Int)))||(decide (25<(x65.Names.length:Int))))=true then
 some (.ret false)
 else
 thenR (IT (ρ:=Bool) (fun (s4:Int)=>
 if (decide (s4<(x65.Names.length:Int)))=true then
 (AH x65.Names s4).bind fun x87=>
 if (decide (40<(x87.size:Int)))=true then
 some (.ret false)
 else
 some (.next (A3 (s4+1)))
 else
 some (.brk s4)) 0) (fun s4=>
 some (.next (A3 (s2+1)))) (fun v4=>some (.ret v4))
 else
 some (.brk s2)) 0) (fun s2=>
 some (.next (A3 (s0+(x30.Attrs.length:Int))))) (fun v2=>some (.ret v2))))
  (fun i s=>0<=s∧s<=30∧∀ j,0<=j->j<i->((AA t.Nodes j).Name.size:Int)<=40∧(AA t.Nodes j).Attrs.length<=30∧∀ a∈(AA t.Nodes j).Attrs,P6 a) (fun _=>False) (fun r=>r=false) (a:=0) (b:=t.Nodes.length) (s:=0) (by omega) ⟨by omega,by omega,fun j h1 h2=>by omega⟩ (fun i s i1 i2 hI=>by
   have hx:=hn2 _ (AT (l:=t.Nodes) i1 i2)
   have hx':TV.Sms [_,_,_,_]:=hx
   obtain ⟨ha,ha2⟩:=Mf (e:=HK) hx'.2.2.2.1
   obtain ⟨hI1,hI2,hI3⟩:=hI
   have hw:A3 (s+(AA t.Nodes i).Attrs.length)=s+(AA t.Nodes i).Attrs.length:=BF (by omega) (by omega)
   simp only [AG i1 i2,bs,hw,PQ]
   by_cases hc:30<s+(AA t.Nodes i).Attrs.length∨40<((AA t.Nodes i).Name.size:Int)
   ·rw [if_pos (by simpa using hc)]
    exact .inr (.inr ⟨_,rfl,rfl⟩)
   rw [if_neg (by simpa using hc)]
   rw [Pt (fun j=>SV (AA (AA t.Nodes i).Attrs j)) false (b:=(AA t.Nodes i).Attrs.length) (by omega)]
   ·cases hb:anyR (fun j=>SV (AA (AA t.Nodes i).Attrs j)) 0 (AA t.Nodes i).Attrs.length
    ·refine .inl ⟨_,rfl,by omega,by omega,fun j j1 j2=>?_⟩
     by_cases hj:j=i
     ·subst hj
      refine ⟨by omega,by omega,fun a ha=>?_⟩
      obtain ⟨k,k1,k2,rfl⟩:=E9 ha
      exact XW (FE.1 hb k k1 k2)
     ·exact hI3 j j1 (by omega)
    ·exact .inr (.inr ⟨_,rfl,rfl⟩)
   ·intro j j1 j2
    rw [if_pos (by simpa using j2),AG j1 j2,bs]
    have hy:=ha2 _ (AT (l:=(AA t.Nodes i).Attrs) j1 j2)
    have hy':TV.Sms [_,_,_,_]:=hy
    obtain ⟨hm,_⟩:=Mf (e:=eS) hy'.2.2.2.1
    unfold SV
    cases h1:(decide (40<((AA (AA t.Nodes i).Attrs j).Name.size:Int))||decide (25<((AA (AA t.Nodes i).Attrs j).Names.length:Int)))
    ·rw [if_neg (by decide),Pt (fun k=>decide (40<((AA (AA (AA t.Nodes i).Attrs j).Names k).size:Int))) false (b:=(AA (AA t.Nodes i).Attrs j).Names.length) (by omega)]
     ·cases anyR (fun k=>decide (40<((AA (AA (AA t.Nodes i).Attrs j).Names k).size:Int))) 0 (AA (AA t.Nodes i).Attrs j).Names.length
      ·rw [Bool.or_false,BF (show -9223372036854775808<=j+1 by omega) (by omega)]; rfl
      ·rfl
     ·intro k k1 k2
      rw [if_pos (by simpa using k2),AG k1 k2,bs,BF (show -9223372036854775808<=k+1 by omega) (by omega),Iz]
     ·rw [if_neg (by simp)]
    ·rfl
   ·rw [if_neg (by simp)]) with ⟨s',h1,h2⟩ | ⟨r,h1,h2⟩
 ·rw [h1]
  rcases h2 with h2 | h2
  ·rw [DQ,B8 (fun i=>decide (40<((AA t.Edges i).Name.size:Int))) false]
   ·cases hb:anyR (fun i=>decide (40<((AA t.Edges i).Name.size:Int))) 0 t.Edges.length
    ·refine ⟨true,rfl,fun _=>⟨by omega,by omega,fun n hn=>?_,fun n hn=>?_,fun n hn=>?_,fun e he=>?_⟩⟩
     ·obtain ⟨k,k1,k2,rfl⟩:=E9 hn
      exact (h2.2.2 k k1 k2).1
     ·obtain ⟨k,k1,k2,rfl⟩:=E9 hn
      exact (h2.2.2 k k1 k2).2.1
     ·obtain ⟨k,k1,k2,rfl⟩:=E9 hn
      exact (h2.2.2 k k1 k2).2.2
     ·obtain ⟨k,k1,k2,rfl⟩:=E9 he
      have:=FE.1 hb k k1 k2
      simpa using this
    ·exact ⟨false,rfl,fun h=>by cases h⟩
   ·intro i i1 i2 _
    rw [AG i1 i2,bs,Iz]
  ·exact h2.elim
 ·rw [h1]
  subst h2
  exact ⟨false,rfl,fun h=>by cases h⟩
theorem UN (p:Pattern):∃ b,Kw p=some b∧(b=true->PB p):=by
 refine ⟨_,rfl,fun h=>?_⟩
 simp only [Bool.and_eq_true,decide_eq_true_eq] at h
 exact ⟨by omega,by omega,by omega,by omega⟩
theorem Zp {a b:Int} (ha:0<=a) (ha2:a<=140737488351232) (hb:0<=b) (hb2:b<=140737488351232):A3 (a+b)=a+b:=BF (by omega) (by omega)
theorem Zo {m:Morphism} (hs:(BJ m).Sm):∃ b,NS m 140=some b∧(b=true->XL m):=by
 have hs':TV.Sms [_,_]:=hs
 have h1:=(Mf (e:=eI) hs'.1).1
 have h2:=(Mf (e:=eI) hs'.2.1).1
 refine ⟨_,rfl,fun h=>?_⟩
 rw [Zp (by omega) h1 (by omega) h2] at h
 simp only [decide_eq_true_eq] at h
 exact ⟨by omega,by omega⟩
theorem Zj {c:AB} (h:(AJ c).Sm):(BJ c.Map).Sm∧(c.Kids.length:Int)<=140737488351232∧∀ k∈c.Kids,(AJ k).Sm:=by
 have h':TV.Sms [_,_,_,_,_,_,_,_,_]:=h
 obtain ⟨_,h2,h3,h4,_⟩:=h'
 rw [LA] at h2
 obtain ⟨k1,k2⟩:=Mf h2
 exact ⟨⟨h3,h4,trivial⟩,k1,k2⟩
end Go.Sf.Sc
