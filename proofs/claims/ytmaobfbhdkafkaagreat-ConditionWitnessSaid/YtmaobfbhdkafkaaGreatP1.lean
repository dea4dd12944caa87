/- Plain lemmas: what the functions of the program and of the reference compute. -/
import Derived.Test.YtmaobfbhdkafkaaGreatSfRead
import Derived.Test.YtmaobfbhdkafkaaGreatFns
import Derived.Test.YtmaobfbhdkafkaaGreatSfPl
set_option maxRecDepth 100000
namespace Go.Sf
theorem Rc {ρ τ:Type} {d:Int->Option ρ} {g:ρ->τ}:∀ (n:Nat) (a:Int),FX (fun i=>(d i).map g) n a=(FX d n a).map g
 | 0,_=>rfl
 | n+1,a=>by
  rw [FX,FX]
  cases d a with
  | some r=>rfl
  | none=>exact Rc n (a+1)
theorem Mc {ρ τ:Type} {d:Int->Option ρ} {g:ρ->τ} {a b:Int}:fst (fun i=>(d i).map g) a b=(fst d a b).map g:=Rc _ _
theorem Qm {ρ:Type} {d:Int->Option ρ} {r:ρ}:∀ {n:Nat} {a:Int},FX d n a=some r->∃ i,a<=i∧i<a+n∧d i=some r∧∀ j,a<=j->j<i->d j=none
 | 0,_,h=>by cases h
 | n+1,a,h=>by
  rw [FX] at h
  cases hd:d a with
  | some r'=>
   rw [hd] at h
   exact ⟨a,Int.le_refl _,by omega,by rw [hd]; exact h,fun j h1 h2=>by omega⟩
  | none=>
   rw [hd] at h
   obtain ⟨i,h1,h2,h3,h4⟩:=Qm h
   refine ⟨i,by omega,by omega,h3,fun j k1 k2=>?_⟩
   by_cases hj:j=a
   ·subst hj; exact hd
   ·exact h4 j (by omega) k2
theorem D8 {ρ:Type} {d:Int->Option ρ} {r:ρ} {a b:Int} (h:fst d a b=some r):∃ i,a<=i∧i<b∧d i=some r∧∀ j,a<=j->j<i->d j=none:=by
 obtain ⟨i,h1,h2,h3,h4⟩:=Qm h
 exact ⟨i,h1,by omega,h3,h4⟩
def KB (p:Int->Bool) (s:ByteArray):Int:=(fst (fun i=>if p (bt s i) then none else some i) 0 s.size).getD s.size
theorem PZ (p:Int->Bool) (s:ByteArray):0<=KB p s∧KB p s<=s.size∧(∀ j,0<=j->j<KB p s->p (bt s j)=true)∧(KB p s<s.size->p (bt s (KB p s))=false):=by
 unfold KB
 cases h:fst (fun i=>if p (bt s i) then none else some i) 0 s.size with
 | none=>
  rw [DQ] at h
  simp only [Option.getD]
  refine ⟨by omega,by omega,fun j h1 h2=>?_,fun h1=>by omega⟩
  have:=h j h1 h2
  cases hp:p (bt s j)
  ·simp [hp] at this
  ·rfl
 | some r=>
  obtain ⟨i,h1,h2,h3,h4⟩:=D8 h
  have hi:p (bt s i)=false∧i=r:=by
   cases hp:p (bt s i) <;> simp [hp] at h3
   exact ⟨rfl,h3⟩
  obtain ⟨hi,rfl⟩:=hi
  simp only [Option.getD]
  refine ⟨h1,by omega,fun j k1 k2=>?_,fun _=>hi⟩
  have:=h4 j k1 k2
  cases hp:p (bt s j)
  ·simp [hp] at this
  ·rfl
theorem Ta {s:ByteArray} (h:s≠⟨#[]⟩):0<s.size:=by
 rcases Nat.eq_zero_or_pos s.size with h0 | h0
 ·exfalso; apply h
  cases s with | mk d=>congr 1; exact Array.eq_empty_of_size_eq_zero h0
 ·exact h0
end Go.Sf
namespace Go.Sf.Sc
open Go Go.Sf
def GE (c:Int):Bool:=((decide (97<=c))&&(decide (c<=122)))||((decide (65<=c))&&(decide (c<=90)))
def digitB (c:Int):Bool:=(decide (48<=c))&&(decide (c<=57))
def NH (c:Int):Bool:=GE c||digitB c||decide (c=95)
theorem TH (c:Int):Ju c=some (GE c):=rfl
theorem RI (c:Int):JU c=some (digitB c):=rfl
theorem TP (c:Int):Jn c=some (GE c):=rfl
theorem Ue (c:Int):IL c=some (digitB c):=rfl
theorem cM (c:Int):LR c=some (NH c):=by
 unfold LR NH
 rw [TH,bs,RI]
 cases GE c <;> cases digitB c <;> rfl
theorem VM {s:ByteArray} (hs:(s.size:Int)<=4611686018427387904) {ok:Int->Option Bool} {p:Int->Bool} (h:∀ c,ok c=some (p c)):HY s ok=some (KB p s):=by
 unfold HY
 rw [Nz (c:=fun i=>(if p (bt s i) then none else some i).map .inl) (a:=0) (b:=s.size) (by omega)]
 ·rw [Mc]
  unfold KB
  cases fst (fun i=>if p (bt s i)=true then none else some i) 0 s.size <;> rfl
 ·intro i h1 h2 _
  simp only [h2,decide_true,if_true,Mj h1 h2,bs,h]
  cases p (bt s i)
  ·simp [HQ]
  ·simp [HQ,BG (show -9223372036854775808<=i+1 by omega) (by omega)]
 ·simp
def F7 (s:ByteArray):Bool:=decide (0<s.size)&&GE (bt s 0)&&decide (s.size<=20)&&decide (KB NH s=s.size)
theorem RH (l:List ByteArray) (v:ByteArray):∃ k,GK l v=some k∧(0<=k↔v∈l):=by
 unfold GK
 rw [CG (fun i=>if (v==AA l i)=true then some i else none)]
 ·cases h:fst (fun i=>if (v==AA l i)=true then some i else none) 0 l.length with
  | none=>
   rw [DQ] at h
   refine ⟨-1,rfl,by omega,fun hm=>?_⟩
   obtain ⟨i,h1,h2,h3⟩:=FE hm
   have:=h i h1 h2
   rw [h3,if_pos (beq_self_eq_true v)] at this
   cases this
  | some k=>
   obtain ⟨i,h1,h2,h3,_⟩:=D8 h
   have h4:(v==AA l i)=true∧i=k:=by
    by_cases hv:(v==AA l i)=true
    ·rw [if_pos hv] at h3; exact ⟨hv,by simpa using h3⟩
    ·rw [if_neg hv] at h3; cases h3
   obtain ⟨h4,rfl⟩:=h4
   refine ⟨i,rfl,fun _=>?_,fun _=>h1⟩
   rw [eq_of_beq h4]; exact AO h1 h2
 ·intro i h1 h2 _
  simp only [AG h1 h2,bs]
  split <;> rfl
theorem MM (l:List ByteArray) (v:ByteArray):D4 l v=some (l.contains v):=by
 unfold D4
 obtain ⟨k,h1,h2⟩:=RH l v
 rw [h1,bs]
 congr 1
 rw [Bool.eq_iff_iff,decide_eq_true_eq,h2,List.contains_iff_mem]
theorem cK {s:ByteArray} (h0:0<s.size) (hs:(s.size:Int)<=4611686018427387904):∃ k n e,IG s=some (k,n,e)∧(((decide (e=0))&&(decide (k=1)))&&(decide (n=(s.size:Int))))=F7 s:=by
 have hr:=PZ NH s
 unfold IG F7
 simp only [Mj (Int.le_refl 0) (show (0:Int)<s.size by omega),bs,TH,RI,VM hs cM,VM hs RI,h0,decide_true,Bool.true_and]
 by_cases hl:GE (bt s 0)=true
 ·rw [if_pos hl]
  by_cases h20:20<KB NH s
  ·refine ⟨0,0,3,by simp [h20],?_⟩
   simp [hl]
   intro h1 h2
   omega
  ·refine ⟨1,_,0,by rw [if_neg (by simpa using h20)],?_⟩
   simp only [hl,decide_true,Bool.true_and]
   rw [Bool.eq_iff_iff]
   simp only [decide_eq_true_eq,Bool.and_eq_true]
   omega
 ·rw [if_neg hl]
  have hl':GE (bt s 0)=false:=by simpa using hl
  rw [hl',Bool.false_and,Bool.false_and]
  by_cases hd:digitB (bt s 0)=true
  ·rw [if_pos hd]
   by_cases h9:9<KB digitB s
   ·exact ⟨0,0,3,by simp [h9],by simp⟩
   ·exact ⟨2,_,0,by rw [if_neg (by simpa using h9)],by simp⟩
  ·rw [if_neg hd]
   by_cases hq:bt s 0=34
   ·have hsz:=SE (s:=s) (a:=1) (b:=s.size) (by omega) (by omega) (by omega)
    have hq2:∀ c,J3 c=some (((decide (32<=c))&&(decide (c<=126)))&&(!decide (c=34))):=fun _=>rfl
    have hr2:=PZ (fun c=>((decide (32<=c))&&(decide (c<=126)))&&(!decide (c=34))) (s.extract (1:Int).toNat (s.size:Int).toNat)
    have hqq:∃ n e,G0 s=some (n,e):=by
     unfold G0
     rw [Kz (by omega) (by omega) (by omega),bs,VM (by omega) hq2,bs]
     rw [BG (by omega) (by omega)]
     by_cases he:1+KB (fun c=>((decide (32<=c))&&(decide (c<=126)))&&(!decide (c=34))) (s.extract (1:Int).toNat (s.size:Int).toNat)=s.size
     ·refine ⟨0,2,?_⟩
      simp only [he,decide_true,if_true,bs]
     ·simp only [he,decide_false,Bool.false_eq_true,if_false]
      rw [Mj (by omega) (by omega)]
      simp only [bs]
      split
      ·exact ⟨_,_,rfl⟩
      ·split
       ·exact ⟨_,_,rfl⟩
       ·exact ⟨_,_,rfl⟩
    obtain ⟨n,e,hne⟩:=hqq
    refine ⟨3,n,e,by rw [if_pos (by simpa using hq),hne]; rfl,by simp⟩
   ·rw [if_neg (by simpa using hq)]
    have hp:∃ b,LQ s=some b:=by
     unfold LQ
     by_cases h2:2<=(s.size:Int)
     ·rw [if_pos (by simpa using h2),Kz (by omega) (by omega) h2]
      simp only [bs,MM]
      exact ⟨_,rfl⟩
     ·rw [if_neg (by simpa using h2)]
      exact ⟨_,rfl⟩
    obtain ⟨b,hb⟩:=hp
    rw [hb,bs]
    cases b
    ·simp only [Bool.false_eq_true,if_false,strings_IndexByte,bs]
     split
     ·exact ⟨_,_,_,rfl,rfl⟩
     ·exact ⟨_,_,_,rfl,rfl⟩
    ·exact ⟨_,_,_,rfl,rfl⟩
theorem Om {s:ByteArray} (hs:(s.size:Int)<=4611686018427387904):EO s=some (F7 s):=by
 unfold EO IR
 simp only [show decide ((1:Int)=3)=false from rfl,Bool.false_eq_true,if_false,bs]
 by_cases he:s=⟨#[]⟩
 ·subst he; rfl
 ·rw [if_neg (by simpa using he)]
  obtain ⟨k,n,e,h1,h2⟩:=cK (Ta he) hs
  rw [h1]
  simp only [bs]
  rw [h2]
theorem cY {s:ByteArray} (hs:(s.size:Int)<=4611686018427387904) (digits:Bool):∃ n,L6 s 0 digits=some n∧0<=n∧n<=s.size∧(digits=false->n=KB NH s):=by
 have hr:=PZ (fun c=>digitB c||(!digits&&(GE c||decide (c=95)))) s
 refine ⟨KB (fun c=>digitB c||(!digits&&(GE c||decide (c=95)))) s,?_,hr.1,hr.2.1,fun hd=>?_⟩
 ·unfold L6
  rw [Nz (c:=fun i=>(if (digitB (bt s i)||(!digits&&(GE (bt s i)||decide (bt s i=95)))) then none else some i).map .inl) (a:=0) (b:=s.size) (by omega)]
  ·rw [Mc]
   unfold KB
   cases fst (fun i=>if (digitB (bt s i)||(!digits&&(GE (bt s i)||decide (bt s i=95))))=true then none else some i) 0 s.size <;> rfl
  ·intro i h1 h2 _
   have hw:A1 (0+i)=i:=by rw [BG (by omega) (by omega)]; omega
   simp only [hw,h2,decide_true,if_true,Mj h1 h2,bs,Ue,TP]
   cases digitB (bt s i) <;> cases digits <;> cases GE (bt s i) <;> cases (decide (bt s i=95)) <;> simp [HQ,BG (show -9223372036854775808<=i+1 by omega) (by omega)]
  ·have hw:A1 (0+(s.size:Int))=s.size:=by rw [BG (by omega) (by omega)]; omega
   simp only [hw,Int.lt_irrefl,decide_false,Bool.false_eq_true,if_false,bs]
 ·subst hd
  congr 1
  funext c
  unfold NH
  cases GE c <;> cases digitB c <;> cases decide (c=95) <;> rfl
theorem X3 {s:ByteArray} (h0:0<s.size) (hs:(s.size:Int)<=4611686018427387904):∃ n,Jo s 0=some n∧(n=0∨(2<=n∧n<=s.size)):=by
 unfold Jo
 rw [Nz (c:=fun i=>if decide (bt s i=34)=true then some (Sum.inr (i+1):Int ⊕ Int) else if (decide (bt s i<32)||decide (126<bt s i))=true then some (Sum.inr 0) else none) (a:=1) (b:=s.size) (by omega)]
 ·cases h:fst (fun i=>if decide (bt s i=34)=true then some (Sum.inr (i+1):Int ⊕ Int) else if (decide (bt s i<32)||decide (126<bt s i))=true then some (Sum.inr 0) else none) 1 s.size with
  | none=>exact ⟨0,rfl,.inl rfl⟩
  | some r=>
   obtain ⟨i,h1,h2,h3,_⟩:=D8 h
   split at h3
   ·cases h3; exact ⟨_,rfl,.inr (by omega)⟩
   ·split at h3
    ·cases h3; exact ⟨_,rfl,.inl rfl⟩
    ·cases h3
 ·intro i h1 h2 _
  have hw:A1 (0+i)=i:=by rw [BG (by omega) (by omega)]; omega
  simp only [hw,h2,decide_true,if_true,Mj (show 0<=i by omega) h2,bs,BG (show -9223372036854775808<=i+1 by omega) (by omega)]
  split
  ·rfl
  ·split <;> rfl
 ·have hw:A1 (0+(s.size:Int))=s.size:=by rw [BG (by omega) (by omega)]; omega
  simp only [hw,Int.lt_irrefl,decide_false,Bool.false_eq_true,if_false]
theorem jL {s:ByteArray} (h0:0<s.size) (hs:(s.size:Int)<=4611686018427387904):∃ t n e,L5 s 0=some (t,n,e)∧(((decide (e=0))&&(decide (n=(s.size:Int))))&&(decide (t.Kind=1)))=F7 s:=by
 obtain ⟨m,hm1,hm2,hm3,hm4⟩:=cY hs (digitB (bt s 0))
 unfold L5 F7
 simp only [Mj (Int.le_refl 0) (show (0:Int)<s.size by omega),bs,TP,Ue,h0,decide_true,Bool.true_and,hm1]
 have hw:A1 (0+m)=m:=by rw [BG (by omega) (by omega)]; omega
 by_cases hl:GE (bt s 0)=true
 ·have hd:digitB (bt s 0)=false:=by
   unfold GE at hl; unfold digitB
   simp only [Bool.or_eq_true,Bool.and_eq_true,decide_eq_true_eq] at hl
   rw [Bool.and_eq_false_iff]
   simp only [decide_eq_false_iff_not]
   omega
  have hm:=hm4 hd
  subst hm
  simp only [hl,if_true,hd,Bool.false_eq_true,if_false,bs,hw]
  by_cases h20:20<KB NH s
  ·refine ⟨_,_,_,by rw [if_pos (by simpa using h20)],?_⟩
   rw [Bool.eq_iff_iff]
   simp only [decide_eq_true_eq,Bool.and_eq_true]
   omega
  ·rw [if_neg (by simpa using h20),Kz (Int.le_refl _) hm2 hm3]
   refine ⟨_,_,_,rfl,?_⟩
   rw [Bool.eq_iff_iff]
   simp only [decide_eq_true_eq,Bool.and_eq_true,true_and,and_true]
   omega
 ·have hl':GE (bt s 0)=false:=by simpa using hl
  simp only [hl',Bool.false_eq_true,if_false,bs,Bool.false_and,hw]
  by_cases hd:digitB (bt s 0)=true
  ·simp only [hd,if_true,bs]
   by_cases h9:9<m
   ·exact ⟨_,_,_,by rw [if_pos (by simpa using h9)],by simp⟩
   ·rw [if_neg (by simpa using h9),Kz (Int.le_refl _) hm2 hm3]
    exact ⟨_,_,_,rfl,by simp⟩
  ·have hd':digitB (bt s 0)=false:=by simpa using hd
   simp only [hd',Bool.false_eq_true,if_false,bs]
   by_cases hq:bt s 0=34
   ·obtain ⟨n,hn,hn2⟩:=X3 h0 hs
    rw [if_pos (by simpa using hq),hn,bs]
    rcases hn2 with rfl | hn2
    ·exact ⟨_,_,_,rfl,by simp⟩
    ·rw [if_neg (by simp; omega)]
     split
     ·exact ⟨_,_,_,rfl,by simp⟩
     ·have e1:A1 (0+1)=1:=by decide
      have e2:A1 (0+n)=n:=by rw [BG (by omega) (by omega)]; omega
      rw [e1,e2,BG (show -9223372036854775808<=n - 1 by omega) (by omega),Kz (by omega) (by omega) (by omega)]
      exact ⟨_,_,_,rfl,by simp⟩
   ·rw [if_neg (by simpa using hq)]
    unfold Ls
    rw [bs]
    generalize hL:([(⟨#[45,62]⟩:ByteArray),(⟨#[60,61]⟩:ByteArray),(⟨#[62,61]⟩:ByteArray),(⟨#[61,61]⟩:ByteArray),(⟨#[33,61]⟩:ByteArray),(⟨#[123]⟩:ByteArray),(⟨#[125]⟩:ByteArray),(⟨#[40]⟩:ByteArray),(⟨#[41]⟩:ByteArray),(⟨#[91]⟩:ByteArray),(⟨#[93]⟩:ByteArray),(⟨#[44]⟩:ByteArray),(⟨#[59]⟩:ByteArray),(⟨#[58]⟩:ByteArray),(⟨#[61]⟩:ByteArray),(⟨#[43]⟩:ByteArray),(⟨#[45]⟩:ByteArray),(⟨#[42]⟩:ByteArray),(⟨#[60]⟩:ByteArray),(⟨#[62]⟩:ByteArray),(⟨#[33]⟩:ByteArray),(⟨#[38]⟩:ByteArray),(⟨#[124]⟩:ByteArray),(⟨#[46]⟩:ByteArray),(⟨#[63]⟩:ByteArray)]:List ByteArray)=L
    have hsz:∀ x∈L,x.size<=2:=by subst hL; decide
    rcases Su (f:=(fun (i0:Int) (s0:FI)=>
      (AI L i0).bind fun x75=>
      (if (decide ((A1 (0+(x75.size:Int)))<=(s.size:Int)))=true then ((AI L i0).bind fun x88=>
      (sslc s 0 (A1 (0+(x88.size:Int)))).bind fun x92=>
      (AI L i0).bind fun x95=>
      some (x92==x95)) else some false).bind fun x98=>
      if x98=true then
      (AI L i0).bind fun x101=>
      (AI L i0).bind fun x106=>
      some (CE.ret (FI.mk 4 x101 0,(x106.size:Int),(0:Int)))
      else
      some (CE.next s0))) (fun _ s=>True) (fun _=>True) (fun r=>r.1.Kind=4) (a:=0) (b:=L.length) (s:=FI.mk 0 (⟨#[]⟩:ByteArray) 0) (by omega) trivial (fun i t h1 h2 _=>by
      have hx:=hsz _ (AO h1 h2)
      have hw2:A1 (0+((AA L i).size:Int))=(AA L i).size:=by rw [BG (by omega) (by omega)]; omega
      simp only [AG h1 h2,bs,hw2]
      by_cases hc:((AA L i).size:Int)<=s.size
      ·rw [if_pos (by simpa using hc),Kz (by omega) (by omega) hc]
       simp only [bs]
       split
       ·exact .inr (.inr ⟨_,rfl,rfl⟩)
       ·exact .inl ⟨_,rfl,trivial⟩
      ·rw [if_neg (by simpa using hc)]
       simp only [bs]
       exact .inl ⟨_,rfl,trivial⟩) with ⟨s',h1,_⟩ | ⟨r,h1,h2⟩
    ·rw [h1]; exact ⟨_,_,_,rfl,by simp⟩
    ·rw [h1]; exact ⟨_,_,_,rfl,by simp [h2]⟩
theorem Oq {s:ByteArray} (hs:(s.size:Int)<=4611686018427387904):Gw s=some (F7 s):=by
 unfold Gw Lr MW
 simp only [show decide ((1:Int)=3)=false from rfl,Bool.false_eq_true,if_false,bs]
 by_cases he:s=⟨#[]⟩
 ·subst he; rfl
 ·rw [if_neg (by simpa using he)]
  obtain ⟨t,n,e,h1,h2⟩:=jL (Ta he) hs
  rw [h1]
  simp only [bs]
  rw [h2]
end Go.Sf.Sc
namespace Go.Sf
variable {ρ β:Type}
def nz (e:Int):Option Int:=if e=0 then none else some e
theorem Nq (e:Int):(if (!decide (e=0))=true then some (CE.ret e) else some (CE.next ()))=some (NO (nz e)):=by
 unfold nz
 by_cases h:e=0 <;> simp [h,NO]
theorem bZ (b:Bool) (r:ρ):(if b=true then some (CE.ret r) else some (CE.next ()))=some (NO (if b=true then some r else none)):=by
 cases b <;> rfl
theorem DT {σ:Type} {s:σ} {k:σ->Option β} {kr:ρ->Option β}:thenR (some (.inl s)) k kr=k s:=rfl
theorem R7 {σ:Type} {r:ρ} {k:σ->Option β} {kr:ρ->Option β}:thenR (some (.inr r)) k kr=kr r:=rfl
theorem E7 (o:Option ρ) (k:Unit->Option β) (kr:ρ->Option β):thenR (some (Yq o)) k kr=match o with | none=>k () | some r=>kr r:=by
 cases o <;> rfl
theorem GD (o:Option Int):thenR (some (Yq o)) (fun _=>some 0) (fun v=>some v)=some (o.getD 0):=by
 cases o <;> rfl
theorem Sv {c:Int->Int} {a b:Int} (h:(fst (fun i=>nz (c i)) a b).getD 0=0):∀ i,a<=i->i<b->c i=0:=by
 have:fst (fun i=>nz (c i)) a b=none:=by
  cases hf:fst (fun i=>nz (c i)) a b with
  | none=>rfl
  | some r=>
   rw [hf] at h
   simp only [Option.getD] at h
   subst h
   obtain ⟨i,_,_,h3,_⟩:=D8 hf
   unfold nz at h3
   split at h3
   ·cases h3
   ·rename_i hn; simp at h3; exact (hn h3).elim
 rw [DQ] at this
 intro i h1 h2
 have:=this i h1 h2
 unfold nz at this
 split at this
 ·assumption
 ·cases this
theorem Mf {e:Int}:nz e=none↔e=0:=by
 unfold nz
 by_cases h:e=0 <;> simp [h]
theorem Sz {α:Type} [Inhabited α] {l:List α} {f:α->Option Bool} {p:α->Bool} (h:∀ x∈l,f x=some (p x)) :
  (thenR (forR (ρ:=Int) (fun (i0:Int) (_:Unit)=>(AI l i0).bind fun x14=>(f x14).bind fun x16=>if x16=true then some (.ret i0) else some (.next ())) 0 (l.length:Int) ()) (fun _=>some (-1)) (fun v0=>some v0)) =
   some ((fst (fun i=>if p (AA l i)=true then some i else none) 0 l.length).getD (-1)):=by
 rw [CG (fun i=>if p (AA l i)=true then some i else none)]
 ·rw [E7]; cases fst (fun i=>if p (AA l i)=true then some i else none) 0 l.length <;> rfl
 ·intro i h1 h2 _
  rw [AG h1 h2,bs,h _ (AO h1 h2),bs,bZ]
theorem Rk {α:Type} [Inhabited α] {l:List α} {p:α->Bool}:decide (0<=(fst (fun i=>if p (AA l i)=true then some i else none) 0 l.length).getD (-1))=l.any p:=by
 rw [KE,anyR]
 cases h:fst (fun i=>if p (AA l i)=true then some i else none) 0 l.length with
 | none=>
  rw [DQ] at h
  symm
  show Option.isSome _=false
  rw [Option.isSome_eq_false_iff,Option.isNone_iff_eq_none,DQ]
  intro i h1 h2
  have:=h i h1 h2
  by_cases hp:p (AA l i)=true
  ·rw [if_pos hp] at this; cases this
  ·rw [if_neg hp]
 | some k=>
  obtain ⟨i,h1,h2,h3,_⟩:=D8 h
  have h4:p (AA l i)=true∧i=k:=by
   by_cases hv:p (AA l i)=true
   ·rw [if_pos hv] at h3; exact ⟨hv,by simpa using h3⟩
   ·rw [if_neg hv] at h3; cases h3
  simp only [Option.getD]
  rw [decide_eq_true (show (0:Int)<=k by omega)]
  symm
  show Option.isSome _=true
  rw [Option.isSome_iff_ne_none,ne_eq,DQ]
  intro hn
  have:=hn i h1 h2
  rw [if_pos h4.1] at this
  cases this
theorem FC {α:Type} [Inhabited α] {l:List α} {f:α->Option Bool} {p:α->Bool} (h:∀ x∈l,f x=some (p x)) :
  ((thenR (forR (ρ:=Int) (fun (i0:Int) (_:Unit)=>(AI l i0).bind fun x14=>(f x14).bind fun x16=>if x16=true then some (.ret i0) else some (.next ())) 0 (l.length:Int) ()) (fun _=>some (-1)) (fun v0=>some v0)).bind fun x7=>some (decide (0<=x7)))=some (l.any p):=by
 rw [Sz h,bs,Rk]
end Go.Sf
namespace Go.Sf.Sc
open Go Go.Sf
instance:Inhabited Attr:=⟨⟨⟨#[]⟩,0,0,[]⟩⟩
instance:Inhabited CD:=⟨⟨⟨#[]⟩,0,false,[]⟩⟩
instance:Inhabited CN:=⟨⟨⟨#[]⟩,0,0,0,0,0,0⟩⟩
instance:Inhabited CW:=⟨⟨0,0,0⟩⟩
instance:Inhabited DP:=⟨⟨0,0,⟨0,0⟩⟩⟩
instance:Inhabited Test:=⟨⟨0,⟨0,0⟩,⟨0,0⟩⟩⟩
instance:Inhabited AB:=⟨⟨0,[],⟨[],[]⟩,⟨⟨[],[]⟩,[],0,[]⟩⟩⟩
theorem Sb {l:List Int} {f:Int->Option Bool} {p:Int->Bool} (h:∀ x∈l,f x=some (p x)):BH l f=some (l.any p):=FC h
theorem UG {l:List CW} {f:CW->Option Bool} {p:CW->Bool} (h:∀ x∈l,f x=some (p x)):BU l f=some (l.any p):=FC h
theorem Sa {l:List AB} {f:AB->Option Bool} {p:AB->Bool} (h:∀ x∈l,f x=some (p x)):B0 l f=some (l.any p):=FC h
theorem Tr {l:List CD} {p:CD->Bool}:CI l (fun x=>some (p x))=some (l.any p):=FC (fun _ _=>rfl)
theorem Tq {l:List CN} {p:CN->Bool}:CH l (fun x=>some (p x))=some (l.any p):=FC (fun _ _=>rfl)
theorem Za {l:List Attr} {p:Attr->Bool}:DA l (fun x=>some (p x))=some (l.any p):=FC (fun _ _=>rfl)
theorem Vv {l:List Int} {p:Int->Bool}:BH l (fun x=>some (p x))=some (l.any p):=FC (fun _ _=>rfl)
theorem Zb {l:List CW} {p:CW->Bool}:BU l (fun x=>some (p x))=some (l.any p):=FC (fun _ _=>rfl)
theorem Zc {l:List DP} {p:DP->Bool}:DB l (fun x=>some (p x))=some (l.any p):=FC (fun _ _=>rfl)
theorem bl (l:List Int) (v:Int):Hs l v=some ((fst (fun i=>if decide (v=AA l i)=true then some i else none) 0 l.length).getD (-1)):=by
 have:=Sz (l:=l) (f:=fun x=>some (decide (v=x))) (p:=fun x=>decide (v=x)) (fun _ _=>rfl)
 unfold Hs
 simpa only [bs] using this
theorem Sh (l:List Int) (v:Int):DE l v=some (l.any fun x=>decide (v=x)):=by
 unfold DE
 rw [bl,bs,Rk (p:=fun x=>decide (v=x))]
theorem Zf (l:List Bool) (v:Bool):GC l v=some (l.any fun x=>v==x):=by
 have:=FC (l:=l) (f:=fun x=>some (v==x)) (p:=fun x=>v==x) (fun _ _=>rfl)
 unfold GC IW
 simpa only [bs] using this
structure QA (a:Attr):Prop where
 name:(a.Name.size:Int)<=40
 names:a.Names.length<=25
 each:∀ x∈a.Names,(x.size:Int)<=40
structure BT (t:AD):Prop where
 nodes:t.Nodes.length<=20
 edges:t.Edges.length<=30
 name:∀ n∈t.Nodes,(n.Name.size:Int)<=40
 attrs:∀ n∈t.Nodes,n.Attrs.length<=30
 each:∀ n∈t.Nodes,∀ a∈n.Attrs,QA a
 ename:∀ e∈t.Edges,(e.Name.size:Int)<=40
def par (t:AD) (i:Int):Int:=(AA t.Nodes i).Parent
def F3 (t:AD) (k:Int):Prop:=∀ i,0<=i->i<k->-1<=par t i∧par t i<i
def CC (t:AD):Nat->Int->List Attr
 | 0,_=>[]
 | n+1,a=>if a<0 then [] else CC t n (par t a)++(AA t.Nodes a).Attrs
def A8 (t:AD) (a:Int):List Attr:=CC t (a+1).toNat a
theorem H4 {t:AD} {n:Nat} {a:Int} (h:a<0):CC t n a=[]:=by
 cases n with
 | zero=>rfl
 | succ n=>rw [CC,if_pos h]
theorem Kn {t:AD} {k:Int} (hp:F3 t k):∀ (n m:Nat) (a:Int),a<k->a<n->a<m->CC t n a=CC t m a
 | n,m,a,hk,hn,hm=>by
  by_cases h0:a<0
  ·rw [H4 h0,H4 h0]
  ·cases n with
   | zero=>omega
   | succ n=>
    cases m with
    | zero=>omega
    | succ m=>
     rw [CC,CC,if_neg h0,if_neg h0]
     have:=hp a (by omega) hk
     rw [Kn hp n m (par t a) (by omega) (by omega) (by omega)]
theorem K3 {t:AD} (hf:BT t) {k:Int} (hk:k<=t.Nodes.length) (hp:F3 t k):∀ (n:Nat) (a:Int),a<k->((CC t n a).length:Int)<=30*n
 | 0,_,_=>by simp [CC]
 | n+1,a,ha=>by
  rw [CC]
  split
  ·simp; omega
  ·rename_i h0
   have h1:=hp a (by omega) ha
   have h2:=K3 hf hk hp n (par t a) (by omega)
   have h3:=hf.attrs _ (AO (l:=t.Nodes) (show 0<=a by omega) (by omega))
   rw [List.length_append]
   omega
theorem QY {t:AD} (hf:BT t) {k:Int} (hk:k<=t.Nodes.length) (hp:F3 t k):∀ (n:Nat) (a:Int),a<k->∀ x∈CC t n a,QA x
 | 0,_,_=>by simp [CC]
 | n+1,a,ha=>by
  rw [CC]
  split
  ·simp
  ·rename_i h0
   have h1:=hp a (by omega) ha
   intro x hx
   rcases List.mem_append.1 hx with hx | hx
   ·exact QY hf hk hp n (par t a) (by omega) x hx
   ·exact hf.each _ (AO (l:=t.Nodes) (show 0<=a by omega) (by omega)) x hx
theorem K5 {t:AD} (hf:BT t) {k a:Int} (hk:k<=t.Nodes.length) (hp:F3 t k) (ha:a<k):(A8 t a).length<=600:=by
 have:=K3 hf hk hp (a+1).toNat a ha
 have:=hf.nodes
 unfold A8
 omega
theorem K4 {t:AD} (hf:BT t) {k a:Int} (hk:k<=t.Nodes.length) (hp:F3 t k) (ha:a<k):∀ x∈A8 t a,QA x:=QY hf hk hp _ a ha
theorem TD {t:AD} (hf:BT t) {k:Int} (hk:k<=t.Nodes.length) (hp:F3 t k):∀ (n:Nat) (a:Int),0<=a->a<k->a<n->DW n t a=some (CC t n a)
 | 0,_,_,_,_=>by omega
 | n+1,a,h0,ha,hn=>by
  have h1:=hp a (by omega) ha
  have h2:=K3 hf hk hp n (par t a) (by omega)
  have h3:=hf.attrs _ (AO (l:=t.Nodes) h0 (by omega))
  have h4:=hf.nodes
  rw [DW,CC,if_neg (by omega),AG h0 (by omega)]
  simp only [bs]
  show ((if decide (0<=par t a)=true then (DW n t (par t a)).bind fun x17=>some x17 else some []).bind _)=_
  have e:(if decide (0<=par t a)=true then (DW n t (par t a)).bind fun x17=>some x17 else some [])=some (CC t n (par t a)):=by
   by_cases hq:0<=par t a
   ·rw [if_pos (by simpa using hq),TD hf hk hp n (par t a) hq (by omega) (by omega)]; rfl
   ·rw [if_neg (by simpa using hq),H4 (by omega)]
  have hb:(CC t n (par t a)).length+(AA t.Nodes a).Attrs.length<=BZ:=by
   unfold BZ
   have:((CC t n (par t a)).length:Int)<=30*n:=h2
   have h5:CC t n (par t a)=CC t 20 (par t a):=by
    by_cases hneg:par t a<0
    ·rw [H4 hneg,H4 hneg]
    ·exact Kn hp n 20 (par t a) (by omega) (by omega) (by omega)
   have h6:=K3 hf hk hp 20 (par t a) (by omega)
   rw [←h5] at h6
   omega
  rw [e,bs,DG hb]
  rfl
theorem UX {t:AD} (hf:BT t) {k:Int} (hk:k<=t.Nodes.length) (hp:F3 t k) {a:Int} (h0:0<=a) (ha:a<k):JV t a=some (A8 t a):=
 EX (a+1).toNat fun n hn=>by
  rw [TD hf hk hp n a h0 ha (by omega),A8,Kn hp n (a+1).toNat a ha (by omega) (by omega)]
theorem TL {t:AD} (hf:BT t) {k:Int} (hk:k<=t.Nodes.length) (hp:F3 t k):∀ (n:Nat) (a:Int),-1<=a->a<k->a+1<n->Gx n t a=some (CC t n a)
 | 0,_,_,_,_=>by omega
 | n+1,a,h0,ha,hn=>by
  rw [Gx,CC]
  by_cases hneg:a<0
  ·rw [if_pos (by simpa using hneg),if_pos hneg]
  ·have h1:=hp a (by omega) ha
   have h3:=hf.attrs _ (AO (l:=t.Nodes) (show 0<=a by omega) (by omega))
   have h4:=hf.nodes
   rw [if_neg (by simpa using hneg),if_neg hneg,AG (by omega) (by omega)]
   simp only [bs]
   have h5:CC t n (par t a)=CC t 20 (par t a):=by
    by_cases hneg:par t a<0
    ·rw [H4 hneg,H4 hneg]
    ·exact Kn hp n 20 (par t a) (by omega) (by omega) (by omega)
   have h6:=K3 hf hk hp 20 (par t a) (by omega)
   rw [←h5] at h6
   have hb:(CC t n (par t a)).length+(AA t.Nodes a).Attrs.length<=BZ:=by unfold BZ; omega
   rw [show (AA t.Nodes a).Parent=par t a from rfl,TL hf hk hp n (par t a) (by omega) (by omega) (by omega),bs,DG (by simp; unfold BZ; omega)]
   simp only [bs,List.nil_append]
   rw [DG hb]; rfl
theorem Uc {t:AD} (hf:BT t) {k:Int} (hk:k<=t.Nodes.length) (hp:F3 t k) {a:Int} (h0:0<=a) (ha:a<k):Lt t a=some (A8 t a):=
 EX (a+2).toNat fun n hn=>by
  rw [TL hf hk hp n a (by omega) ha (by omega),A8,Kn hp n (a+1).toNat a ha (by omega) (by omega)]
end Go.Sf.Sc
namespace Go.Sf.Sc
open Go Go.Sf
def Ji (l:List ByteArray):Int:=
 if (20:Int)<l.length then 3 else (fst (fun i=>if F7 (AA l i)=false then some 2 else if anyR (fun j=>AA l j==AA l i) 0 i=true then some 5 else none) 0 l.length).getD 0
theorem Sg {l:List ByteArray} {x:ByteArray} {b:Int} (h0:0<=b) (h1:b<=l.length):(l.take b.toNat).contains x=anyR (fun j=>AA l j==x) 0 b:=by
 rw [List.contains_eq_any_beq,N2 h0 h1]
 exact QW (fun i _ _=>by rw [Bool.beq_comm])
theorem Z2 {l:List ByteArray} (hl:∀ x∈l,(x.size:Int)<=40):Ha l=some (Ji l):=by
 unfold Ha Ji
 by_cases h20:(20:Int)<l.length
 ·rw [if_pos (by simpa using h20),if_pos h20]
 ·rw [if_neg (by simpa using h20),if_neg h20]
  rw [CG (fun i=>if F7 (AA l i)=false then some 2 else if anyR (fun j=>AA l j==AA l i) 0 i=true then some 5 else none),GD]
  intro i h1 h2 _
  have hx:=hl _ (AO h1 h2)
  rw [AG h1 h2,bs,Om (by omega),bs,Li h1 (by omega)]
  simp only [bs,MM,Sg h1 (show i<=l.length by omega)]
  cases F7 (AA l i) <;> cases anyR (fun j=>AA l j==AA l i) 0 i <;> rfl
theorem aE {l:List ByteArray} (hl:∀ x∈l,(x.size:Int)<=40):KO l=some (Ji l):=by
 unfold KO Ji
 by_cases h20:(20:Int)<l.length
 ·rw [if_pos (by simpa using h20),if_pos h20]
 ·rw [if_neg (by simpa using h20),if_neg h20]
  rw [CG (fun i=>if F7 (AA l i)=false then some 2 else if anyR (fun j=>AA l j==AA l i) 0 i=true then some 5 else none),GD]
  intro i h1 h2 _
  have hx:=hl _ (AO h1 h2)
  rw [AG h1 h2,bs,Oq (by omega),bs,B2 (fun j=>AA l j==AA l i) 5]
  ·cases F7 (AA l i) <;> cases anyR (fun j=>AA l j==AA l i) 0 i <;> rfl
  ·intro j k1 k2 _
   rw [AG k1 (by omega),bs,bs]
   split <;> rfl
def MN (all:List Attr) (k:Int):Int:=
 let x:=AA all k
 if F7 x.Name=false then 2 else if anyR (fun j=>(AA all j).Name==x.Name) 0 k=true then 5 else
 if x.Names.length=0 then (if -1000000<=x.Low∧x.Low<=x.High∧x.High<=1000000 then 0 else 6) else
 if Ji x.Names≠0 then Ji x.Names else if x.Low=0∧x.High=x.Names.length - 1 then 0 else 6
theorem T1 {all:List Attr} (hl:∀ x∈all,QA x) {k:Int} (h0:0<=k) (h1:k<all.length):E8 (AA all k) (all.take k.toNat)=some (MN all k):=by
 have hx:=hl _ (AO h0 h1)
 have hn:=hx.name
 unfold E8 MN
 dsimp only
 rw [Om (by omega),bs,show (fun y0=>IX y0 (AA all k))=(fun y0=>some (y0.Name==(AA all k).Name)) from rfl,Za,bs,N2 h0 (by omega),Z2 hx.each,bs]
 have hl2:=hx.names
 have hw:A1 ((AA all k).Names.length - 1)=(AA all k).Names.length - 1:=BG (by omega) (by omega)
 rw [hw]
 have hz:(AA all k).Names.length=0->Ji (AA all k).Names=0:=fun h=>by rw [List.eq_nil_of_length_eq_zero h]; rfl
 generalize Ji (AA all k).Names=e at hz ⊢
 simp only [bs,decide_eq_true_eq,Bool.or_eq_true,Bool.and_eq_true,Bool.not_eq_true',decide_eq_false_iff_not,Bool.not_eq_false',Bool.or_eq_false_iff,Bool.and_eq_false_iff,ne_eq]
 repeat' (first | rfl | (exfalso; omega; done) | split)
 all_goals (first | rfl | (exfalso; omega) | omega | simp_all | (simp_all; omega))
theorem T4 {x:Attr} (hx:QA x):IC x=some (
 if x.Names.length=0 then (if -1000000<=x.Low∧x.Low<=x.High∧x.High<=1000000 then 0 else 6) else
 if Ji x.Names≠0 then Ji x.Names else if x.Low=0∧x.High=x.Names.length - 1 then 0 else 6):=by
 have hl2:=hx.names
 have hw:A1 (x.Names.length - 1)=x.Names.length - 1:=BG (by omega) (by omega)
 unfold IC D9
 simp only [bs,hw,aE hx.each]
 generalize Ji x.Names=e
 simp only [bs,decide_eq_true_eq,Bool.or_eq_true,Bool.and_eq_true,Bool.not_eq_true',decide_eq_false_iff_not,Bool.not_eq_false',Bool.or_eq_false_iff,Bool.and_eq_false_iff,ne_eq]
 repeat' (first | rfl | (exfalso; omega; done) | split)
 all_goals (first | rfl | (exfalso; omega) | omega | simp_all | (simp_all; omega))
def IV (t:AD) (i:Int):Int:=
 let n:=AA t.Nodes i
 if F7 n.Name=false then 2 else if anyR (fun j=>(AA t.Nodes j).Name==n.Name) 0 i=true then 5 else
 if n.Parent < -1∨i<=n.Parent then 6 else if 4<n.Attrs.length∨8<(A8 t i).length then 3 else
 (fst (fun k=>nz (MN (A8 t i) k)) ((A8 t i).length - n.Attrs.length) (A8 t i).length).getD 0
theorem Qb {t:AD} {i:Int} (h0:0<=i):(AA t.Nodes i).Attrs.length<=(A8 t i).length:=by
 unfold A8
 rw [show (i+1).toNat=i.toNat+1 by omega,CC,if_neg (by omega),List.length_append]
 omega
theorem F3.next {t:AD} {i:Int} (h:F3 t i) (h1:-1<=par t i) (h2:par t i<i):F3 t (i+1):=by
 intro j k1 k2
 by_cases hj:j=i
 ·subst hj; exact ⟨h1,h2⟩
 ·exact h j k1 (by omega)
theorem cL {t:AD} (hf:BT t) {i:Int} (h0:0<=i) (h1:i<t.Nodes.length) (hp:F3 t i):IJ t i=some (IV t i):=by
 have hn:=hf.name _ (AO h0 h1)
 unfold IJ IV
 dsimp only
 rw [AG h0 h1,bs,Om (by omega),bs,Li h0 (by omega),bs,show (fun y0=>LT y0 (AA t.Nodes i))=(fun y0=>some (y0.Name==(AA t.Nodes i).Name)) from rfl,Tr,bs,N2 h0 (by omega)]
 cases F7 (AA t.Nodes i).Name
 ·rfl
 ·cases anyR (fun j=>(AA t.Nodes j).Name==(AA t.Nodes i).Name) 0 i
  ·by_cases hr:(AA t.Nodes i).Parent < -1∨i<=(AA t.Nodes i).Parent
   ·rcases hr with hr | hr <;> simp [hr]
   ·have hp':F3 t (i+1):=hp.next (by unfold par; omega) (by unfold par; omega)
    have hr2:(decide ((AA t.Nodes i).Parent < -1)||decide (i<=(AA t.Nodes i).Parent))=false:=by
     rw [Bool.eq_false_iff]; simpa using hr
    rw [UX hf (k:=i+1) (by omega) hp' h0 (by omega),bs]
    have hlen:=K5 hf (k:=i+1) (a:=i) (by omega) hp' (by omega)
    have hsub:=Qb (t:=t) h0
    have hfew:=K4 hf (k:=i+1) (a:=i) (by omega) hp' (by omega)
    rw [BG (by omega) (by omega),CG (fun k=>nz (MN (A8 t i) k)),GD]
    ·simp only [hr2,hr,Bool.not_true,Bool.false_eq_true,if_false]
     simp only [bs,decide_eq_true_eq,Bool.or_eq_true,Bool.and_eq_true,Bool.not_eq_true',decide_eq_false_iff_not,Bool.not_eq_false',Bool.or_eq_false_iff,Bool.and_eq_false_iff,ne_eq]
     repeat' (first | rfl | (exfalso; omega; done) | split)
     all_goals (first | rfl | (exfalso; omega) | omega | simp_all | (simp_all; omega))
    ·intro k k1 k2 _
     rw [AG (by omega) k2,bs,Li (by omega) (by omega),bs,T1 hfew (by omega) k2,bs,Nq]
  ·rfl
theorem cX {t:AD} (hf:BT t) {i:Int} (h0:0<=i) (h1:i<t.Nodes.length) (hp:F3 t i):LH t i=some (IV t i):=by
 have hn:=hf.name _ (AO h0 h1)
 have hl:=hf.nodes
 unfold LH IV D9
 dsimp only
 rw [AG h0 h1,bs,Oq (by omega),bs,B2 (fun j=>(AA t.Nodes j).Name==(AA t.Nodes i).Name) 5]
 ·cases F7 (AA t.Nodes i).Name
  ·rfl
  ·cases anyR (fun j=>(AA t.Nodes j).Name==(AA t.Nodes i).Name) 0 i
   ·simp only [Bool.not_true,Bool.false_eq_true,if_false,DT,bs]
    rw [BG (by omega) (by omega)]
    by_cases hr:(AA t.Nodes i).Parent < -1∨i<=(AA t.Nodes i).Parent
    ·rw [if_pos,if_neg (by decide),if_pos hr]
     simp; omega
    ·have hp':F3 t (i+1):=hp.next (by unfold par; omega) (by unfold par; omega)
     rw [if_neg (by simp; omega),if_neg (by decide),if_neg hr]
     rw [Uc hf (k:=i+1) (by omega) hp' h0 (by omega),bs]
     have hlen:=K5 hf (k:=i+1) (a:=i) (by omega) hp' (by omega)
     have hsub:=Qb (t:=t) h0
     have hfew:=K4 hf (k:=i+1) (a:=i) (by omega) hp' (by omega)
     rw [BG (by omega) (by omega)]
     rw [CG (fun k=>nz (MN (A8 t i) k)),GD]
     ·simp only [bs,decide_eq_true_eq,Bool.or_eq_true,Bool.and_eq_true,Bool.not_eq_true',decide_eq_false_iff_not,Bool.not_eq_false',Bool.or_eq_false_iff,Bool.and_eq_false_iff,ne_eq]
      repeat' (first | rfl | (exfalso; omega; done) | split)
      all_goals (first | rfl | (exfalso; omega) | omega | simp_all | (simp_all; omega))
     ·intro k k1 k2 _
      have hx:=hfew _ (AO (show 0<=k by omega) k2)
      have hxn:=hx.name
      simp only [AG (show 0<=k by omega) k2,bs]
      rw [Oq (by omega),bs,B2 (fun j=>(AA (A8 t i) j).Name==(AA (A8 t i) k).Name) 5]
      ·rw [T4 hx]
       simp only [bs,Nq]
       unfold MN
       dsimp only
       cases F7 (AA (A8 t i) k).Name
       ·rfl
       ·cases anyR (fun j=>(AA (A8 t i) j).Name==(AA (A8 t i) k).Name) 0 k <;> rfl
      ·intro j j1 j2 _
       rw [AG j1 (by omega),bs]
       split <;> rfl
   ·rfl
 ·intro j k1 k2 _
  rw [AG k1 (by omega),bs]
  split <;> rfl
def K6 (low high:Int):Bool:=((decide (0<=low))&&(decide (low<=40)))&&((decide (high=(-1)))||((decide (low<=high))&&(decide (high<=40))))
theorem aB (low high:Int):JO low high=some (K6 low high):=by
 unfold JO K6 D9
 simp only [bs]
 cases (decide (0<=low)&&decide (low<=40)) <;> cases decide (high=-1) <;> rfl
def Jy (t:AD) (i:Int):Int:=
 let x:=AA t.Edges i
 if F7 x.Name=false then 2 else if anyR (fun j=>(AA t.Edges j).Name==x.Name) 0 i=true then 5 else
 if (0<=x.From∧x.From<t.Nodes.length)∧(0<=x.To∧x.To<t.Nodes.length)∧K6 x.OutLow x.OutHigh=true∧K6 x.InLow x.InHigh=true then 0 else 6
theorem cH {t:AD} (hf:BT t) {i:Int} (h0:0<=i) (h1:i<t.Edges.length):II t i=some (Jy t i):=by
 have hn:=hf.ename _ (AO h0 h1)
 unfold II Jy Jv
 dsimp only
 rw [AG h0 h1,bs,Om (by omega),bs,Li h0 (by omega),bs,show (fun y0=>LS y0 (AA t.Edges i))=(fun y0=>some (y0.Name==(AA t.Edges i).Name)) from rfl,Tq,bs,N2 h0 (by omega)]
 simp only [show ∀ a b,JJ a b=some (K6 a b) from fun _ _=>rfl,bs]
 generalize F7 (AA t.Edges i).Name=b1
 generalize anyR (fun j=>(AA t.Edges j).Name==(AA t.Edges i).Name) 0 i=b2
 generalize K6 (AA t.Edges i).OutLow (AA t.Edges i).OutHigh=b3
 generalize K6 (AA t.Edges i).InLow (AA t.Edges i).InHigh=b4
 cases b1
 ·rfl
 ·cases b2
  ·cases b3 <;> cases b4
   all_goals
    by_cases ha:0<=(AA t.Edges i).From∧(AA t.Edges i).From<t.Nodes.length
    ·by_cases hb:0<=(AA t.Edges i).To∧(AA t.Edges i).To<t.Nodes.length
     ·simp [ha,hb]
     ·have:(decide (0<=(AA t.Edges i).To)&&decide ((AA t.Edges i).To<t.Nodes.length))=false:=by rw [Bool.eq_false_iff]; simpa using hb
      simp [ha,hb,this]
    ·have:(decide (0<=(AA t.Edges i).From)&&decide ((AA t.Edges i).From<t.Nodes.length))=false:=by rw [Bool.eq_false_iff]; simpa using ha
     simp [ha,this]
  ·rfl
theorem cT {t:AD} (hf:BT t) {i:Int} (h0:0<=i) (h1:i<t.Edges.length):LG t i=some (Jy t i):=by
 have hn:=hf.ename _ (AO h0 h1)
 have hl:=hf.nodes
 unfold LG Jy D9
 dsimp only
 rw [AG h0 h1,bs,Oq (by omega),bs,B2 (fun j=>(AA t.Edges j).Name==(AA t.Edges i).Name) 5]
 ·simp only [BG (show -9223372036854775808<=(t.Nodes.length:Int) - 1 by omega) (by omega),aB,bs]
  generalize F7 (AA t.Edges i).Name=b1
  generalize anyR (fun j=>(AA t.Edges j).Name==(AA t.Edges i).Name) 0 i=b2
  generalize K6 (AA t.Edges i).OutLow (AA t.Edges i).OutHigh=b3
  generalize K6 (AA t.Edges i).InLow (AA t.Edges i).InHigh=b4
  cases b1
  ·rfl
  ·cases b2
   ·cases b3 <;> cases b4
    all_goals
     by_cases ha:0<=(AA t.Edges i).From∧(AA t.Edges i).From<t.Nodes.length
     ·have ha':(AA t.Edges i).From<=(t.Nodes.length:Int) - 1:=by omega
      by_cases hb:0<=(AA t.Edges i).To∧(AA t.Edges i).To<t.Nodes.length
      ·have hb':(AA t.Edges i).To<=(t.Nodes.length:Int) - 1:=by omega
       simp [ha,hb,ha',hb',DT]
      ·have:(decide (0<=(AA t.Edges i).To)&&decide ((AA t.Edges i).To<=(t.Nodes.length:Int) - 1))=false:=by rw [Bool.eq_false_iff]; simp; omega
       simp [ha,hb,ha',this,DT]
     ·have:(decide (0<=(AA t.Edges i).From)&&decide ((AA t.Edges i).From<=(t.Nodes.length:Int) - 1))=false:=by rw [Bool.eq_false_iff]; simp; omega
      simp [ha,this,DT]
   ·rfl
 ·intro j k1 k2 _
  rw [AG k1 (by omega),bs]
  split <;> rfl
def BA (t:AD):ByteArray × Int:=
 if t.Nodes.length=0 then (⟨#[]⟩,7) else if 12<t.Nodes.length∨20<t.Edges.length then (⟨#[]⟩,3) else
 match fst (fun i=>(nz (IV t i)).map fun e=>((AA t.Nodes i).Name,e)) 0 t.Nodes.length with
 | some r=>r
 | none=>(fst (fun i=>(nz (Jy t i)).map fun e=>((AA t.Edges i).Name,e)) 0 t.Edges.length).getD (⟨#[]⟩,0)
theorem V8 {t:AD} {i:Int} (h:IV t i=0):-1<=par t i∧par t i<i:=by
 unfold IV at h
 dsimp only at h
 unfold par
 by_cases hr:(AA t.Nodes i).Parent < -1∨i<=(AA t.Nodes i).Parent
 ·rw [if_pos hr] at h
  split at h
  ·cases h
  ·split at h <;> cases h
 ·omega
theorem Lc {α β:Type} {o:Option α} {g:α->β}:o.map g=none↔o=none:=by cases o <;> simp
theorem QJ {t:AD} {i:Int} (h:∀ j,0<=j->j<i->IV t j=0):F3 t i:=fun j h1 h2=>V8 (h j h1 h2)
theorem Pm {ρ:Type} (e:Int) (n:ByteArray):(if (!decide (e=0))=true then some (CE.ret (n,e)) else some (CE.next ()))=some (NO ((nz e).map fun e=>(n,e))):=by
 unfold nz
 by_cases h:e=0 <;> simp [h,NO]
theorem Pp {t:AD} (hf:BT t):FH t=some (BA t):=by
 unfold FH BA
 rw [CG (fun i=>(nz (IV t i)).map fun e=>((AA t.Nodes i).Name,e)),E7]
 ·rw [CG (fun i=>(nz (Jy t i)).map fun e=>((AA t.Edges i).Name,e)),E7]
  ·cases fst (fun i=>(nz (IV t i)).map fun e=>((AA t.Nodes i).Name,e)) 0 t.Nodes.length <;> cases fst (fun i=>(nz (Jy t i)).map fun e=>((AA t.Edges i).Name,e)) 0 t.Edges.length
   all_goals dsimp only
   all_goals try simp only [Option.getD]
   all_goals
    simp only [bs,decide_eq_true_eq,Bool.or_eq_true,Bool.and_eq_true,Bool.not_eq_true',decide_eq_false_iff_not,Bool.not_eq_false',Bool.or_eq_false_iff,Bool.and_eq_false_iff,ne_eq]
    repeat' (first | rfl | (exfalso; omega; done) | split)
    all_goals (first | rfl | (exfalso; omega) | omega | simp_all | (simp_all; omega))
  ·intro i h1 h2 _
   rw [AG h1 h2,bs,cH hf h1 h2,bs]
   exact Pm (ρ:=Unit) _ _
 ·intro i h1 h2 h3
  have hp:F3 t i:=QJ fun j k1 k2=>Mf.1 (Lc.1 (h3 j k1 k2))
  rw [AG h1 h2,bs,cL hf h1 h2 hp,bs]
  exact Pm (ρ:=Unit) _ _
theorem Ps {t:AD} (hf:BT t):HU t=some (BA t):=by
 unfold HU BA
 rw [CG (fun i=>(nz (IV t i)).map fun e=>((AA t.Nodes i).Name,e)),E7]
 ·rw [CG (fun i=>(nz (Jy t i)).map fun e=>((AA t.Edges i).Name,e)),E7]
  ·cases fst (fun i=>(nz (IV t i)).map fun e=>((AA t.Nodes i).Name,e)) 0 t.Nodes.length <;> cases fst (fun i=>(nz (Jy t i)).map fun e=>((AA t.Edges i).Name,e)) 0 t.Edges.length
   all_goals dsimp only
   all_goals try simp only [Option.getD]
   all_goals
    simp only [bs,decide_eq_true_eq,Bool.or_eq_true,Bool.and_eq_true,Bool.not_eq_true',decide_eq_false_iff_not,Bool.not_eq_false',Bool.or_eq_false_iff,Bool.and_eq_false_iff,ne_eq]
    repeat' (first | rfl | (exfalso; omega; done) | split)
    all_goals (first | rfl | (exfalso; omega) | omega | simp_all | (simp_all; omega))
  ·intro i h1 h2 _
   simp only [cT hf h1 h2,AG h1 h2,bs]
   exact Pm (ρ:=Unit) _ _
 ·intro i h1 h2 h3
  have hp:F3 t i:=QJ fun j k1 k2=>Mf.1 (Lc.1 (h3 j k1 k2))
  simp only [cX hf h1 h2 hp,AG h1 h2,bs]
  exact Pm (ρ:=Unit) _ _
end Go.Sf.Sc
namespace Go.Sf.Sc
open Go Go.Sf
theorem Ig {α:Type} {c:Bool} {a b:α}:(if c=true then some a else some b)=some (if c=true then a else b):=by cases c <;> rfl
def J0 (n:Int):Bool:=(decide (0<=n))&&(decide (n<=99))
def OY (e:CW) (n:Int):Bool:=J0 e.Type'&&(decide (0<=e.From)&&decide (e.From<n))&&(decide (0<=e.To)&&decide (e.To<n))
def C5 (g:Graph):Int:=
 if 40<g.Nodes.length∨80<g.Edges.length then 3 else if (g.Nodes.any fun n=>!J0 n)=true then 6 else if (g.Edges.any fun e=>!OY e g.Nodes.length)=true then 6 else 0
structure JL (g:Graph):Prop where
 nodes:g.Nodes.length<=40
 edges:g.Edges.length<=80
 kind:∀ n∈g.Nodes,0<=n∧n<=99
 fit:∀ e∈g.Edges,(0<=e.Type'∧e.Type'<=99)∧(0<=e.From∧e.From<g.Nodes.length)∧(0<=e.To∧e.To<g.Nodes.length)
theorem FA {g:Graph} (h:C5 g=0):JL g:=by
 unfold C5 at h
 split at h
 ·cases h
 ·split at h
  ·cases h
  ·split at h
   ·cases h
   ·rename_i h1 h2 h3
    refine ⟨by omega,by omega,fun n hn=>?_,fun e he=>?_⟩
    ·rw [Bool.not_eq_true,List.any_eq_false] at h2
     have:=h2 n hn
     simp [J0] at this
     exact this
    ·rw [Bool.not_eq_true,List.any_eq_false] at h3
     have:=h3 e he
     simp only [OY,J0,Bool.not_eq_true',Bool.not_eq_false,Bool.and_eq_true,decide_eq_true_eq] at this
     omega
theorem cJ {e:CW} {n:Nat} (h:n<=40):LB e n=some (OY e n):=by
 unfold LB Hj OY J0
 simp only [bs,BG (show -9223372036854775808<=(n:Int) - 1 by omega) (by omega)]
 have e1:decide (e.From<=(n:Int) - 1)=decide (e.From<n):=by rw [decide_eq_decide]; omega
 have e2:decide (e.To<=(n:Int) - 1)=decide (e.To<n):=by rw [decide_eq_decide]; omega
 rw [e1,e2]
 generalize (decide (0<=e.Type')&&decide (e.Type'<=99))=b1
 generalize (decide (0<=e.From)&&decide (e.From<n))=b2
 cases b1 <;> cases b2 <;> simp
theorem Mg (g:Graph):D3 g=some (C5 g):=by
 unfold D3 C5
 by_cases h:40<g.Nodes.length∨80<g.Edges.length
 ·rw [if_pos (by simp; omega),if_pos h]
 ·rw [if_neg (by simp; omega),if_neg h,show Kc=(fun n=>some (!J0 n)) from rfl,Vv,UG (p:=fun e=>!OY e g.Nodes.length) (fun e _=>by
   unfold Kd
   rw [cJ (by omega)]; rfl)]
  simp only [bs]
  cases g.Nodes.any fun n=>!J0 n
  ·cases g.Edges.any fun e=>!OY e g.Nodes.length <;> rfl
  ·rfl
theorem Mi (g:Graph):FZ g=some (C5 g):=by
 unfold FZ C5
 by_cases h:40<g.Nodes.length∨80<g.Edges.length
 ·rw [if_pos (by simp; omega),if_pos h]
 ·rw [if_neg (by simp; omega),if_neg h,KE,KE,B2 (fun i=>!J0 (AA g.Nodes i)) 6]
  ·rw [B2 (fun i=>!OY (AA g.Edges i) g.Nodes.length) 6]
   ·cases anyR (fun i=>!J0 (AA g.Nodes i)) 0 g.Nodes.length
    ·cases anyR (fun i=>!OY (AA g.Edges i) g.Nodes.length) 0 g.Edges.length <;> rfl
    ·rfl
   ·intro i h1 h2 _
    rw [AG h1 h2,bs]
    unfold Lu OY
    simp only [show ∀ n,J2 n=some (J0 n) from fun _=>rfl,bs]
    generalize J0 (AA g.Edges i).Type'=b1
    cases b1 <;> cases decide (0<=(AA g.Edges i).From) <;> cases decide ((AA g.Edges i).From<g.Nodes.length) <;> cases decide (0<=(AA g.Edges i).To) <;> cases decide ((AA g.Edges i).To<g.Nodes.length) <;> rfl
  ·intro i h1 h2 _
   rw [AG h1 h2,bs,show J2 (AA g.Nodes i)=some (J0 (AA g.Nodes i)) from rfl,bs]
   cases J0 (AA g.Nodes i) <;> rfl
def FG (t:AD) (g:Graph):Bool:=!(g.Nodes.any fun n=>decide (t.Nodes.length<=n))&&!(g.Edges.any fun e=>decide (t.Edges.length<=e.Type'))
theorem Lj {t:AD} {g:Graph} (hg:JL g) (h:FG t g=true):(∀ n∈g.Nodes,0<=n∧n<t.Nodes.length)∧∀ e∈g.Edges,0<=e.Type'∧e.Type'<t.Edges.length:=by
 unfold FG at h
 simp only [Bool.and_eq_true,Bool.not_eq_true',List.any_eq_false,decide_eq_true_eq] at h
 refine ⟨fun n hn=>?_,fun e he=>?_⟩
 ·have:=h.1 n hn
  have:=hg.kind n hn
  omega
 ·have:=h.2 e he
  have:=hg.fit e he
  omega
theorem RL {t:AD} {g:Graph} (hg:JL g):IM t g=some (FG t g):=by
 unfold IM FG
 rw [KE,KE,B2 (fun i=>decide (t.Nodes.length<=AA g.Nodes i)) false]
 ·rw [B2 (fun i=>decide (t.Edges.length<=(AA g.Edges i).Type')) false]
  ·cases anyR (fun i=>decide (t.Nodes.length<=AA g.Nodes i)) 0 g.Nodes.length
   ·cases anyR (fun i=>decide (t.Edges.length<=(AA g.Edges i).Type')) 0 g.Edges.length <;> rfl
   ·rfl
  ·intro i h1 h2 _
   have:=(hg.fit _ (AO h1 h2)).1.1
   simp only [AG h1 h2,bs]
   rw [if_neg (by simp; omega),bs,Ig]
 ·intro i h1 h2 _
  have:=(hg.kind _ (AO h1 h2)).1
  simp only [AG h1 h2,bs]
  rw [if_neg (by simp; omega),bs,Ig]
structure G1 (t:AD):Prop where
 nodes:t.Nodes.length<=12
 edges:t.Edges.length<=20
 node:∀ i:Int,0<=i->i<t.Nodes.length->IV t i=0
 edge:∀ i:Int,0<=i->i<t.Edges.length->Jy t i=0
theorem GF {t:AD} (h:(BA t).2=0):G1 t:=by
 unfold BA at h
 split at h
 ·cases h
 ·split at h
  ·cases h
  ·rename_i h1 h2
   have hn:∀ i:Int,0<=i->i<t.Nodes.length->IV t i=0:=by
    split at h
    ·rename_i r hr
     obtain ⟨i,_,_,k3,_⟩:=D8 hr
     unfold nz at k3
     split at k3
     ·cases k3
     ·rename_i hne
      cases k3; exact absurd h hne
    ·rename_i hr
     intro i k1 k2
     exact Mf.1 (Lc.1 (DQ.1 hr i k1 k2))
   have he:∀ i:Int,0<=i->i<t.Edges.length->Jy t i=0:=by
    split at h
    ·rename_i r hr
     obtain ⟨i,k1,k2,k3,_⟩:=D8 hr
     rw [hn i k1 k2] at k3
     cases k3
    ·cases hr:fst (fun i=>(nz (Jy t i)).map fun e=>((AA t.Edges i).Name,e)) 0 t.Edges.length with
     | some r=>
      rw [hr] at h
      obtain ⟨i,_,_,k3,_⟩:=D8 hr
      unfold nz at k3
      split at k3
      ·cases k3
      ·rename_i hne
       cases k3; exact absurd h hne
     | none=>
      intro i k1 k2
      exact Mf.1 (Lc.1 (DQ.1 hr i k1 k2))
   exact ⟨by omega,by omega,hn,he⟩
theorem G1.par {t:AD} (h:G1 t):F3 t t.Nodes.length:=QJ h.node
theorem G1.ends {t:AD} (h:G1 t) {i:Int} (h0:0<=i) (h1:i<t.Edges.length):(0<=(AA t.Edges i).From∧(AA t.Edges i).From<t.Nodes.length)∧(0<=(AA t.Edges i).To∧(AA t.Edges i).To<t.Nodes.length):=by
 have:=h.edge i h0 h1
 unfold Jy at this
 dsimp only at this
 split at this
 ·cases this
 ·split at this
  ·cases this
  ·split at this
   ·rename_i hc; exact ⟨hc.1,hc.2.1⟩
   ·cases this
def Hv (t:AD) (a:Int):Bool:=decide (0<=a)&&decide (a<t.Nodes.length)
theorem Kq {t:AD} {a:Int}:Hv t a=true↔0<=a∧a<t.Nodes.length:=by unfold Hv; simp
theorem RJ {t:AD} (hf:BT t) (l:List Int):F2 t l=some (if (BA t).2≠0 then (BA t).2 else if (l.all (Hv t))=true then 0 else 6):=by
 unfold F2
 rw [Pp hf,bs,Sb (p:=fun a=>!Hv t a) (fun a _=>by unfold Kg Hv; rw [show decide (a<0)=!decide (0<=a) from by rw [←decide_not,decide_eq_decide]; omega,show decide ((t.Nodes.length:Int)<=a)=!decide (a<t.Nodes.length) from by rw [←decide_not,decide_eq_decide]; omega,Bool.not_and]),bs]
 rw [show (l.any fun a=>!Hv t a)=!(l.all (Hv t)) from by rw [List.all_eq_not_any_not,Bool.not_not]]
 cases l.all (Hv t) <;> by_cases h:(BA t).2=0 <;> simp [h]
theorem Uf {t:AD} (hf:BT t) (a b:Int):JP t a b=some (if (BA t).2≠0 then (BA t).2 else if (Hv t a&&Hv t b)=true then 0 else 6):=by
 have hl:=hf.nodes
 have e:∀ a,decide (a<=(t.Nodes.length:Int) - 1)=decide (a<(t.Nodes.length:Int)):=fun a=>by rw [decide_eq_decide]; omega
 unfold JP D9
 rw [Ps hf,bs]
 simp only [BG (show -9223372036854775808<=(t.Nodes.length:Int) - 1 by omega) (by omega),bs,e]
 change (if (!decide ((BA t).snd=0))=true then some (BA t).snd else (if (!Hv t a)=true then some true else some (!Hv t b)).bind fun x32=>if x32=true then some 6 else some 0)=_
 cases Hv t a <;> cases Hv t b <;> by_cases h:(BA t).2=0 <;> simp [h]
theorem Wj {α:Type} [Inhabited α] {l:List α} {i:Int} (h0:0<=i) (h1:i<l.length):CS l i (AA l i)=l:=by
 unfold CS AA
 rw [List.getD_eq_getElem?_getD,List.getElem?_eq_getElem (by omega)]
 exact List.set_getElem_self _
theorem Io {α:Type} [Inhabited α] {l:List α} {i:Int} (h0:0<=i) (h1:i<l.length):l.take (i+1).toNat=l.take i.toNat++[AA l i]:=by
 unfold AA
 rw [show (i+1).toNat=i.toNat+1 by omega,List.take_add_one,List.getD_eq_getElem?_getD,List.getElem?_eq_getElem (by omega)]
 rfl
theorem Hh {α:Type} {l:List α} (h:l.length<=BZ):CO [] l=some l:=by rw [DG (by simpa using h)]; rfl
def H5 (t:AD) (a:Int):List Attr × Int:=if (BA t).2≠0 then ([],(BA t).2) else if Hv t a=true then (A8 t a,0) else ([],6)
theorem UW {t:AD} (hf:BT t) (a:Int):GY t a=some (H5 t a):=by
 unfold GY H5
 rw [RJ hf,bs]
 by_cases h:(BA t).2=0
 ·have hok:=GF h
  have e:[a].all (Hv t)=Hv t a:=by simp
  rw [e]
  simp only [h,ne_eq,not_true_eq_false,if_false]
  cases hi:Hv t a
  ·rfl
  ·rw [if_pos rfl,if_pos rfl]
   have hr:=Kq.1 hi
   have hl:=K5 hf (Int.le_refl _) hok.par hr.2
   have hw:=K4 hf (Int.le_refl _) hok.par hr.2
   rw [if_neg (by decide),UX hf (Int.le_refl _) hok.par hr.1 hr.2,bs]
   obtain ⟨s',h1,rfl⟩:=Ss (f:=(fun (i0:Int) (s0:List Attr)=>
 (AI s0 i0).bind fun x28=>
 (slices_Clone_string x28.Names).bind fun x31=>
 (AI s0 i0).bind fun x32=>
 some (CS s0 i0 (Attr.mk x32.Name x32.Low x32.High x31)))) (fun _ s=>s=A8 t a) (a:=0) (b:=(A8 t a).length) (s:=A8 t a) (by omega) rfl (fun i s k1 k2 hs=>by
     subst hs
     have:=(hw _ (AO k1 k2)).names
     refine ⟨A8 t a,?_,rfl⟩
     unfold slices_Clone_string
     rw [AG k1 k2,bs,Hh (by unfold BZ; omega),bs,bs]
     congr 1
     exact Wj k1 k2)
   rw [h1]; rfl
 ·simp only [h,ne_eq,not_false_eq_true,if_true,decide_false,Bool.not_false]
theorem Ub {t:AD} (hf:BT t) (a:Int):JN t a=some (H5 t a):=by
 unfold JN H5
 rw [Uf hf,bs]
 by_cases h:(BA t).2=0
 ·have hok:=GF h
  rw [Bool.and_self]
  simp only [h,ne_eq,not_true_eq_false,if_false]
  cases hi:Hv t a
  ·rfl
  ·rw [if_pos rfl,if_pos rfl]
   have hr:=Kq.1 hi
   have hl:=K5 hf (Int.le_refl _) hok.par hr.2
   have hw:=K4 hf (Int.le_refl _) hok.par hr.2
   rw [if_neg (by decide),Uc hf (Int.le_refl _) hok.par hr.1 hr.2,bs]
   rw [Hb (fun i=>(A8 t a).take i.toNat) (by omega) (by simp)]
   ·rw [bs,Int.toNat_natCast,List.take_length]
   ·intro i k1 k2
    have:=(hw _ (AO k1 k2)).names
    rw [AG k1 k2,bs,Hh (by unfold BZ; omega),bs,DG (by rw [List.length_take]; simp; unfold BZ; omega),Io k1 k2]
    rfl
 ·simp only [h,ne_eq,not_false_eq_true,if_true,decide_false,Bool.not_false]
end Go.Sf.Sc
namespace Go.Sf.Sc
open Go Go.Sf
def MC (t:AD):Nat->Int->List Int
 | 0,_=>[]
 | n+1,a=>if a<0 then [] else a::MC t n (par t a)
theorem Ur (t:AD):∀ (n:Nat) (a:Int),(MC t n a).length<=n
 | 0,_=>by simp [MC]
 | n+1,a=>by
  rw [MC]
  split
  ·simp
  ·have:=Ur t n (par t a); simp; omega
def Hw (t:AD) (a b:Int):Bool:=(MC t (a+1).toNat a).any fun x=>decide (b=x)
theorem US {t:AD} (h12:t.Nodes.length<=12) (hp:F3 t t.Nodes.length):∀ (n:Nat) (a:Int) (l:List Int),a<t.Nodes.length->a<n->l.length+n<=1000 ->
  ∃ x,LY (ρ:=List Int) (fun (s0:Int × List Int)=>
 if (decide (0<=s0.1))=true then
 (CO s0.2 [s0.1]).bind fun x17=>
 (AI t.Nodes s0.1).bind fun x11=>
 some (.next (x11.Parent,x17))
 else
 some (.brk (s0.1,s0.2))) (a,l) (.inl (x,l++MC t n a))
 | 0,a,l,h1,h2,_=>by
  refine ⟨a,.brk ?_⟩
  rw [if_neg (by simp; omega)]
  simp [MC]
 | n+1,a,l,h1,h2,h3=>by
  by_cases h0:a<0
  ·refine ⟨a,.brk ?_⟩
   rw [if_neg (by simp; omega)]
   simp [MC,h0]
  ·have hq:=hp a (by omega) h1
   obtain ⟨x,hx⟩:=US h12 hp n (par t a) (l++[a]) (by omega) (by omega) (by simp; omega)
   refine ⟨x,.next (s':=(par t a,l++[a])) ?_ ?_⟩
   ·rw [if_pos (by simp; omega),DG (by simp; unfold BZ; omega),bs,AG (by omega) h1]; rfl
   ·rw [MC,if_neg h0,show l++a::MC t n (par t a)=(l++[a])++MC t n (par t a) by simp]
    exact hx
theorem Xu {t:AD} (h:G1 t) {a b:Int} (ha:0<=a) (ha2:a<t.Nodes.length):IS t a b=some (Hw t a b):=by
 have h12:=h.nodes
 obtain ⟨x,hx⟩:=US h12 h.par (a+1).toNat a [] ha2 (by omega) (by simp; omega)
 have hl:=Ur t (a+1).toNat a
 unfold IS I4
 rw [hx.eq,DT]
 simp only [List.nil_append]
 unfold slices_Reverse_int
 rw [if_pos (by unfold BZ; omega)]
 simp only [bs]
 rw [Sh,bs]
 unfold Hw
 rw [List.any_reverse]
theorem TM {t:AD} (hp:F3 t t.Nodes.length) {b:Int} (hb:0<=b):∀ (n m:Nat) (a:Int),-1<=a->a<t.Nodes.length->a+1<n->a<m->GH n t a b=some ((MC t m a).any fun x=>decide (b=x))
 | 0,_,_,_,_,_,_=>by omega
 | n+1,m,a,h0,h1,h2,h3=>by
  rw [GH]
  by_cases ha:a<0
  ·rw [if_neg (by simp; omega),if_neg (by simp; omega)]
   cases m <;> simp [MC,ha]
  ·cases m with
   | zero=>omega
   | succ m=>
    have hq:=hp a (by omega) h1
    rw [MC,if_neg ha,List.any_cons,if_pos (show decide (0<=a)=true by simp; omega),AG (by omega) h1]
    simp only [bs]
    rw [show (AA t.Nodes a).Parent=par t a from rfl,TM hp hb n m (par t a) (by omega) (by omega) (by omega) (by omega)]
    by_cases hab:a=b
    ·simp [hab]
    ·have:¬ b=a:=fun e=>hab e.symm
     simp [hab,this]
theorem Pt {t:AD} (h:G1 t) {a b:Int} (ha:0<=a) (ha2:a<t.Nodes.length) (hb:0<=b):Hl t a b=some (Hw t a b):=
 EX (a+2).toNat fun n hn=>TM h.par hb n (a+1).toNat a (by omega) ha2 (by omega) (by omega)
def OZ (t:AD) (e f g:Int):Bool:=
 decide ((BA t).2=0)&&(Hv t f&&Hv t g)&&(decide (0<=e)&&decide (e<t.Edges.length))&&(Hw t f (AA t.Edges e).From&&Hw t g (AA t.Edges e).To)
theorem cE {t:AD} (hf:BT t) (e f g:Int):IH t e f g=some (OZ t e f g):=by
 unfold IH OZ
 rw [RJ hf,bs,show [f,g].all (Hv t)=(Hv t f&&Hv t g) by simp]
 by_cases h:(BA t).2=0
 ·simp only [h,ne_eq,not_true_eq_false,if_false]
  have hok:=GF h
  cases hi:(Hv t f&&Hv t g)
  ·rfl
  ·rw [Bool.and_eq_true,Kq,Kq] at hi
   by_cases he:0<=e∧e<t.Edges.length
   ·rw [if_neg (by simp; omega),AG he.1 he.2]
    simp only [bs,Xu hok hi.1.1 hi.1.2,Xu hok hi.2.1 hi.2.2,he.1,he.2,decide_true,Bool.true_and]
    cases Hw t f (AA t.Edges e).From <;> rfl
   ·rw [if_pos (by simp; omega)]
    have:(decide (0<=e)&&decide (e<t.Edges.length))=false:=by rw [Bool.eq_false_iff]; simpa using he
    rw [this]; simp
 ·simp [h]
theorem cQ {t:AD} (hf:BT t) (e f g:Int):LF t e f g=some (OZ t e f g):=by
 have hl:=hf.edges
 unfold LF OZ D9
 rw [Uf hf,bs]
 by_cases h:(BA t).2=0
 ·simp only [h,ne_eq,not_true_eq_false,if_false]
  have hok:=GF h
  cases hi:(Hv t f&&Hv t g)
  ·rfl
  ·rw [Bool.and_eq_true,Kq,Kq] at hi
   rw [BG (by omega) (by omega)]
   simp only [bs]
   by_cases he:0<=e∧e<t.Edges.length
   ·have he2:=hok.ends he.1 he.2
    have he3:e<=(t.Edges.length:Int) - 1:=by omega
    rw [if_neg (by simp),bs,if_neg (by simp [he.1,he3]),AG he.1 he.2]
    simp only [bs,Pt hok hi.1.1 hi.1.2 he2.1.1,Pt hok hi.2.1 hi.2.2 he2.2.1,he.1,he.2,decide_true,Bool.true_and]
    cases Hw t f (AA t.Edges e).From <;> rfl
   ·have:(decide (0<=e)&&decide (e<t.Edges.length))=false:=by rw [Bool.eq_false_iff]; simpa using he
    have h2:(decide (0<=e)&&decide (e<=(t.Edges.length:Int) - 1))=false:=by rw [Bool.eq_false_iff]; simp; omega
    rw [this,h2]; simp
 ·simp [h]
def LP (n:Int) (x:Term):Bool:=(((decide ((-1)<=x.Var))&&(decide (x.Var<n)))&&(decide ((-1000000)<=x.Add)))&&(decide (x.Add<=1000000))
def L0 (n:Int) (x:Test):Int:=if ¬ x.Kind=1∧¬ x.Kind=2 then 1 else if (LP n x.Left&&LP n x.Right)=true then 0 else 6
def JI (n:Int) (l:List Test):Int:=if n<0∨12<n then 6 else if 40<l.length then 3 else (fst (fun i=>nz (L0 n (AA l i))) 0 l.length).getD 0
theorem cN (n:Int) (x:Test):Ic n x=some (L0 n x):=by
 unfold Ic L0
 simp only [show ∀ n x,H8 n x=some (LP n x) from fun _ _=>rfl,bs]
 generalize LP n x.Left=b1
 generalize LP n x.Right=b2
 cases b1 <;> cases b2
 all_goals
  simp only [bs,decide_eq_true_eq,Bool.or_eq_true,Bool.and_eq_true,Bool.not_eq_true',decide_eq_false_iff_not,Bool.not_eq_false',Bool.or_eq_false_iff,Bool.and_eq_false_iff,ne_eq]
  repeat' (first | rfl | (exfalso; omega; done) | split)
  all_goals (first | rfl | (exfalso; omega) | omega | simp_all | (simp_all; omega))
theorem X5 (n:Int) (x:Term):Ih n x=some (if LP n x=true then 0 else 6):=by
 unfold Ih LP
 simp only [bs,decide_eq_true_eq,Bool.or_eq_true,Bool.and_eq_true,Bool.not_eq_true',decide_eq_false_iff_not,Bool.not_eq_false',Bool.or_eq_false_iff,Bool.and_eq_false_iff,ne_eq]
 repeat' (first | rfl | (exfalso; omega; done) | split)
 all_goals (first | rfl | (exfalso; omega) | omega | simp_all | (simp_all; omega))
theorem cZ (n:Int) (x:Test):L7 n x=some (L0 n x):=by
 unfold L7 L0
 simp only [X5,bs]
 generalize LP n x.Left=b1
 generalize LP n x.Right=b2
 cases b1 <;> cases b2
 all_goals
  simp only [bs,decide_eq_true_eq,Bool.or_eq_true,Bool.and_eq_true,Bool.not_eq_true',decide_eq_false_iff_not,Bool.not_eq_false',Bool.or_eq_false_iff,Bool.and_eq_false_iff,ne_eq]
  repeat' (first | rfl | (exfalso; omega; done) | split)
  all_goals (first | rfl | (exfalso; omega) | omega | simp_all | (simp_all; omega))
theorem Z6 (n:Int) (l:List Test):Hi n l=some (JI n l):=by
 unfold Hi JI
 rw [CG (fun i=>nz (L0 n (AA l i))),GD]
 ·simp only [bs,decide_eq_true_eq,Bool.or_eq_true,Bool.and_eq_true,Bool.not_eq_true',decide_eq_false_iff_not,Bool.not_eq_false',Bool.or_eq_false_iff,Bool.and_eq_false_iff,ne_eq]
  repeat' (first | rfl | (exfalso; omega; done) | split)
  all_goals (first | rfl | (exfalso; omega) | omega | simp_all | (simp_all; omega))
 ·intro i h1 h2 _
  rw [AG h1 h2,bs,cN,bs,Nq]
theorem aI (n:Int) (l:List Test):KN n l=some (JI n l):=by
 unfold KN JI
 rw [CG (fun i=>nz (L0 n (AA l i))),GD]
 ·simp only [bs,decide_eq_true_eq,Bool.or_eq_true,Bool.and_eq_true,Bool.not_eq_true',decide_eq_false_iff_not,Bool.not_eq_false',Bool.or_eq_false_iff,Bool.and_eq_false_iff,ne_eq]
  repeat' (first | rfl | (exfalso; omega; done) | split)
  all_goals (first | rfl | (exfalso; omega) | omega | simp_all | (simp_all; omega))
 ·intro i h1 h2 _
  rw [AG h1 h2,bs,cZ,bs,Nq]
def M5 (t:AD) (p:Pattern) (node ix:Int):Attr × Bool:=
 if node<0∨p.Graph.Nodes.length<=node then (default,false) else
 let l:=(H5 t (AA p.Graph.Nodes node)).1
 if ix<0∨l.length<=ix then (default,false) else (AA l ix,true)
theorem Qa {t:AD} (hf:BT t) (a:Int):(H5 t a).1.length<=600∧((H5 t a).2≠0->(H5 t a).1=[]):=by
 unfold H5
 split
 ·simp
 ·rename_i h
  have hok:=GF (t:=t) (by omega)
  split
  ·rename_i hi
   exact ⟨K5 hf (Int.le_refl _) hok.par (Kq.1 hi).2,by simp⟩
  ·simp
theorem Zy {t:AD} (hf:BT t) {p:Pattern} (hg:JL p.Graph) (s:DP):FT t p s=some (M5 t p s.Node s.Attr):=by
 have hn:=hg.nodes
 unfold FT M5 C8
 dsimp only
 rw [BG (by omega) (by omega),bs]
 by_cases h:s.Node<0∨p.Graph.Nodes.length<=s.Node
 ·rw [if_pos (by simp; omega),if_pos h]; rfl
 ·rw [if_neg (by simp; omega),if_neg h,AG (by omega) (by omega),bs,UW hf,bs]
  have hl:=(Qa hf (AA p.Graph.Nodes s.Node)).1
  rw [BG (by omega) (by omega),bs]
  by_cases h2:s.Attr<0∨(H5 t (AA p.Graph.Nodes s.Node)).1.length<=s.Attr
  ·rw [if_pos (by simp; omega),if_pos h2]; rfl
  ·rw [if_neg (by simp; omega),if_neg h2,AG (by omega) (by omega)]; rfl
theorem aA {t:AD} (hf:BT t) {p:Pattern} (node ix:Int):LJ t p node ix=some (M5 t p node ix):=by
 unfold LJ M5
 dsimp only
 by_cases h:node<0∨p.Graph.Nodes.length<=node
 ·rw [if_pos (by simp; omega),if_pos h]; rfl
 ·rw [if_neg (by simp; omega),if_neg h,AG (by omega) (by omega),bs,Ub hf,bs]
  have hl:=(Qa hf (AA p.Graph.Nodes node)).2
  by_cases h2:ix<0∨(H5 t (AA p.Graph.Nodes node)).1.length<=ix
  ·rw [if_pos (by simp; omega),if_pos h2]; rfl
  ·by_cases he:(H5 t (AA p.Graph.Nodes node)).2=0
   ·rw [if_neg (by simp [he]; omega),if_neg h2,AG (by omega) (by omega)]; rfl
   ·rw [hl he] at h2; simp at h2; omega
end Go.Sf.Sc
namespace Go.Sf
variable {σ ρ:Type}
def dH (s:σ) (o:Option ρ):CE σ ρ:=match o with
 | none=>.next s
 | some r=>.ret r
def ZC (s:σ) (o:Option ρ):σ ⊕ ρ:=match o with
 | none=>.inl s
 | some r=>.inr r
theorem St {f:Int->σ->Option (CE σ ρ)} (g:Int->σ) (c:Int->Option ρ):∀ (n:Nat) (a:Int),
  (∀ i,a<=i->i<a+n->(∀ j,a<=j->j<i->c j=none)->f i (g i)=some (dH (g (i+1)) (c i)))->forGo f n a (g a)=some (ZC (g (a+n)) (FX c n a))
 | 0,a,_=>by simp [forGo,FX,ZC]
 | n+1,a,h=>by
  have h0:=h a (Int.le_refl _) (by omega) (fun j h1 h2=>by omega)
  rw [GR,h0,FX]
  cases hc:c a with
  | some r=>rfl
  | none=>
   simp only [dH]
   rw [show a+((n+1:Nat):Int)=a+1+n by omega]
   refine St g c n (a+1) (fun i h1 h2 h3=>h i (by omega) (by omega) (fun j h4 h5=>?_))
   by_cases hj:j=a
   ·subst hj; exact hc
   ·exact h3 j (by omega) h5
theorem Nn {f:Int->σ->Option (CE σ ρ)} (g:Int->σ) (c:Int->Option ρ) {a b:Int} {s:σ} (hab:a<=b) (hs:s=g a) (h:∀ i,a<=i->i<b->(∀ j,a<=j->j<i->c j=none)->f i (g i)=some (dH (g (i+1)) (c i))):forR f a b s=some (ZC (g b) (fst c a b)):=by
 subst hs
 unfold forR fst
 have:=St g c (b - a).toNat a (fun i h1 h2 h3=>h i h1 (by omega) h3)
 rwa [show a+((b - a).toNat:Int)=b by omega] at this
variable {α:Type}
theorem HC {e:Int} {X:Option Int} {Y:Int} (h:e=0->X=some Y):(if (!decide (e=0))=true then some e else X)=some (if e≠0 then e else Y):=by
 by_cases he:e=0
 ·simp [he,h he]
 ·simp [he]
theorem JW {e:Int} {v:α} {X:Option α} {Y:α} (h:e=0->X=some Y):(if (!decide (e=0))=true then some v else X)=some (if e≠0 then v else Y):=by
 by_cases he:e=0
 ·simp [he,h he]
 ·simp [he]
theorem Nc {P:Prop} [Decidable P] {b:Bool} {v:α} {X:Option α} {Y:α} (hb:b=true↔P) (h:¬ P->X=some Y):(if b=true then some v else X)=some (if P then v else Y):=by
 by_cases hp:P
 ·rw [if_pos (hb.2 hp),if_pos hp]
 ·rw [if_neg (fun h=>hp (hb.1 h)),if_neg hp,h hp]
theorem UH {b:Bool} {v:α} {X:Option α} {Y:α} (h:b=true->X=some Y):(if (!b)=true then some v else X)=some (if b=false then v else Y):=by
 cases b
 ·rfl
 ·simpa using h rfl
theorem kO {b:Bool} {v:α} {X:Option α} {Y:α} (h:b=false->X=some Y):(if b=true then some v else X)=some (if b=true then v else Y):=by
 cases b
 ·simpa using h rfl
 ·rfl
end Go.Sf
namespace Go.Sf.Sc
open Go Go.Sf
def N4 (t:AD) (p:Pattern) (s:DP):Bool:=!(M5 t p s.Node s.Attr).2||decide (s.Term.Var < -1)||decide (p.Vars<=s.Term.Var)||(decide (s.Term.Add < -1000000)||decide (1000000<s.Term.Add))
def Jk (p:Pattern) (v:Int):Bool:=p.Slots.any fun s=>decide (s.Term.Var=v)
def Jm (t:AD) (p:Pattern):Int:=
 if (BA t).2≠0 then (BA t).2 else if C5 p.Graph≠0 then C5 p.Graph else if FG t p.Graph=false then 13 else
 if p.Vars<0∨12<p.Vars then 6 else if 10<p.Slots.length∨10<p.Tests.length then 3 else
 if (p.Slots.any (N4 t p))=true then 6 else if JI p.Vars p.Tests≠0 then JI p.Vars p.Tests else
 if anyR (fun v=>!Jk p v) 0 p.Vars=true then 9 else 0
def I6 (p:Pattern) (i:Int):List Bool:=(List.range p.Vars.toNat).map fun (v:Nat)=>(p.Slots.take i.toNat).any fun s=>decide (s.Term.Var=(v:Int))
theorem Vl {p:Pattern}:I6 p 0=List.replicate p.Vars.toNat false:=by
 unfold I6
 refine List.ext_getElem (by simp) (fun n h1 h2=>by simp)
theorem W7 (p:Pattern) (i:Int):(I6 p i).length=p.Vars.toNat:=by simp [I6]
theorem W8 {p:Pattern} {i:Int} (h0:0<=i) (h1:i<p.Slots.length) (hv:0<=(AA p.Slots i).Term.Var):CS (I6 p i) (AA p.Slots i).Term.Var true=I6 p (i+1):=by
 unfold CS
 refine List.ext_getElem (by simp [I6]) (fun n k1 k2=>?_)
 simp only [I6,List.getElem_set,List.getElem_map,List.getElem_range,Io h0 h1,List.any_append,List.any_cons,List.any_nil,Bool.or_false]
 by_cases hn:(AA p.Slots i).Term.Var.toNat=n
 ·rw [if_pos hn,decide_eq_true (show (AA p.Slots i).Term.Var=(n:Int) by omega),Bool.or_true]
 ·rw [if_neg hn,decide_eq_false (show ¬ (AA p.Slots i).Term.Var=(n:Int) by omega),Bool.or_false]
theorem Vk {p:Pattern} {i:Int} (h0:0<=i) (h1:i<p.Slots.length) (hv:(AA p.Slots i).Term.Var<0):I6 p i=I6 p (i+1):=by
 refine List.ext_getElem (by simp [I6]) (fun n k1 k2=>?_)
 simp only [I6,List.getElem_map,List.getElem_range,Io h0 h1,List.any_append,List.any_cons,List.any_nil,Bool.or_false]
 rw [decide_eq_false (show ¬ (AA p.Slots i).Term.Var=(n:Int) by omega),Bool.or_false]
theorem W6 (p:Pattern):((I6 p p.Slots.length).any fun x=>false==x)=anyR (fun v=>!Jk p v) 0 p.Vars:=by
 rw [Bool.eq_iff_iff,List.any_eq_true,Hg]
 simp only [I6,Int.toNat_natCast,List.take_length,List.mem_map,List.mem_range]
 constructor
 ·rintro ⟨x,⟨v,hv,rfl⟩,hx⟩
  refine ⟨v,by omega,by omega,?_⟩
  unfold Jk
  revert hx
  cases p.Slots.any fun s=>decide (s.Term.Var=(v:Int)) <;> simp
 ·rintro ⟨v,h0,h1,hx⟩
  refine ⟨_,⟨v.toNat,by omega,rfl⟩,?_⟩
  rw [Int.toNat_of_nonneg h0]
  unfold Jk at hx
  revert hx
  cases p.Slots.any fun s=>decide (s.Term.Var=v) <;> simp
theorem Zm {α ρ:Type} [Inhabited α] {l:List α} {q:α->Bool} {v:ρ}:fst (fun i=>if q (AA l i)=true then some v else none) 0 l.length=if l.any q=true then some v else none:=by
 rw [M9,KE]
theorem SM {t:AD} (hf:BT t) (p:Pattern):DX t p=some (Jm t p):=by
 unfold DX Jm
 rw [Pp hf,bs,Mg,bs]
 refine HC fun ht=>HC fun hg=>?_
 have hgo:=FA hg
 have e:((BH p.Graph.Nodes (fun y0=>G9 y0 t)).bind fun x32=>
   (if x32=true then some true else ((BU p.Graph.Edges (fun y0=>HB y0 t)).bind fun x38=>some (x38))))=some (!FG t p.Graph):=by
  unfold FG
  rw [show (fun y0=>G9 y0 t)=(fun (n:Int)=>some (decide (t.Nodes.length<=n))) from rfl,Vv,show (fun y0=>HB y0 t)=(fun (e:CW)=>some (decide (t.Edges.length<=e.Type'))) from rfl,Zb]
  simp only [bs]
  cases p.Graph.Nodes.any fun n=>decide (t.Nodes.length<=n) <;> simp
 rw [←Option.bind_assoc,e,bs]
 refine UH fun htd=>?_
 unfold C8
 simp only [bs]
 refine Nc (by simp; try omega) fun hv=>Nc (by simp; try omega) fun hl=>?_
 unfold KK
 rw [if_pos (by omega),bs,←Vl,BG (show -9223372036854775808<=p.Vars - 1 by omega) (by omega),Nn (I6 p) (fun i=>if N4 t p (AA p.Slots i)=true then some 6 else none) (by omega) rfl,Zm]
 ·cases hb:p.Slots.any (N4 t p)
  ·simp only [Bool.false_eq_true,if_false,ZC,DT,Z6,bs,Zf,W6]
   by_cases hte:JI p.Vars p.Tests=0
   ·simp only [hte]
    cases anyR (fun v=>!Jk p v) 0 p.Vars <;> rfl
   ·simp [hte]
  ·rfl
 ·intro i h1 h2 _
  rw [AG h1 h2,bs,Zy hf hgo,bs]
  unfold N4
  by_cases hb:(M5 t p (AA p.Slots i).Node (AA p.Slots i).Attr).2=true
  ·by_cases hvar:(AA p.Slots i).Term.Var < -1∨p.Vars<=(AA p.Slots i).Term.Var
   ·have e1:(decide (-1<=(AA p.Slots i).Term.Var)&&decide ((AA p.Slots i).Term.Var<=p.Vars - 1))=false:=by rw [Bool.eq_false_iff]; simp; omega
    have e2:(decide ((AA p.Slots i).Term.Var < -1)||decide (p.Vars<=(AA p.Slots i).Term.Var))=true:=by simp; omega
    rw [hb,e1,Bool.or_assoc (!true),e2]; rfl
   ·have e1:(decide (-1<=(AA p.Slots i).Term.Var)&&decide ((AA p.Slots i).Term.Var<=p.Vars - 1))=true:=by simp; omega
    have e2:(decide ((AA p.Slots i).Term.Var < -1)||decide (p.Vars<=(AA p.Slots i).Term.Var))=false:=by rw [Bool.eq_false_iff]; simp; omega
    rw [hb,e1,Bool.or_assoc (!true),e2]
    by_cases ha:(AA p.Slots i).Term.Add < -1000000∨1000000<(AA p.Slots i).Term.Add
    ·have e3:(decide (-1000000<=(AA p.Slots i).Term.Add)&&decide ((AA p.Slots i).Term.Add<=1000000))=false:=by rw [Bool.eq_false_iff]; simp; omega
     have e4:(decide ((AA p.Slots i).Term.Add < -1000000)||decide (1000000<(AA p.Slots i).Term.Add))=true:=by simp; omega
     rw [e3,e4]; rfl
    ·have e3:(decide (-1000000<=(AA p.Slots i).Term.Add)&&decide ((AA p.Slots i).Term.Add<=1000000))=true:=by simp; omega
     have e4:(decide ((AA p.Slots i).Term.Add < -1000000)||decide (1000000<(AA p.Slots i).Term.Add))=false:=by rw [Bool.eq_false_iff]; simp; omega
     rw [e3,e4]
     by_cases h0:0<=(AA p.Slots i).Term.Var
     ·simp only [Bool.not_true,Bool.false_eq_true,if_false,bs,h0,decide_true,if_true,Bool.or_false]
      rw [AG h0 (by rw [W7]; omega),bs,W8 h1 h2 h0]; rfl
     ·simp only [Bool.not_true,Bool.false_eq_true,if_false,bs,h0,decide_false,Bool.or_false]
      rw [Vk h1 h2 (by omega)]; rfl
  ·rw [Bool.not_eq_true] at hb
   rw [hb]; rfl
theorem Y1 (p:Pattern) (v:Int):Jr p v=some (Jk p v):=by
 unfold Jr Jk
 rw [B2 (fun i=>decide ((AA p.Slots i).Term.Var=v)) true,KE]
 ·cases anyR (fun i=>decide ((AA p.Slots i).Term.Var=v)) 0 p.Slots.length <;> rfl
 ·intro i h1 h2 _
  rw [AG h1 h2,bs,Ig]
theorem VP {t:AD} (hf:BT t) (p:Pattern):IP t p=some (Jm t p):=by
 unfold IP Jm
 rw [Ps hf,bs,Mi,bs]
 refine HC fun ht=>HC fun hg=>?_
 have hgo:=FA hg
 rw [RL hgo,bs]
 refine UH fun htd=>Nc (by simp; try omega) fun hv=>Nc (by simp; try omega) fun hl=>?_
 rw [B2 (fun i=>N4 t p (AA p.Slots i)) 6,←KE]
 ·cases hb:p.Slots.any (N4 t p)
  ·simp only [Bool.false_eq_true,if_false,DT,aI,bs]
   by_cases hte:JI p.Vars p.Tests=0
   ·simp only [hte]
    rw [B2 (fun v=>!Jk p v) 9]
    ·cases anyR (fun v=>!Jk p v) 0 p.Vars <;> rfl
    ·intro i h1 h2 _
     rw [Y1,bs,Ig]
   ·simp [hte]
  ·rfl
 ·intro i h1 h2 _
  rw [AG h1 h2,bs,aA hf,bs]
  unfold N4 Ke
  simp only [bs]
  have e:(!(decide (-1000000<=(AA p.Slots i).Term.Add)&&decide ((AA p.Slots i).Term.Add<=1000000)))=(decide ((AA p.Slots i).Term.Add < -1000000)||decide (1000000<(AA p.Slots i).Term.Add)):=by
   rw [Bool.not_and,←decide_not,←decide_not]
   congr 1 <;> rw [decide_eq_decide] <;> omega
  rw [e]
  cases (!(M5 t p (AA p.Slots i).Node (AA p.Slots i).Attr).2||decide ((AA p.Slots i).Term.Var < -1)||decide (p.Vars<=(AA p.Slots i).Term.Var))
  ·simp only [Bool.false_eq_true,if_false,bs,Bool.false_or,Ig]
  ·rfl
end Go.Sf.Sc
namespace Go.Sf
theorem T3 {l:List Int} {R:Int->Int->Prop} (h:l.Pairwise R) {i j:Int} (h0:0<=i) (h1:i<j) (h2:j<l.length):R (AA l i) (AA l j):=by
 have:=(List.pairwise_iff_getElem.1 h) i.toNat j.toNat (by omega) (by omega) (by omega)
 unfold AA
 rw [List.getD_eq_getElem?_getD,List.getD_eq_getElem?_getD,List.getElem?_eq_getElem (by omega),List.getElem?_eq_getElem (by omega)]
 exact this
theorem Tp {l:List Int} {R:Int->Int->Prop} (h:∀ i j:Int,0<=i->i<j->j<l.length->R (AA l i) (AA l j)):l.Pairwise R:=by
 refine List.pairwise_iff_getElem.2 (fun i j h1 h2 h3=>?_)
 have:=h i j (by omega) (by omega) (by omega)
 unfold AA at this
 rw [List.getD_eq_getElem?_getD,List.getD_eq_getElem?_getD,Int.toNat_natCast,Int.toNat_natCast,List.getElem?_eq_getElem h1,List.getElem?_eq_getElem h2] at this
 exact this
end Go.Sf
namespace Go.Sf.Sc
open Go Go.Sf
theorem Rd {c:Int->Option Int} {a b:Int} (hc:∀ i,c i≠some 0) (h:(fst c a b).getD 0=0):∀ i,a<=i->i<b->c i=none:=by
 have:fst c a b=none:=by
  cases hf:fst c a b with
  | none=>rfl
  | some r=>
   rw [hf] at h
   simp only [Option.getD] at h
   subst h
   obtain ⟨i,_,_,h3,_⟩:=D8 hf
   exact (hc i h3).elim
 exact DQ.1 this
end Go.Sf.Sc
namespace Go.Sf.Sc
open Go Go.Sf
def KJ (a b:Graph) (m:Morphism) (i:Int):Option Int:=
 if AA m.Nodes i<0∨b.Nodes.length<=AA m.Nodes i then some 6 else if AA b.Nodes (AA m.Nodes i)≠AA a.Nodes i then some 13 else none
def HI (a b:Graph) (m:Morphism) (i:Int):Option Int:=
 if AA m.Edges i<0∨b.Edges.length<=AA m.Edges i then some 6 else
 if (AA a.Edges i).Type'≠(AA b.Edges (AA m.Edges i)).Type' then some 13 else
 if AA m.Nodes (AA a.Edges i).From≠(AA b.Edges (AA m.Edges i)).From∨AA m.Nodes (AA a.Edges i).To≠(AA b.Edges (AA m.Edges i)).To then some 11 else none
def NW (a b:Graph) (m:Morphism):Int:=
 if C5 a≠0 then C5 a else if C5 b≠0 then C5 b else if m.Nodes.length≠a.Nodes.length∨m.Edges.length≠a.Edges.length then 20 else
 match fst (KJ a b m) 0 m.Nodes.length with
 | some e=>e
 | none=>(fst (HI a b m) 0 m.Edges.length).getD 0
structure Yn (a b:Graph) (m:Morphism):Prop where
 ga:JL a
 gb:JL b
 nlen:m.Nodes.length=a.Nodes.length
 elen:m.Edges.length=a.Edges.length
 node:∀ i:Int,0<=i->i<m.Nodes.length->(0<=AA m.Nodes i∧AA m.Nodes i<b.Nodes.length)∧AA b.Nodes (AA m.Nodes i)=AA a.Nodes i
 edge:∀ i:Int,0<=i->i<m.Edges.length->(0<=AA m.Edges i∧AA m.Edges i<b.Edges.length)∧(AA a.Edges i).Type'=(AA b.Edges (AA m.Edges i)).Type' ∧
  AA m.Nodes (AA a.Edges i).From=(AA b.Edges (AA m.Edges i)).From∧AA m.Nodes (AA a.Edges i).To=(AA b.Edges (AA m.Edges i)).To
theorem Yv {a b:Graph} {m:Morphism} (h:NW a b m=0):Yn a b m:=by
 unfold NW at h
 split at h
 ·omega
 split at h
 ·omega
 split at h
 ·cases h
 rename_i h1 h2 h3
 have hn:fst (KJ a b m) 0 m.Nodes.length=none:=by
  split at h
  ·rename_i r hr
   obtain ⟨i,_,_,k,_⟩:=D8 hr
   subst h
   unfold KJ at k
   split at k
   ·cases k
   ·split at k <;> cases k
  ·assumption
 rw [hn] at h
 have he:=Rd (fun i=>by
  unfold HI
  split
  ·simp
  ·split
   ·simp
   ·split <;> simp) h
 refine ⟨FA (by omega),FA (by omega),by omega,by omega,fun i i1 i2=>?_,fun i i1 i2=>?_⟩
 ·have:=DQ.1 hn i i1 i2
  unfold KJ at this
  split at this
  ·cases this
  ·split at this
   ·cases this
   ·rename_i x y
    exact ⟨by omega,Classical.not_not.1 y⟩
 ·have:=he i i1 i2
  unfold HI at this
  split at this
  ·cases this
  ·split at this
   ·cases this
   ·split at this
    ·cases this
    ·rename_i x y z
     exact ⟨by omega,Classical.not_not.1 y,Classical.not_not.1 (fun h=>z (.inl h)),Classical.not_not.1 (fun h=>z (.inr h))⟩
theorem Yw (a b:Graph) (m:Morphism):EP a b m=some (NW a b m):=by
 unfold EP NW
 rw [Mg,bs,Mg,bs]
 refine HC fun ha=>HC fun hb=>Nc (by simp; try omega) fun hl=>?_
 have ga:=FA ha
 have gb:=FA hb
 rw [CG (KJ a b m),E7]
 ·cases hn:fst (KJ a b m) 0 m.Nodes.length with
  | some e=>rfl
  | none=>
   have hn2:=DQ.1 hn
   dsimp only
   rw [CG (HI a b m),GD]
   intro i i1 i2 _
   unfold HI
   rw [AG i1 i2,bs]
   by_cases h1:AA m.Edges i<0∨b.Edges.length<=AA m.Edges i
   ·rw [if_pos (by simpa using h1),if_pos h1]; rfl
   ·have hf:=ga.fit _ (AO (l:=a.Edges) i1 (by omega))
    rw [if_neg (by simpa using h1),if_neg h1,AG i1 (by omega),bs,AG (by omega) (by omega),bs]
    by_cases h2:(AA a.Edges i).Type'=(AA b.Edges (AA m.Edges i)).Type'
    ·rw [if_neg (by simpa using h2),if_neg (by simpa using h2),AG (by omega) (by omega),bs]
     by_cases h3:AA m.Nodes (AA a.Edges i).From=(AA b.Edges (AA m.Edges i)).From
     ·rw [if_neg (by simpa using h3),AG (by omega) (by omega),bs,bs]
      by_cases h4:AA m.Nodes (AA a.Edges i).To=(AA b.Edges (AA m.Edges i)).To
      ·rw [if_neg (by simpa using h4),if_neg (by simp [h3,h4])]; rfl
      ·rw [if_pos (by simpa using h4),if_pos (.inr h4)]; rfl
     ·rw [if_pos (by simpa using h3),bs,if_pos rfl,if_pos (.inl h3)]; rfl
    ·rw [if_pos (by simpa using h2),if_pos h2]; rfl
 ·intro i i1 i2 _
  unfold KJ
  rw [AG i1 i2,bs]
  by_cases h1:AA m.Nodes i<0∨b.Nodes.length<=AA m.Nodes i
  ·rw [if_pos (by simpa using h1),if_pos h1]; rfl
  ·rw [if_neg (by simpa using h1),if_neg h1,AG (by omega) (by omega),bs,AG i1 (by omega),bs]
   by_cases h2:AA b.Nodes (AA m.Nodes i)=AA a.Nodes i
   ·rw [if_neg (by simpa using h2),if_neg (by simpa using h2)]; rfl
   ·rw [if_pos (by simpa using h2),if_pos h2]; rfl
theorem PU {x y:Prop} [Decidable x] [Decidable y]:(if decide x=true then some true else some (decide y))=some (decide (x∨y)):=by
 by_cases hx:x <;> simp [hx]
theorem Yz (a b:Graph) (m:Morphism):JQ a b m=some (NW a b m):=by
 unfold JQ NW
 rw [Mi,bs,Mi,bs]
 refine HC fun ha=>HC fun hb=>Nc (by simp; try omega) fun hl=>?_
 have ga:=FA ha
 have gb:=FA hb
 rw [show (a.Nodes.length:Int)=m.Nodes.length by omega,show (a.Edges.length:Int)=m.Edges.length by omega,CG (KJ a b m),E7]
 ·cases hn:fst (KJ a b m) 0 m.Nodes.length with
  | some e=>rfl
  | none=>
   have hn2:=DQ.1 hn
   dsimp only
   rw [CG (HI a b m),GD]
   intro i i1 i2 _
   unfold HI
   rw [AG i1 i2]
   simp only [bs,PU]
   by_cases h1:AA m.Edges i<0∨b.Edges.length<=AA m.Edges i
   ·rw [if_pos (by simpa using h1),if_pos h1]; rfl
   ·have hf:=ga.fit _ (AO (l:=a.Edges) i1 (by omega))
    rw [if_neg (by simpa using h1),if_neg h1,AG i1 (by omega),bs,AG (by omega) (by omega),bs]
    by_cases h2:(AA a.Edges i).Type'=(AA b.Edges (AA m.Edges i)).Type'
    ·rw [if_neg (by simpa using h2),if_neg (by simpa using h2),AG (by omega) (by omega),bs]
     by_cases h3:AA m.Nodes (AA a.Edges i).From=(AA b.Edges (AA m.Edges i)).From
     ·rw [if_neg (by simpa using h3),AG (by omega) (by omega),bs,bs]
      by_cases h4:AA m.Nodes (AA a.Edges i).To=(AA b.Edges (AA m.Edges i)).To
      ·rw [if_neg (by simpa using h4),if_neg (by simp [h3,h4])]; rfl
      ·rw [if_pos (by simpa using h4),if_pos (.inr h4)]; rfl
     ·rw [if_pos (by simpa using h3),bs,if_pos rfl,if_pos (.inl h3)]; rfl
    ·rw [if_pos (by simpa using h2),if_pos h2]; rfl
 ·intro i i1 i2 _
  unfold KJ
  rw [AG i1 i2]
  simp only [bs,PU]
  by_cases h1:AA m.Nodes i<0∨b.Nodes.length<=AA m.Nodes i
  ·rw [if_pos (by simpa using h1),if_pos h1]; rfl
  ·rw [if_neg (by simpa using h1),if_neg h1,AG (by omega) (by omega),bs,AG i1 (by omega),bs]
   by_cases h2:AA b.Nodes (AA m.Nodes i)=AA a.Nodes i
   ·rw [if_neg (by simpa using h2),if_neg (by simpa using h2)]; rfl
   ·rw [if_pos (by simpa using h2),if_pos h2]; rfl
def J9 (l:List Int):Bool:=!anyR (fun i=>anyR (fun j=>decide (AA l i=AA l j)) 0 i) 0 l.length
theorem Sj {l:List Int}:J9 l=true↔l.Nodup:=by
 unfold J9
 rw [Bool.not_eq_true',EB]
 constructor
 ·intro h
  refine Tp (fun i j h0 h1 h2=>?_)
  have:=h j (by omega) h2
  rw [EB] at this
  have:=this i h0 h1
  rw [decide_eq_false_iff_not] at this
  exact fun e=>this e.symm
 ·intro h i i1 i2
  rw [EB]
  intro j j1 j2
  rw [decide_eq_false_iff_not]
  exact fun e=>T3 h j1 j2 i2 e.symm
theorem VO (l:List Int):Hf l=some (J9 l):=by
 unfold Hf J9
 rw [B2 (fun i=>anyR (fun j=>decide (AA l i=AA l j)) 0 i) false]
 ·cases anyR (fun i=>anyR (fun j=>decide (AA l i=AA l j)) 0 i) 0 l.length <;> rfl
 ·intro i i1 i2 _
  rw [B2 (fun j=>decide (AA l i=AA l j)) false]
  ·cases anyR (fun j=>decide (AA l i=AA l j)) 0 i <;> rfl
  ·intro j j1 j2 _
   rw [AG i1 i2,bs,AG j1 (by omega),bs,Ig]
theorem TG {l:List Int} (hl:l.length<=1000):∃ k,G4 l=some k∧decide (k=(l.length:Int))=J9 l:=by
 have hs:(NC l).length=l.length:=(MV l).length_eq
 refine ⟨((Go.Lib.compact (NC l)).length:Int),?_,?_⟩
 ·unfold G4 slices_Clone_int slices_Sort_int slices_Compact_int
  rw [Hh (by unfold BZ; omega),bs,if_pos (by unfold BZ; omega),bs,if_pos (by rw [hs]; unfold BZ; omega),bs]
 ·rw [Bool.eq_iff_iff,Sj,decide_eq_true_eq,←(MV l).nodup_iff,←O3 (Mu l),hs]
  omega
def NU (m:Morphism):Bool:=J9 m.Nodes&&J9 m.Edges
theorem jG {a b:Graph} {m:Morphism} (h:NW a b m=0):DZ a b m=some (NU m):=by
 have ho:=Yv h
 have:=ho.ga.nodes
 have:=ho.ga.edges
 have:=ho.nlen
 have:=ho.elen
 obtain ⟨k,k1,k2⟩:=TG (l:=m.Nodes) (by omega)
 obtain ⟨j,j1,j2⟩:=TG (l:=m.Edges) (by omega)
 unfold DZ NU
 rw [Yw,h,bs,if_pos (decide_eq_true rfl),k1]
 simp only [bs,j1,k2,j2]
 cases J9 m.Nodes <;> rfl
theorem jJ {a b:Graph} {m:Morphism} (h:NW a b m=0):ID a b m=some (NU m):=by
 unfold ID NU
 rw [Yz,h,bs,if_pos (decide_eq_true rfl),VO]
 simp only [bs,VO]
 cases J9 m.Nodes <;> rfl
def QF (t:AD) (g:Graph) (i:Int):Bool:=OZ t (AA g.Edges i).Type' (AA g.Nodes (AA g.Edges i).From) (AA g.Nodes (AA g.Edges i).To)
end Go.Sf.Sc
namespace Go.Sf.Sc
open Go Go.Sf
structure PG (p:Pattern):Prop where
 nodes:p.Graph.Nodes.length<=45
 edges:p.Graph.Edges.length<=90
 slots:p.Slots.length<=15
 tests:p.Tests.length<=15
structure XF (m:Morphism):Prop where
 nodes:m.Nodes.length<=140
 edges:m.Edges.length<=140
inductive EI:AB->Prop where
 | mk (c:AB) (hq:PG c.Pattern) (hm:XF c.Map) (hk:∀ k∈c.Kids,EI k):EI c
theorem EI.q {c:AB} (h:EI c):PG c.Pattern:=by cases h; assumption
theorem EI.m {c:AB} (h:EI c):XF c.Map:=by cases h; assumption
theorem EI.k {c:AB} (h:EI c):∀ k∈c.Kids,EI k:=by cases h; assumption
theorem GB {c k:AB} (h:k∈c.Kids):SizeOf.sizeOf k<SizeOf.sizeOf c:=by
 have:=List.sizeOf_lt_of_mem h
 cases c
 simp only [AB.mk.sizeOf_spec] at *
 omega
theorem E6 (c:AB):0<SizeOf.sizeOf c:=by
 cases c
 simp only [AB.mk.sizeOf_spec]
 omega
def MP (c:AB):Bool:=decide (c.Map.Nodes.length=0∧c.Map.Edges.length=0∧c.Pattern.Graph.Nodes.length=0∧c.Pattern.Graph.Edges.length=0∧c.Pattern.Slots.length=0∧c.Pattern.Tests.length=0∧c.Pattern.Vars=0)
theorem cF {c:AB} (hf:EI c):FU c=some (MP c):=by
 have h1:=hf.q
 have h2:=hf.m
 have:=h1.nodes
 have:=h1.edges
 have:=h1.slots
 have:=h1.tests
 have:=h2.nodes
 have:=h2.edges
 unfold FU MP
 rw [BG (n:=(c.Map.Nodes.length:Int)+c.Map.Edges.length) (by omega) (by omega),BG (n:=(c.Map.Nodes.length:Int)+c.Map.Edges.length+c.Pattern.Graph.Nodes.length) (by omega) (by omega),
  BG (n:=(c.Map.Nodes.length:Int)+c.Map.Edges.length+c.Pattern.Graph.Nodes.length+c.Pattern.Graph.Edges.length) (by omega) (by omega),
  BG (n:=(c.Map.Nodes.length:Int)+c.Map.Edges.length+c.Pattern.Graph.Nodes.length+c.Pattern.Graph.Edges.length+c.Pattern.Slots.length) (by omega) (by omega),
  BG (n:=(c.Map.Nodes.length:Int)+c.Map.Edges.length+c.Pattern.Graph.Nodes.length+c.Pattern.Graph.Edges.length+c.Pattern.Slots.length+c.Pattern.Tests.length) (by omega) (by omega)]
 congr 1
 rw [Bool.eq_iff_iff]
 simp only [Bool.and_eq_true,decide_eq_true_eq]
 omega
theorem X4 {c:AB} (hf:EI c):Hn c=some (MP c):=by
 have h1:=hf.q
 have h2:=hf.m
 have:=h1.nodes
 have:=h1.edges
 have:=h1.slots
 have:=h1.tests
 have:=h2.nodes
 have:=h2.edges
 unfold Hn MP
 rw [BG (n:=(c.Map.Nodes.length:Int)+c.Map.Edges.length) (by omega) (by omega),BG (n:=(c.Map.Nodes.length:Int)+c.Map.Edges.length+c.Pattern.Graph.Nodes.length) (by omega) (by omega),
  BG (n:=(c.Map.Nodes.length:Int)+c.Map.Edges.length+c.Pattern.Graph.Nodes.length+c.Pattern.Graph.Edges.length) (by omega) (by omega),
  BG (n:=(c.Pattern.Slots.length:Int)+c.Pattern.Tests.length) (by omega) (by omega)]
 congr 1
 rw [Bool.eq_iff_iff]
 simp only [Bool.and_eq_true,decide_eq_true_eq]
 omega
def Od (c:AB):Bool:=
 if c.Kind=1 then decide (c.Kids.length=0)&&MP c else if c.Kind=2 then decide (c.Kids.length=1)&&MP c else
 if c.Kind=3∨c.Kind=4 then decide (1<=c.Kids.length)&&MP c else if c.Kind=5 then decide (c.Kids.length=1) else false
def Ny:Nat->AB->Bool
 | 0,_=>false
 | n+1,c=>Od c&&c.Kids.all (Ny n)
theorem cP:∀ (N:Nat) (c:AB),SizeOf.sizeOf c<=N->EI c->∀ n,2*N<=n->BJ n c=some (Ny N c)
 | 0,c,h,_,_,_=>by have:=E6 c; omega
 | N+1,c,h,hf,n,hn=>by
  obtain ⟨n,rfl⟩:∃ m,n=m+2:=⟨n - 2,by omega⟩
  rw [BJ,Ny,cF hf]
  have hk:B0 c.Kids (BR (n+1))=some (!c.Kids.all (Ny N)):=by
   rw [Sa (p:=fun k=>!Ny N k) (fun k hk=>by
    have:=GB hk
    rw [BR,cP N k (by omega) (hf.k k hk) n (by omega)]; rfl),List.all_eq_not_any_not,Bool.not_not]
  rw [hk]
  unfold Od
  simp only [bs,decide_eq_true_eq]
  generalize MP c=b
  generalize c.Kids.all (Ny N)=w
  have e0:decide ((c.Kids.length:Int)=0)=decide (c.Kids.length=0):=by rw [decide_eq_decide]; omega
  have e1:decide ((c.Kids.length:Int)=1)=decide (c.Kids.length=1):=by rw [decide_eq_decide]; omega
  have e2:decide (1<=(c.Kids.length:Int))=decide (1<=c.Kids.length):=by rw [decide_eq_decide]; omega
  simp only [show ((c.Kids.length:Int)=0)↔c.Kids.length=0 by omega,show ((c.Kids.length:Int)=1)↔c.Kids.length=1 by omega,show (1<=(c.Kids.length:Int))↔1<=c.Kids.length by omega]
  by_cases k1:c.Kind=1
  ·rw [if_pos k1,if_pos k1]
   by_cases h0:c.Kids.length=0 <;> cases b <;> cases w <;> simp [h0]
  ·rw [if_neg k1,if_neg k1]
   by_cases k2:c.Kind=2
   ·rw [if_pos k2,if_pos k2]
    by_cases h0:c.Kids.length=1 <;> cases b <;> cases w <;> simp [h0]
   ·rw [if_neg k2,if_neg k2]
    by_cases k3:c.Kind=3
    ·simp only [k3,if_true,true_or]
     by_cases h0:1<=c.Kids.length <;> cases b <;> cases w <;> simp [h0]
    ·by_cases k4:c.Kind=4
     ·simp only [k4,if_true,or_true,show ¬ (4:Int)=3 by decide,if_false]
      by_cases h0:1<=c.Kids.length <;> cases b <;> cases w <;> simp [h0]
     ·simp only [k3,k4,if_false,or_false]
      by_cases k5:c.Kind=5
      ·rw [if_pos k5,if_pos k5]
       by_cases h0:c.Kids.length=1 <;> cases w <;> simp [h0]
      ·rw [if_neg k5,if_neg k5]
       cases w <;> rfl
theorem cW {c:AB} (hf:EI c):KY c=some (Od c):=by
 unfold KY Od
 rw [X4 hf]
 simp only [bs,decide_eq_true_eq]
 generalize MP c=b
 simp only [show ((c.Kids.length:Int)=0)↔c.Kids.length=0 by omega,show ((c.Kids.length:Int)=1)↔c.Kids.length=1 by omega,show (0<(c.Kids.length:Int))↔1<=c.Kids.length by omega]
 by_cases k1:c.Kind=1
 ·rw [if_pos k1,if_pos k1]
  by_cases h0:c.Kids.length=0 <;> cases b <;> simp [h0]
 ·rw [if_neg k1,if_neg k1]
  by_cases k2:c.Kind=2
  ·rw [if_pos k2,if_pos k2]
   by_cases h0:c.Kids.length=1 <;> cases b <;> simp [h0]
  ·rw [if_neg k2,if_neg k2]
   by_cases k3:c.Kind=3
   ·simp only [k3,if_true,true_or,decide_true,bs]
    by_cases h0:1<=c.Kids.length <;> cases b <;> simp [h0]
   ·by_cases k4:c.Kind=4
    ·simp only [k4,if_true,or_true,show ¬ (4:Int)=3 by decide,if_false,decide_true,bs]
     by_cases h0:1<=c.Kids.length <;> cases b <;> simp [h0]
    ·simp only [k3,k4,if_false,or_false,decide_false,bs,Bool.false_eq_true]
     by_cases k5:c.Kind=5
     ·rw [if_pos k5,if_pos k5]
     ·rw [if_neg k5,if_neg k5]
theorem bW {α:Type} [Inhabited α] {l:List α} {p:α->Bool}:l.all p=!anyR (fun i=>!p (AA l i)) 0 l.length:=by
 rw [List.all_eq_not_any_not,KE]
theorem Yy:∀ (N:Nat) (c:AB),SizeOf.sizeOf c<=N->EI c->∀ n,N<=n->E5 n c=some (Ny N c)
 | 0,c,h,_,_,_=>by have:=E6 c; omega
 | N+1,c,h,hf,n,hn=>by
  obtain ⟨n,rfl⟩:∃ m,n=m+1:=⟨n - 1,by omega⟩
  rw [E5,Ny,cW hf,bs,bW,B2 (fun i=>!Ny N (AA c.Kids i)) false]
  ·cases Od c
   ·rfl
   ·cases anyR (fun i=>!Ny N (AA c.Kids i)) 0 c.Kids.length <;> rfl
  ·intro i i1 i2 _
   have hm:=AO (l:=c.Kids) i1 i2
   have:=GB hm
   rw [AG i1 i2,bs,Yy N _ (by omega) (hf.k _ hm) n (by omega),bs,Ig]
noncomputable def ZD (c:AB):Bool:=Ny (SizeOf.sizeOf c) c
theorem jI {c:AB} (hf:EI c):F6 c=some (ZD c):=EX (2*SizeOf.sizeOf c) fun n hn=>cP _ c (Nat.le_refl _) hf n hn
theorem jN {c:AB} (hf:EI c):Lg c=some (ZD c):=EX (SizeOf.sizeOf c) fun n hn=>Yy _ c (Nat.le_refl _) hf n hn
def LC:Nat->AB->Int × Int
 | 0,_=>(0,0)
 | n+1,c=>
  let s:=c.Kids.foldl (fun s k=>(A1 (s.1+(LC n k).1),max s.2 (LC n k).2)) ((1,0):Int × Int)
  (s.1,if c.Kind=5 then A1 (s.2+1) else s.2)
theorem Rp {α σ:Type} [Inhabited α] {l:List α} {g:σ->α->σ} {s:σ} {f:Int->σ->Option σ} (h:∀ (i:Int) s,0<=i->i<l.length->f i s=some (g s (AA l i))):forA f 0 l.length s=some (l.foldl g s):=by
 rw [Hb (fun i=>(l.take i.toNat).foldl g s) (by omega) (by simp)]
 ·rw [Int.toNat_natCast,List.take_length]
 ·intro i i1 i2
  rw [h i _ i1 i2,Io i1 i2,List.foldl_append]; rfl
theorem WG:∀ (N:Nat) (c:AB),SizeOf.sizeOf c<=N->∀ n,N<=n->CP n c=some (LC N c)
 | 0,c,h,_,_=>by have:=E6 c; omega
 | N+1,c,h,n,hn=>by
  obtain ⟨n,rfl⟩:∃ m,n=m+1:=⟨n - 1,by omega⟩
  rw [CP,LC,Rp (g:=fun s k=>(A1 (s.1+(LC N k).1),max s.2 (LC N k).2))]
  ·simp only [bs,decide_eq_true_eq]
   by_cases h5:c.Kind=5
   ·rw [if_pos h5,if_pos h5]; rfl
   ·rw [if_neg h5,if_neg h5]; rfl
  ·intro i s i1 i2
   have:=GB (AO (l:=c.Kids) i1 i2)
   rw [AG i1 i2,bs,WG N _ (by omega) n (by omega)]; rfl
theorem WX:∀ (N:Nat) (c:AB),SizeOf.sizeOf c<=N->∀ n,N<=n->FW n c=some (LC N c)
 | 0,c,h,_,_=>by have:=E6 c; omega
 | N+1,c,h,n,hn=>by
  obtain ⟨n,rfl⟩:∃ m,n=m+1:=⟨n - 1,by omega⟩
  rw [FW,LC,Rp (g:=fun s k=>(A1 (s.1+(LC N k).1),max s.2 (LC N k).2))]
  ·simp only [bs,decide_eq_true_eq]
   by_cases h5:c.Kind=5
   ·rw [if_pos h5,if_pos h5]; rfl
   ·rw [if_neg h5,if_neg h5]; rfl
  ·intro i s i1 i2
   have:=GB (AO (l:=c.Kids) i1 i2)
   rw [AG i1 i2,bs,WX N _ (by omega) n (by omega)]; rfl
noncomputable def SK (c:AB):Int × Int:=LC (SizeOf.sizeOf c) c
noncomputable def M0 (c:AB):Int:=if ZD c=false then 1 else if 12<(SK c).1∨3<(SK c).2 then 3 else 0
theorem Z4 {c:AB} (hf:EI c):E3 c=some (M0 c):=by
 unfold E3 M0
 rw [jI hf,bs,show HD c=some (SK c) from EX (SizeOf.sizeOf c) fun n hn=>WG _ c (Nat.le_refl _) n hn,bs]
 exact UH fun _=>Nc (by simp) fun _=>rfl
theorem aG {c:AB} (hf:EI c):KV c=some (M0 c):=by
 unfold KV M0
 rw [jN hf,bs,show ML c=some (SK c) from EX (SizeOf.sizeOf c) fun n hn=>WX _ c (Nat.le_refl _) n hn,bs]
 exact UH fun _=>Nc (by simp) fun _=>rfl
theorem Qn (g:Graph):C5 g≠9:=by
 unfold C5
 split
 ·decide
 ·split
  ·decide
  ·split <;> decide
theorem Oo {t:AD} {p:Pattern} (ht:(BA t).2=0) (h:Jm t p=0∨Jm t p=9):0<=p.Vars∧p.Vars<=12:=by
 have hg:=Qn p.Graph
 unfold Jm at h
 rw [if_neg (by simp [ht])] at h
 split at h
 ·omega
 ·split at h
  ·omega
  ·split at h
   ·omega
   ·omega
def NV (t:AD) (q:Pattern) (v:Int):Int:=if Jm t q≠9 then Jm t q else if anyR (fun i=>!Jk q i) v q.Vars=true then 9 else 0
theorem kN {α:Type} {P:Prop} [Decidable P] {v:α} {X:Option α} {Y:α} (h:P->X=some Y):(if (!decide P)=true then some v else X)=some (if ¬ P then v else Y):=by
 by_cases hp:P
 ·simp [hp,h hp]
 ·simp [hp]
theorem jH {t:AD} (hf:BT t) (ht:(BA t).2=0) {q:Pattern} {v:Int} (h0:0<=v) (h1:v<=q.Vars):D6 t q v=some (NV t q v):=by
 unfold D6 NV
 rw [SM hf,bs]
 refine kN fun h9=>?_
 have hv:=Oo ht (.inr h9)
 rw [Nz (c:=fun i=>(if (!Jk q i)=true then some () else none).map fun _=>.inr 9) (a:=v) (b:=q.Vars) h1]
 ·rw [Mc,M9]
  cases anyR (fun i=>!Jk q i) v q.Vars <;> rfl
 ·intro i i1 i2 _
  rw [if_pos (by simpa using i2),show (fun y0=>Ht y0 i)=(fun y=>some (decide (y.Term.Var=i))) from rfl,Zc,bs,show (q.Slots.any fun y=>decide (y.Term.Var=i))=Jk q i from rfl,h9,BG (by omega) (by omega)]
  cases Jk q i <;> rfl
 ·rw [if_neg (by simp)]
theorem aF (p:Pattern) (v:Int):LM p v=some (Jk p v):=Y1 p v
theorem jK {t:AD} (hf:BT t) (q:Pattern) (v:Int):KX t v q=some (if q.Vars<v then 20 else NV t q v):=by
 unfold KX NV
 refine Nc (by simp) fun _=>?_
 rw [VP hf,bs]
 refine kN fun h9=>?_
 rw [h9,B2 (fun i=>!Jk q i) 9]
 ·cases anyR (fun i=>!Jk q i) v q.Vars <;> rfl
 ·intro i i1 i2 _
  rw [aF,bs,Ig]
def JZ:Nat->AD->Pattern->AB->Int
 | 0,_,_,_=>0
 | N+1,t,p,c=>
  if c.Kind=5 then
   if c.Pattern.Vars<p.Vars then 20 else if NV t c.Pattern p.Vars≠0 then NV t c.Pattern p.Vars else
   if NW p.Graph c.Pattern.Graph c.Map≠0 then NW p.Graph c.Pattern.Graph c.Map else if NU c.Map=false then 1 else
   (fst (fun i=>nz (JZ N t c.Pattern (AA c.Kids i))) 0 c.Kids.length).getD 0
  else (fst (fun i=>nz (JZ N t p (AA c.Kids i))) 0 c.Kids.length).getD 0
theorem Xh {t:AD} (ht:(BA t).2=0) {q:Pattern} {v:Int} (h:NV t q v=0):0<=q.Vars:=by
 unfold NV at h
 split at h
 ·exact (Oo ht (.inl h)).1
 ·rename_i h9
  exact (Oo ht (.inr (Classical.not_not.1 h9))).1
theorem WI {t:AD} (hf:BT t) (ht:(BA t).2=0):∀ (N:Nat) (c:AB) (p:Pattern),0<=p.Vars->SizeOf.sizeOf c<=N->∀ n,N<=n->CB n t p c=some (JZ N t p c)
 | 0,c,p,_,h,_,_=>by have:=E6 c; omega
 | N+1,c,p,hp,h,n,hn=>by
  obtain ⟨n,rfl⟩:∃ m,n=m+1:=⟨n - 1,by omega⟩
  rw [CB,JZ]
  have hkids:∀ q:Pattern,0<=q.Vars->(thenR (forR (ρ:=Int) (fun (i0:Int) (_:Unit)=>
    (AI c.Kids i0).bind fun x55=>
    (CB n t q x55).bind fun x60=>
    if (!decide (x60=0))=true then
    some (.ret x60)
    else
    some (.next ())) 0 (c.Kids.length:Int) ()) (fun _=>
    some 0) (fun v0=>some v0))=some ((fst (fun i=>nz (JZ N t q (AA c.Kids i))) 0 c.Kids.length).getD 0):=by
   intro q hq
   rw [CG (fun i=>nz (JZ N t q (AA c.Kids i))),GD]
   intro i i1 i2 _
   have:=GB (AO (l:=c.Kids) i1 i2)
   rw [AG i1 i2,bs,WI hf ht N _ q hq (by omega) n (by omega),bs,Nq]
  by_cases h5:c.Kind=5
  ·rw [if_pos (by simpa using h5),if_pos h5]
   refine Nc (by simp) fun hv=>?_
   rw [jH hf ht hp (by omega),bs]
   refine HC fun hi=>?_
   rw [Yw,bs]
   refine HC fun hm=>?_
   rw [jG hm,bs]
   exact UH fun _=>hkids _ (Xh ht hi)
  ·rw [if_neg (by simpa using h5),if_neg h5]
   exact hkids p hp
theorem WY {t:AD} (hf:BT t):∀ (N:Nat) (c:AB) (p:Pattern),SizeOf.sizeOf c<=N->∀ n,N<=n->F1 n t p c=some (JZ N t p c)
 | 0,c,p,h,_,_=>by have:=E6 c; omega
 | N+1,c,p,h,n,hn=>by
  obtain ⟨n,rfl⟩:∃ m,n=m+1:=⟨n - 1,by omega⟩
  rw [F1,JZ]
  have hkids:∀ q:Pattern,(thenR (forR (ρ:=Int) (fun (i0:Int) (_:Unit)=>
    (AI c.Kids i0).bind fun x55=>
    (F1 n t q x55).bind fun x60=>
    if (!decide (x60=0))=true then
    some (.ret x60)
    else
    some (.next ())) 0 (c.Kids.length:Int) ()) (fun _=>
    some 0) (fun v0=>some v0))=some ((fst (fun i=>nz (JZ N t q (AA c.Kids i))) 0 c.Kids.length).getD 0):=by
   intro q
   rw [CG (fun i=>nz (JZ N t q (AA c.Kids i))),GD]
   intro i i1 i2 _
   have:=GB (AO (l:=c.Kids) i1 i2)
   rw [AG i1 i2,bs,WY hf N _ q (by omega) n (by omega),bs,Nq]
  by_cases h5:c.Kind=5
  ·rw [if_pos (by simpa using h5),if_pos h5,jK hf,bs]
   by_cases hv:c.Pattern.Vars<p.Vars
   ·simp [hv]
   ·simp only [if_neg hv]
    refine HC fun hi=>?_
    rw [Yz,bs]
    refine HC fun hm=>?_
    rw [jJ hm,bs]
    exact UH fun _=>hkids _
  ·rw [if_neg (by simpa using h5),if_neg h5]
   exact hkids p
noncomputable def MR (t:AD) (p:Pattern) (c:AB):Int:=if Jm t p≠0 then Jm t p else if M0 c≠0 then M0 c else JZ (SizeOf.sizeOf c) t p c
theorem cG {t:AD} (hf:BT t) (ht:(BA t).2=0) (p:Pattern) {c:AB} (hc:EI c):DY t p c=some (MR t p c):=by
 unfold DY MR
 rw [SM hf,bs]
 refine HC fun h=>?_
 rw [Z4 hc,bs,Option.bind_fun_some]
 exact HC fun _=>EX (SizeOf.sizeOf c) fun n hn=>WI hf ht _ c p (Oo ht (.inl h)).1 (Nat.le_refl _) n hn
theorem WR {t:AD} (hf:BT t) (p:Pattern) {c:AB} (hc:EI c):JT t p c=some (MR t p c):=by
 unfold JT MR
 rw [VP hf,bs]
 refine HC fun h=>?_
 rw [aG hc,bs,Option.bind_fun_some]
 exact HC fun _=>EX (SizeOf.sizeOf c) fun n hn=>WY hf _ c p (Nat.le_refl _) n hn
end Go.Sf.Sc
namespace Go.Sf.Sc
open Go Go.Sf
def leafB (t:AD) (l:List Int):Bool:=!(l.any fun k=>t.Nodes.any fun n=>decide (n.Parent=k))
end Go.Sf.Sc
namespace Go.Sf
theorem Px {ρ:Type} {f:Int->Option (CE Int ρ)} (p:Int->Bool) (v:ρ) {a b:Int} (hab:a<=b) (h:∀ i,a<=i->i<b->f i=some (if p i=true then .ret v else .next (i+1))) (hb:f b=some (.brk b)):IT f a=some (if anyR p a b=true then .inr v else .inl b):=by
 rw [Nz (c:=fun i=>(if p i=true then some () else none).map fun _=>.inr v) hab]
 ·rw [Mc,M9]
  cases anyR p a b <;> rfl
 ·intro i h1 h2 _
  rw [h i h1 h2]
  cases p i <;> rfl
 ·exact hb
theorem Md {α:Type} {e:α->TV} {n:Nat} {l:List α} (h:TV.Sm (.list n (l.map e))):(l.length:Int)<=140737488351232∧∀ x∈l,(e x).Sm:=by
 simp only [TV.Sm,List.length_map] at h
 refine ⟨by have:=h.1; unfold reachBytes at this; omega,fun x hx=>Pu.1 h.2 _ (List.mem_map.2 ⟨x,hx,rfl⟩)⟩
end Go.Sf
namespace Go.Sf.Sc
open Go Go.Sf
def SZ (a:Attr):Bool:=(decide (40<(a.Name.size:Int))||decide (25<(a.Names.length:Int)))||anyR (fun i=>decide (40<((AA a.Names i).size:Int))) 0 a.Names.length
theorem XQ {a:Attr} (h:SZ a=false):QA a:=by
 unfold SZ at h
 simp only [Bool.or_eq_false_iff,decide_eq_false_iff_not,EB] at h
 refine ⟨by omega,by omega,fun x hx=>?_⟩
 obtain ⟨i,i1,i2,rfl⟩:=FE hx
 have:=h.2 i i1 i2
 omega
theorem RW {t:AD} (hs:(AS t).Sm):∃ b,Kw t=some b∧(b=true->BT t):=by
 have hs':TV.Sms [_,_]:=hs
 obtain ⟨hn,hn2⟩:=Md (e:=GG) hs'.1
 unfold Kw
 by_cases hl:20<t.Nodes.length∨30<t.Edges.length
 ·rw [if_pos (by simp; omega)]
  exact ⟨false,rfl,fun h=>by cases h⟩
 rw [if_neg (by simp; omega)]
 rcases Su (f:=(fun (i0:Int) (s0:Int)=>
 (AI t.Nodes i0).bind fun x30=>
 (if (decide (30<(A1 (s0+(x30.Attrs.length:Int)))))=true then some true else ((AI t.Nodes i0).bind fun x41=>
 some (decide (40<(x41.Name.size:Int))))).bind fun x46=>
 if x46=true then
 some (CE.ret false)
 else
 thenR (IT (ρ:=Bool) (fun (s2:Int)=>
 (AI t.Nodes i0).bind fun x51=>
 if (decide (s2<(x51.Attrs.length:Int)))=true then
 (AI t.Nodes i0).bind fun x61=>
 (AI x61.Attrs s2).bind fun x65=>
 if ((decide (40<(x65.Name.size:Int)))||(decide (25<(x65.Names.length:Int))))=true then
 some (.ret false)
 else
 thenR (IT (ρ:=Bool) (fun (s4:Int)=>
 if (decide (s4<(x65.Names.length:Int)))=true then
 (AI x65.Names s4).bind fun x87=>
 if (decide (40<(x87.size:Int)))=true then
 some (.ret false)
 else
 some (.next (A1 (s4+1)))
 else
 some (.brk s4)) 0) (fun s4=>
 some (.next (A1 (s2+1)))) (fun v4=>some (.ret v4))
 else
 some (.brk s2)) 0) (fun s2=>
 some (.next (A1 (s0+(x30.Attrs.length:Int))))) (fun v2=>some (.ret v2))))
  (fun i s=>0<=s∧s<=30∧∀ j,0<=j->j<i->((AA t.Nodes j).Name.size:Int)<=40∧(AA t.Nodes j).Attrs.length<=30∧∀ a∈(AA t.Nodes j).Attrs,QA a) (fun _=>False) (fun r=>r=false) (a:=0) (b:=t.Nodes.length) (s:=0) (by omega) ⟨by omega,by omega,fun j h1 h2=>by omega⟩ (fun i s i1 i2 hI=>by
   have hx:=hn2 _ (AO (l:=t.Nodes) i1 i2)
   have hx':TV.Sms [_,_,_,_]:=hx
   obtain ⟨ha,ha2⟩:=Md (e:=HM) hx'.2.2.2.1
   obtain ⟨hI1,hI2,hI3⟩:=hI
   have hw:A1 (s+(AA t.Nodes i).Attrs.length)=s+(AA t.Nodes i).Attrs.length:=BG (by omega) (by omega)
   simp only [AG i1 i2,bs,hw,PU]
   by_cases hc:30<s+(AA t.Nodes i).Attrs.length∨40<((AA t.Nodes i).Name.size:Int)
   ·rw [if_pos (by simpa using hc)]
    exact .inr (.inr ⟨_,rfl,rfl⟩)
   rw [if_neg (by simpa using hc)]
   rw [Px (fun j=>SZ (AA (AA t.Nodes i).Attrs j)) false (b:=(AA t.Nodes i).Attrs.length) (by omega)]
   ·cases hb:anyR (fun j=>SZ (AA (AA t.Nodes i).Attrs j)) 0 (AA t.Nodes i).Attrs.length
    ·refine .inl ⟨_,rfl,by omega,by omega,fun j j1 j2=>?_⟩
     by_cases hj:j=i
     ·subst hj
      refine ⟨by omega,by omega,fun a ha=>?_⟩
      obtain ⟨k,k1,k2,rfl⟩:=FE ha
      exact XQ (EB.1 hb k k1 k2)
     ·exact hI3 j j1 (by omega)
    ·exact .inr (.inr ⟨_,rfl,rfl⟩)
   ·intro j j1 j2
    rw [if_pos (by simpa using j2),AG j1 j2,bs]
    have hy:=ha2 _ (AO (l:=(AA t.Nodes i).Attrs) j1 j2)
    have hy':TV.Sms [_,_,_,_]:=hy
    obtain ⟨hm,_⟩:=Md (e:=eS) hy'.2.2.2.1
    unfold SZ
    cases h1:(decide (40<((AA (AA t.Nodes i).Attrs j).Name.size:Int))||decide (25<((AA (AA t.Nodes i).Attrs j).Names.length:Int)))
    ·rw [if_neg (by decide),Px (fun k=>decide (40<((AA (AA (AA t.Nodes i).Attrs j).Names k).size:Int))) false (b:=(AA (AA t.Nodes i).Attrs j).Names.length) (by omega)]
     ·cases anyR (fun k=>decide (40<((AA (AA (AA t.Nodes i).Attrs j).Names k).size:Int))) 0 (AA (AA t.Nodes i).Attrs j).Names.length
      ·rw [Bool.or_false,BG (show -9223372036854775808<=j+1 by omega) (by omega)]; rfl
      ·rfl
     ·intro k k1 k2
      rw [if_pos (by simpa using k2),AG k1 k2,bs,BG (show -9223372036854775808<=k+1 by omega) (by omega),Ig]
     ·rw [if_neg (by simp)]
    ·rfl
   ·rw [if_neg (by simp)]) with ⟨s',h1,h2⟩ | ⟨r,h1,h2⟩
 ·rw [h1]
  rcases h2 with h2 | h2
  ·rw [DT,B2 (fun i=>decide (40<((AA t.Edges i).Name.size:Int))) false]
   ·cases hb:anyR (fun i=>decide (40<((AA t.Edges i).Name.size:Int))) 0 t.Edges.length
    ·refine ⟨true,rfl,fun _=>⟨by omega,by omega,fun n hn=>?_,fun n hn=>?_,fun n hn=>?_,fun e he=>?_⟩⟩
     ·obtain ⟨k,k1,k2,rfl⟩:=FE hn
      exact (h2.2.2 k k1 k2).1
     ·obtain ⟨k,k1,k2,rfl⟩:=FE hn
      exact (h2.2.2 k k1 k2).2.1
     ·obtain ⟨k,k1,k2,rfl⟩:=FE hn
      exact (h2.2.2 k k1 k2).2.2
     ·obtain ⟨k,k1,k2,rfl⟩:=FE he
      have:=EB.1 hb k k1 k2
      simpa using this
    ·exact ⟨false,rfl,fun h=>by cases h⟩
   ·intro i i1 i2 _
    rw [AG i1 i2,bs,Ig]
  ·exact h2.elim
 ·rw [h1]
  subst h2
  exact ⟨false,rfl,fun h=>by cases h⟩
theorem UL (p:Pattern):∃ b,Ky p=some b∧(b=true->PG p):=by
 refine ⟨_,rfl,fun h=>?_⟩
 simp only [Bool.and_eq_true,decide_eq_true_eq] at h
 exact ⟨by omega,by omega,by omega,by omega⟩
theorem Zk {a b:Int} (ha:0<=a) (ha2:a<=140737488351232) (hb:0<=b) (hb2:b<=140737488351232):A1 (a+b)=a+b:=BG (by omega) (by omega)
theorem Zj {m:Morphism} (hs:(BL m).Sm):∃ b,NJ m 140=some b∧(b=true->XF m):=by
 have hs':TV.Sms [_,_]:=hs
 have h1:=(Md (e:=eI) hs'.1).1
 have h2:=(Md (e:=eI) hs'.2.1).1
 refine ⟨_,rfl,fun h=>?_⟩
 rw [Zk (by omega) h1 (by omega) h2] at h
 simp only [decide_eq_true_eq] at h
 exact ⟨by omega,by omega⟩
theorem Ze {c:AB} (h:(AK c).Sm):(BL c.Map).Sm∧(c.Kids.length:Int)<=140737488351232∧∀ k∈c.Kids,(AK k).Sm:=by
 have h':TV.Sms [_,_,_,_,_,_,_,_,_]:=h
 obtain ⟨_,h2,h3,h4,_⟩:=h'
 rw [K9] at h2
 obtain ⟨k1,k2⟩:=Md h2
 exact ⟨⟨h3,h4,trivial⟩,k1,k2⟩
end Go.Sf.Sc
