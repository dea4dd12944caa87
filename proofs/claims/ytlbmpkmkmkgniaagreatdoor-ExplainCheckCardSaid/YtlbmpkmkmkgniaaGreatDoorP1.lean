/- Plain lemmas: what the functions of the program and of the reference compute. -/
import Derived.Test.YtlbmpkmkmkgniaaGreatDoorSfRead
import Derived.Test.YtlbmpkmkmkgniaaGreatDoorFns
import Derived.Test.YtlbmpkmkmkgniaaGreatDoorSfPl
set_option linter.all false
set_option maxRecDepth 100000
namespace Go.Sf
theorem VF {ρ τ:Type} {d:Int->Option ρ} {g:ρ->τ}:∀ (n:Nat) (a:Int),HC (fun i=>(d i).map g) n a=(HC d n a).map g
 | 0,_=>rfl
 | n+1,a=>by
  rw [HC,HC];cases d a with
  | some r=>rfl
  | none=>exact VF n (a+1)
theorem Oe {ρ τ:Type} {d:Int->Option ρ} {g:ρ->τ} {a b:Int}:fst (fun i=>(d i).map g) a b=(fst d a b).map g:=VF _ _
theorem Tw {ρ:Type} {d:Int->Option ρ} {r:ρ}:∀ {n:Nat} {a:Int},HC d n a=some r->∃ i,a<=i∧i<a+n∧d i=some r∧∀ j,a<=j->j<i->d j=none
 | 0,_,h=>by cases h
 | n+1,a,h=>by
  rw [HC] at h;cases b:d a with
  | some o=>
   rw [b] at h;exact ⟨a,Int.le_refl _,by omega,by rw [b]; exact h,fun j c e=>by omega⟩
  | none=>
   rw [b] at h;obtain ⟨i,c,e,k,l⟩:=Tw h;refine ⟨i,by omega,by omega,k,fun j m f=>?_⟩;by_cases g:j=a
   ·subst g; exact b
   ·exact l j (by omega) f
theorem DZ {ρ:Type} {d:Int->Option ρ} {r:ρ} {a b:Int} (h:fst d a b=some r):∃ i,a<=i∧i<b∧d i=some r∧∀ j,a<=j->j<i->d j=none:=by
 obtain ⟨i,c,g,e,f⟩:=Tw h;exact ⟨i,c,by omega,e,f⟩
def Ln (p:Int->Bool) (s:ByteArray):Int:=(fst (fun i=>if p (bt s i) then none else some i) 0 s.size).getD s.size
theorem Ru (p:Int->Bool) (s:ByteArray):0<=Ln p s∧Ln p s<=s.size∧(∀ j,0<=j->j<Ln p s->p (bt s j)=true)∧(Ln p s<s.size->p (bt s (Ln p s))=false):=by
 unfold Ln;cases h:fst (fun i=>if p (bt s i) then none else some i) 0 s.size with
 | none=>
  rw [D9] at h;simp only [Option.getD];refine ⟨by omega,by omega,fun j b c=>?_,fun b=>by omega⟩;have:=h j b c;cases a:p (bt s j)
  ·simp [a] at this
  ·rfl
 | some r=>
  obtain ⟨i,b,c,d,g⟩:=DZ h;have hi:p (bt s i)=false∧i=r:=by
   cases a:p (bt s i) <;> simp [a] at d;exact ⟨rfl,d⟩
  obtain ⟨hi,rfl⟩:=hi;simp only [Option.getD];refine ⟨b,by omega,fun j e f=>?_,fun _=>hi⟩;have:=g j e f;cases a:p (bt s j)
  ·simp [a] at this
  ·rfl
theorem XM {s:ByteArray} (h:s≠⟨#[]⟩):0<s.size:=by
 rcases Nat.eq_zero_or_pos s.size with a | a
 ·exfalso; apply h;cases s with | mk d=>congr 1; exact Array.eq_empty_of_size_eq_zero a
 ·exact a
end Go.Sf
namespace Go.Sf.Sc
open Go Go.Sf
def Hs (c:Int):Bool:=((decide (97<=c))&&(decide (c<=122)))||((decide (65<=c))&&(decide (c<=90)))
def digitB (c:Int):Bool:=(decide (48<=c))&&(decide (c<=57))
def Pj (c:Int):Bool:=Hs c||digitB c||decide (c=95)
theorem Wx (c:Int):LQ c=some (Hs c):=rfl
theorem Ul (c:Int):Kv c=some (digitB c):=rfl
theorem W9 (c:Int):LG c=some (Hs c):=rfl
theorem Yb (c:Int):Jj c=some (digitB c):=rfl
theorem jU (c:Int):NK c=some (Pj c):=by
 unfold NK Pj;rw [Wx,bs,Ul];cases Hs c <;> cases digitB c <;> rfl
theorem ZU {s:ByteArray} (f:(s.size:Int)<=4611686018427387904) {ok:Int->ca} {p:Int->Bool} (h:∀ c,ok c=some (p c)):Ip s ok=some (Ln p s):=by
 unfold Ip;rw [QJ (c:=fun i=>(if p (bt s i) then none else some i).map .inl) (a:=0) (b:=s.size) (by omega)]
 ·rw [Oe];unfold Ln;cases fst (fun i=>if p (bt s i)=true then none else some i) 0 s.size <;> rfl
 ·intro i e d _;simp only [d,decide_true,if_true,Ol e d,bs,h];cases p (bt s i)
  ·simp [cnt]
  ·simp [cnt,BG (show -9223372036854775808<=i+1 by omega) (by omega)]
 ·simp
def HQ (s:ByteArray):Bool:=decide (0<s.size)&&Hs (bt s 0)&&decide (s.size<=20)&&decide (Ln Pj s=s.size)
theorem Uk (l:List ByteArray) (v:ByteArray):∃ k,slices_Index_string l v=some k∧(0<=k↔v∈l):=by
 unfold slices_Index_string;rw [C7 (fun i=>if (v==AB l i)=true then some i else none)]
 ·cases h:fst (fun i=>if (v==AB l i)=true then some i else none) 0 l.length with
  | none=>
   rw [D9] at h;refine ⟨-1,rfl,by omega,fun e=>?_⟩;obtain ⟨i,a,c,b⟩:=EH e;have:=h i a c;rw [b,d1 (beq_self_eq_true v)] at this;cases this
  | some k=>
   obtain ⟨i,a,c,b,_⟩:=DZ h;have d:(v==AB l i)=true∧i=k:=by
    by_cases hv:(v==AB l i)=true
    ·rw [d1 hv] at b; exact ⟨hv,by simpa using b⟩
    ·rw [d2 hv] at b; cases b
   obtain ⟨d,rfl⟩:=d;refine ⟨i,rfl,fun _=>?_,fun _=>a⟩;rw [eq_of_beq d]; exact AQ a c
 ·intro i a c _;simp only [AI a c,bs];split <;> rfl
theorem OQ (l:List ByteArray) (v:ByteArray):slices_Contains_string l v=some (l.contains v):=by
 unfold slices_Contains_string;obtain ⟨k,a,b⟩:=Uk l v;rw [a,bs];congr 1;rw [Bool.eq_iff_iff,zzX,b,List.contains_iff_mem]
theorem jS {s:ByteArray} (t:0<s.size) (m:(s.size:Int)<=4611686018427387904):∃ k n e,Jc s=some (k,n,e)∧(((decide (e=0))&&(decide (k=1)))&&(decide (n=(s.size:Int))))=HQ s:=by
 have z:=Ru Pj s;unfold Jc HQ;simp only [Ol (Int.le_refl 0) (show (0:Int)<s.size by omega),bs,Wx,Ul,ZU m jU,ZU m Ul,t,decide_true,Bool.true_and];by_cases d:Hs (bt s 0)=true
 ·rw [d1 d];by_cases f:20<Ln Pj s
  ·refine ⟨0,0,3,by simp [f],?_⟩;simp [d];intro y g;omega
  ·refine ⟨1,_,0,by rw [d2 (by simpa using f)],?_⟩;simp only [d,decide_true,Bool.true_and];rw [Bool.eq_iff_iff];simp only [zzX,zzZ];omega
 ·rw [d2 d];have h:Hs (bt s 0)=false:=by simpa using d
  rw [h,Bool.false_and,Bool.false_and];by_cases o:digitB (bt s 0)=true
  ·rw [d1 o];by_cases p:9<Ln digitB s
   ·exact ⟨0,0,3,by simp [p],by simp⟩
   ·exact ⟨2,_,0,by rw [d2 (by simpa using p)],by simp⟩
  ·rw [d2 o];by_cases q:bt s 0=34
   ·have u:=Vt (s:=s) (a:=1) (b:=s.size) (by omega) (by omega) (by omega);have i:∀ c,Ld c=some (((decide (32<=c))&&(decide (c<=126)))&&(!decide (c=34))):=fun _=>rfl;have v:=Ru (fun c=>((decide (32<=c))&&(decide (c<=126)))&&(!decide (c=34))) (s.extract (1:Int).toNat (s.size:Int).toNat);have j:∃ n e,IM s=some (n,e):=by
     unfold IM;rw [Mj (by omega) (by omega) (by omega),bs,ZU (by omega) i,bs];rw [BG (by omega) (by omega)];by_cases r:1+Ln (fun c=>((decide (32<=c))&&(decide (c<=126)))&&(!decide (c=34))) (s.extract (1:Int).toNat (s.size:Int).toNat)=s.size
     ·refine ⟨0,2,?_⟩;simp only [r,decide_true,if_true,bs]
     ·simp only [r,decide_false,Bool.false_eq_true,if_false];rw [Ol (by omega) (by omega)];simp only [bs];split
      ·exact ⟨_,_,rfl⟩
      ·split
       ·exact ⟨_,_,rfl⟩
       ·exact ⟨_,_,rfl⟩
    obtain ⟨n,e,l⟩:=j;refine ⟨3,n,e,by rw [d1 (by simpa using q),l]; rfl,by simp⟩
   ·rw [d2 (by simpa using q)];have w:∃ b,NJ s=some b:=by
     unfold NJ;by_cases g:2<=(s.size:Int)
     ·rw [d1 (by simpa using g),Mj (by omega) (by omega) g];simp only [bs,OQ];exact ⟨_,rfl⟩
     ·rw [d2 (by simpa using g)];exact ⟨_,rfl⟩
    obtain ⟨b,x⟩:=w;rw [x,bs];cases b
    ·simp only [Bool.false_eq_true,if_false,strings_IndexByte,bs];split
     ·exact ⟨_,_,_,rfl,rfl⟩
     ·exact ⟨_,_,_,rfl,rfl⟩
    ·exact ⟨_,_,_,rfl,rfl⟩
theorem Qp {s:ByteArray} (b:(s.size:Int)<=4611686018427387904):FL s=some (HQ s):=by
 unfold FL Jo;simp only [show decide ((1:Int)=3)=false from rfl,Bool.false_eq_true,if_false,bs];by_cases a:s=⟨#[]⟩
 ·subst a; rfl
 ·rw [d2 (by simpa using a)];obtain ⟨k,n,e,c,d⟩:=jS (XM a) b;rw [c];simp only [bs];rw [d]
theorem jg {s:ByteArray} (k:(s.size:Int)<=4611686018427387904) (d:Bool):∃ n,N6 s 0 d=some n∧0<=n∧n<=s.size∧(d=false->n=Ln Pj s):=by
 have g:=Ru (fun c=>digitB c||(!d&&(Hs c||decide (c=95)))) s;refine ⟨Ln (fun c=>digitB c||(!d&&(Hs c||decide (c=95)))) s,?_,g.1,g.2.1,fun h=>?_⟩
 ·unfold N6;rw [QJ (c:=fun i=>(if (digitB (bt s i)||(!d&&(Hs (bt s i)||decide (bt s i=95)))) then none else some i).map .inl) (a:=0) (b:=s.size) (by omega)]
  ·rw [Oe];unfold Ln;cases fst (fun i=>if (digitB (bt s i)||(!d&&(Hs (bt s i)||decide (bt s i=95))))=true then none else some i) 0 s.size <;> rfl
  ·intro i j f _;have e:A4 (0+i)=i:=by rw [BG (by omega) (by omega)]; omega
   simp only [e,f,decide_true,if_true,Ol j f,bs,Yb,W9];cases digitB (bt s i) <;> cases d <;> cases Hs (bt s i) <;> cases (decide (bt s i=95)) <;> simp [cnt,BG (show -9223372036854775808<=i+1 by omega) (by omega)]
  ·have e:A4 (0+(s.size:Int))=s.size:=by rw [BG (by omega) (by omega)]; omega
   simp only [e,Int.lt_irrefl,decide_false,Bool.false_eq_true,if_false,bs]
 ·subst h;congr 1;funext c;unfold Pj;cases Hs c <;> cases digitB c <;> cases decide (c=95) <;> rfl
theorem cz {s:ByteArray} (j:0<s.size) (k:(s.size:Int)<=4611686018427387904):∃ n,LH s 0=some n∧(n=0∨(2<=n∧n<=s.size)):=by
 unfold LH;rw [QJ (c:=fun i=>if decide (bt s i=34)=true then some (Sum.inr (i+1):Int ⊕ Int) else if (decide (bt s i<32)||decide (126<bt s i))=true then some (Sum.inr 0) else none) (a:=1) (b:=s.size) (by omega)]
 ·cases h:fst (fun i=>if decide (bt s i=34)=true then some (Sum.inr (i+1):Int ⊕ Int) else if (decide (bt s i<32)||decide (126<bt s i))=true then some (Sum.inr 0) else none) 1 s.size with
  | none=>exact ⟨0,rfl,.inl rfl⟩
  | some r=>
   obtain ⟨i,g,e,d,_⟩:=DZ h;split at d
   ·cases d; exact ⟨_,rfl,.inr (by omega)⟩
   ·split at d
    ·cases d; exact ⟨_,rfl,.inl rfl⟩
    ·cases d
 ·intro i g e _;have f:A4 (0+i)=i:=by rw [BG (by omega) (by omega)]; omega
  simp only [f,e,decide_true,if_true,Ol (show 0<=i by omega) e,bs,BG (show -9223372036854775808<=i+1 by omega) (by omega)];split
  ·rfl
  ·split <;> rfl
 ·have f:A4 (0+(s.size:Int))=s.size:=by rw [BG (by omega) (by omega)]; omega
  simp only [f,Int.lt_irrefl,decide_false,Bool.false_eq_true,if_false]
theorem qS {s:ByteArray} (I:0<s.size) (J:(s.size:Int)<=4611686018427387904):∃ t n e,N5 s 0=some (t,n,e)∧(((decide (e=0))&&(decide (n=(s.size:Int))))&&(decide (t.Kind=1)))=HQ s:=by
 obtain ⟨m,G,l,o,H⟩:=jg J (digitB (bt s 0));unfold N5 HQ;simp only [Ol (Int.le_refl 0) (show (0:Int)<s.size by omega),bs,W9,Yb,I,decide_true,Bool.true_and,G];have K:A4 (0+m)=m:=by rw [BG (by omega) (by omega)]; omega
 by_cases u:Hs (bt s 0)=true
 ·have j:digitB (bt s 0)=false:=by
   unfold Hs at u; unfold digitB;simp only [Bool.or_eq_true,zzZ,zzX] at u;rw [Bool.and_eq_false_iff];simp only [decide_eq_false_iff_not];omega
  have P:=H j;subst P;simp only [u,if_true,j,Bool.false_eq_true,if_false,bs,K];by_cases k:20<Ln Pj s
  ·refine ⟨_,_,_,by rw [d1 (by simpa using k)],?_⟩;rw [Bool.eq_iff_iff];simp only [zzX,zzZ];omega
  ·rw [d2 (by simpa using k),Mj (Int.le_refl _) l o];refine ⟨_,_,_,rfl,?_⟩;rw [Bool.eq_iff_iff];simp only [zzX,zzZ,true_and,and_true];omega
 ·have B:Hs (bt s 0)=false:=by simpa using u
  simp only [B,Bool.false_eq_true,if_false,bs,Bool.false_and,K];by_cases j:digitB (bt s 0)=true
  ·simp only [j,if_true,bs];by_cases M:9<m
   ·exact ⟨_,_,_,by rw [d1 (by simpa using M)],by simp⟩
   ·rw [d2 (by simpa using M),Mj (Int.le_refl _) l o];exact ⟨_,_,_,rfl,by simp⟩
  ·have C:digitB (bt s 0)=false:=by simpa using j
   simp only [C,Bool.false_eq_true,if_false,bs];by_cases N:bt s 0=34
   ·obtain ⟨n,T,p⟩:=cz I J;rw [d1 (by simpa using N),T,bs];rcases p with rfl | p
    ·exact ⟨_,_,_,rfl,by simp⟩
    ·rw [d2 (by simp; omega)];split
     ·exact ⟨_,_,_,rfl,by simp⟩
     ·have Q:A4 (0+1)=1:=by decide
      have R:A4 (0+n)=n:=by rw [BG (by omega) (by omega)]; omega
      rw [Q,R,BG (show -9223372036854775808<=n - 1 by omega) (by omega),Mj (by omega) (by omega) (by omega)];exact ⟨_,_,_,rfl,by simp⟩
   ·rw [d2 (by simpa using N)];unfold Nv;rw [bs];generalize S:([(⟨#[45,62]⟩:ByteArray),(⟨#[60,61]⟩:ByteArray),(⟨#[62,61]⟩:ByteArray),(⟨#[61,61]⟩:ByteArray),(⟨#[33,61]⟩:ByteArray),(⟨#[123]⟩:ByteArray),(⟨#[125]⟩:ByteArray),(⟨#[40]⟩:ByteArray),(⟨#[41]⟩:ByteArray),(⟨#[91]⟩:ByteArray),(⟨#[93]⟩:ByteArray),(⟨#[44]⟩:ByteArray),(⟨#[59]⟩:ByteArray),(⟨#[58]⟩:ByteArray),(⟨#[61]⟩:ByteArray),(⟨#[43]⟩:ByteArray),(⟨#[45]⟩:ByteArray),(⟨#[42]⟩:ByteArray),(⟨#[60]⟩:ByteArray),(⟨#[62]⟩:ByteArray),(⟨#[33]⟩:ByteArray),(⟨#[38]⟩:ByteArray),(⟨#[124]⟩:ByteArray),(⟨#[46]⟩:ByteArray),(⟨#[63]⟩:ByteArray)]:List ByteArray)=L;have D:∀ x∈L,x.size<=2:=by subst S; decide
    rcases WY (f:=(fun (d:Int) (O:GM)=>
      (AM L d).bind fun v=>
      (if (decide ((A4 (0+(v.size:Int)))<=(s.size:Int)))=true then ((AM L d).bind fun w=>
      (sslc s 0 (A4 (0+(w.size:Int)))).bind fun y=>
      (AM L d).bind fun z=>
      some (y==z)) else some false).bind fun A=>
      if A=true then
      (AM L d).bind fun g=>
      (AM L d).bind fun h=>
      some (CY.ret (GM.mk 4 g 0,(h.size:Int),(0:Int)))
      else
      some (CY.next O))) (fun _ s=>True) (fun _=>True) (fun r=>r.1.Kind=4) (a:=0) (b:=L.length) (s:=GM.mk 0 (⟨#[]⟩:ByteArray) 0) (by omega) trivial (fun i t c q _=>by
      have U:=D _ (AQ c q);have E:A4 (0+((AB L i).size:Int))=(AB L i).size:=by rw [BG (by omega) (by omega)]; omega
      simp only [AI c q,bs,E];by_cases F:((AB L i).size:Int)<=s.size
      ·rw [d1 (by simpa using F),Mj (by omega) (by omega) F];simp only [bs];split
       ·exact .inr (.inr ⟨_,rfl,rfl⟩)
       ·exact .inl ⟨_,rfl,trivial⟩
      ·rw [d2 (by simpa using F)];simp only [bs];exact .inl ⟨_,rfl,trivial⟩) with ⟨s',c,_⟩ | ⟨r,c,q⟩
    ·rw [c]; exact ⟨_,_,_,rfl,by simp⟩
    ·rw [c]; exact ⟨_,_,_,rfl,by simp [q]⟩
theorem Qs {s:ByteArray} (b:(s.size:Int)<=4611686018427387904):IF s=some (HQ s):=by
 unfold IF Nu OY;simp only [show decide ((1:Int)=3)=false from rfl,Bool.false_eq_true,if_false,bs];by_cases a:s=⟨#[]⟩
 ·subst a; rfl
 ·rw [d2 (by simpa using a)];obtain ⟨t,n,e,c,d⟩:=qS (XM a) b;rw [c];simp only [bs];rw [d]
end Go.Sf.Sc
namespace Go.Sf
variable {ρ β:Type}
def nz (e:Int):dD:=if e=0 then none else some e
theorem P9 (e:Int):(if (!decide (e=0))=true then some (CY.ret e) else some (CY.next ()))=some (Pr (nz e)):=by
 unfold nz;by_cases h:e=0 <;> simp [h,Pr]
theorem ia (b:Bool) (r:ρ):(if b=true then some (CY.ret r) else some (CY.next ()))=some (Pr (if b=true then some r else none)):=by
 cases b <;> rfl
theorem DT {σ:Type} {s:σ} {k:σ->Option β} {a:ρ->Option β}:thenR (some (.inl s)) k a=k s:=rfl
theorem Vl {σ:Type} {r:ρ} {k:σ->Option β} {a:ρ->Option β}:thenR (some (.inr r)) k a=a r:=rfl
theorem F8 (o:Option ρ) (k:Unit->Option β) (a:ρ->Option β):thenR (some (eD o)) k a=match o with | none=>k () | some r=>a r:=by
 cases o <;> rfl
theorem Hq (o:dD):thenR (some (eD o)) (fun _=>some 0) (fun v=>some v)=some (o.getD 0):=by
 cases o <;> rfl
theorem Tx {c:Int->Int} {a b:Int} (h:(fst (fun i=>nz (c i)) a b).getD 0=0):∀ i,a<=i->i<b->c i=0:=by
 have:fst (fun i=>nz (c i)) a b=none:=by
  cases e:fst (fun i=>nz (c i)) a b with
  | none=>rfl
  | some r=>
   rw [e] at h;simp only [Option.getD] at h;subst h;obtain ⟨i,_,_,d,_⟩:=DZ e;unfold nz at d;split at d
   ·cases d
   ·rename_i f; simp at d; exact (f d).elim
 rw [D9] at this;intro i g j;have:=this i g j;unfold nz at this;split at this
 ·assumption
 ·cases this
theorem Oh {e:Int}:nz e=none↔e=0:=by
 unfold nz;by_cases h:e=0 <;> simp [h]
theorem Wc {α:Type} [Inhabited α] {l:List α} {f:α->ca} {p:α->Bool} (h:∀ x∈l,f x=some (p x)) :
  (thenR (forR (ρ:=Int) (fun (c:Int) (_:Unit)=>(AM l c).bind fun a=>(f a).bind fun b=>if b=true then some (.ret c) else some (.next ())) 0 (l.length:Int) ()) (fun _=>some (-1)) (fun g=>some g)) =
   some ((fst (fun i=>if p (AB l i)=true then some i else none) 0 l.length).getD (-1)):=by
 rw [C7 (fun i=>if p (AB l i)=true then some i else none)]
 ·rw [F8]; cases fst (fun i=>if p (AB l i)=true then some i else none) 0 l.length <;> rfl
 ·intro i d e _;rw [AI d e,bs,h _ (AQ d e),bs,ia]
theorem VN {α:Type} [Inhabited α] {l:List α} {p:α->Bool}:decide (0<=(fst (fun i=>if p (AB l i)=true then some i else none) 0 l.length).getD (-1))=l.any p:=by
 rw [Kd,anyR];cases h:fst (fun i=>if p (AB l i)=true then some i else none) 0 l.length with
 | none=>
  rw [D9] at h;symm;show Option.isSome _=false;rw [Option.isSome_eq_false_iff,Option.isNone_iff_eq_none,D9];intro i b c;have:=h i b c;by_cases d:p (AB l i)=true
  ·rw [d1 d] at this; cases this
  ·rw [d2 d]
 | some k=>
  obtain ⟨i,b,c,a,_⟩:=DZ h;have f:p (AB l i)=true∧i=k:=by
   by_cases hv:p (AB l i)=true
   ·rw [d1 hv] at a; exact ⟨hv,by simpa using a⟩
   ·rw [d2 hv] at a; cases a
  simp only [Option.getD];rw [decide_eq_true (show (0:Int)<=k by omega)];symm;show Option.isSome _=true;rw [Option.isSome_iff_ne_none,ne_eq,D9];intro e;have:=e i b c;rw [d1 f.1] at this;cases this
theorem GD {α:Type} [Inhabited α] {l:List α} {f:α->ca} {p:α->Bool} (h:∀ x∈l,f x=some (p x)) :
  ((thenR (forR (ρ:=Int) (fun (c:Int) (_:Unit)=>(AM l c).bind fun a=>(f a).bind fun b=>if b=true then some (.ret c) else some (.next ())) 0 (l.length:Int) ()) (fun _=>some (-1)) (fun d=>some d)).bind fun e=>some (decide (0<=e)))=some (l.any p):=by
 rw [Wc h,bs,VN]
end Go.Sf
namespace Go.Sf.Sc
open Go Go.Sf
instance:Inhabited Attr:=⟨⟨⟨#[]⟩,0,0,[]⟩⟩
instance:Inhabited CW:=⟨⟨⟨#[]⟩,0,false,[]⟩⟩
instance:Inhabited DE:=⟨⟨⟨#[]⟩,0,0,0,0,0,0⟩⟩
instance:Inhabited DU:=⟨⟨0,0,0⟩⟩
instance:Inhabited EJ:=⟨⟨0,0,⟨0,0⟩⟩⟩
instance:Inhabited Test:=⟨⟨0,⟨0,0⟩,⟨0,0⟩⟩⟩
instance:Inhabited AA:=⟨⟨0,[],⟨[],[]⟩,⟨⟨[],[]⟩,[],0,[]⟩⟩⟩
theorem WH {l:Ne} {f:Int->ca} {p:Int->Bool} (h:∀ x∈l,f x=some (p x)):B4 l f=some (l.any p):=GD h
theorem X9 {l:List DU} {f:DU->ca} {p:DU->Bool} (h:∀ x∈l,f x=some (p x)):CI l f=some (l.any p):=GD h
theorem Ox {l:List AA} {f:AA->ca} {p:AA->Bool} (h:∀ x∈l,f x=some (p x)):B6 l f=some (l.any p):=GD h
theorem Xh {l:List CW} {p:CW->Bool}:C9 l (fun x=>some (p x))=some (l.any p):=GD (fun _ _=>rfl)
theorem Xg {l:List DE} {p:DE->Bool}:C8 l (fun x=>some (p x))=some (l.any p):=GD (fun _ _=>rfl)
theorem fN {l:List Attr} {p:Attr->Bool}:D0 l (fun x=>some (p x))=some (l.any p):=GD (fun _ _=>rfl)
theorem aG {l:Ne} {p:Int->Bool}:B4 l (fun x=>some (p x))=some (l.any p):=GD (fun _ _=>rfl)
theorem fO {l:List DU} {p:DU->Bool}:CI l (fun x=>some (p x))=some (l.any p):=GD (fun _ _=>rfl)
theorem fP {l:List EJ} {p:EJ->Bool}:D1 l (fun x=>some (p x))=some (l.any p):=GD (fun _ _=>rfl)
theorem iy (l:Ne) (v:Int):slices_Index_int l v=some ((fst (fun i=>if decide (v=AB l i)=true then some i else none) 0 l.length).getD (-1)):=by
 have:=Wc (l:=l) (f:=fun x=>some (decide (v=x))) (p:=fun x=>decide (v=x)) (fun _ _=>rfl);unfold slices_Index_int;simpa only [bs] using this
theorem Th (l:Ne) (v:Int):slices_Contains_int l v=some (l.any fun x=>decide (v=x)):=by
 unfold slices_Contains_int;rw [iy,bs,VN (p:=fun x=>decide (v=x))]
theorem fS (l:d0) (v:Bool):HZ l v=some (l.any fun x=>v==x):=by
 have:=GD (l:=l) (f:=fun x=>some (v==x)) (p:=fun x=>v==x) (fun _ _=>rfl);unfold HZ Jt;simpa only [bs] using this
structure RD (a:Attr):Prop where
 name:(a.Name.size:Int)<=40
 names:a.Names.length<=25
 each:∀ x∈a.Names,(x.size:Int)<=40
structure BX (t:AC):Prop where
 nodes:t.Nodes.length<=20
 edges:t.Edges.length<=30
 name:∀ n∈t.Nodes,(n.Name.size:Int)<=40
 attrs:∀ n∈t.Nodes,n.Attrs.length<=30
 each:∀ n∈t.Nodes,∀ a∈n.Attrs,RD a
 ename:∀ e∈t.Edges,(e.Name.size:Int)<=40
def par (t:AC) (i:Int):Int:=(AB t.Nodes i).Parent
def G9 (t:AC) (k:Int):Prop:=∀ i,0<=i->i<k->-1<=par t i∧par t i<i
def C2 (t:AC):Nat->Int->List Attr
 | 0,_=>[]
 | n+1,a=>if a<0 then [] else C2 t n (par t a)++(AB t.Nodes a).Attrs
def BT (t:AC) (a:Int):List Attr:=C2 t (a+1).toNat a
theorem JN {t:AC} {n:Nat} {a:Int} (h:a<0):C2 t n a=[]:=by
 cases n with
 | zero=>rfl
 | succ n=>rw [C2,d1 h]
theorem MZ {t:AC} {k:Int} (c:G9 t k):∀ (n m:Nat) (a:Int),a<k->a<n->a<m->C2 t n a=C2 t m a
 | n,m,a,d,e,f=>by
  by_cases b:a<0
  ·rw [JN b,JN b]
  ·cases n with
   | zero=>omega
   | succ n=>
    cases m with
    | zero=>omega
    | succ m=>
     rw [C2,C2,d2 b,d2 b];have:=c a (by omega) d;rw [MZ c n m (par t a) (by omega) (by omega) (by omega)]
theorem Mq {t:AC} (b:BX t) {k:Int} (d:k<=t.Nodes.length) (c:G9 t k):∀ (n:Nat) (a:Int),a<k->((C2 t n a).length:Int)<=30*n
 | 0,_,_=>by simp [C2]
 | n+1,a,e=>by
  rw [C2];split
  ·simp; omega
  ·rename_i f;have g:=c a (by omega) e;have h:=Mq b d c n (par t a) (by omega);have i:=b.attrs _ (AQ (l:=t.Nodes) (show 0<=a by omega) (by omega));rw [d4];omega
theorem Ta {t:AC} (c:BX t) {k:Int} (e:k<=t.Nodes.length) (d:G9 t k):∀ (n:Nat) (a:Int),a<k->∀ x∈C2 t n a,RD x
 | 0,_,_=>by simp [C2]
 | n+1,a,f=>by
  rw [C2];split
  ·simp
  ·rename_i g;have h:=d a (by omega) f;intro x b;rcases List.mem_append.1 b with b | b
   ·exact Ta c e d n (par t a) (by omega) x b
   ·exact c.each _ (AQ (l:=t.Nodes) (show 0<=a by omega) (by omega)) x b
theorem Ms {t:AC} (b:BX t) {k a:Int} (c:k<=t.Nodes.length) (d:G9 t k) (e:a<k):(BT t a).length<=600:=by
 have:=Mq b c d (a+1).toNat a e;have:=b.nodes;unfold BT;omega
theorem Mr {t:AC} (b:BX t) {k a:Int} (c:k<=t.Nodes.length) (d:G9 t k) (e:a<k):∀ x∈BT t a,RD x:=Ta b c d _ a e
theorem Wt {t:AC} (d:BX t) {k:Int} (g:k<=t.Nodes.length) (f:G9 t k):∀ (n:Nat) (a:Int),0<=a->a<k->a<n->EQ n t a=some (C2 t n a)
 | 0,_,_,_,_=>by omega
 | n+1,a,i,q,v=>by
  have r:=f a (by omega) q;have j:=Mq d g f n (par t a) (by omega);have s:=d.attrs _ (AQ (l:=t.Nodes) i (by omega));have u:=d.nodes;rw [EQ,C2,d2 (by omega),AI i (by omega)];simp only [bs];show ((if decide (0<=par t a)=true then (EQ n t (par t a)).bind fun c=>some c else some []).bind _)=_;have e:(if decide (0<=par t a)=true then (EQ n t (par t a)).bind fun c=>some c else some [])=some (C2 t n (par t a)):=by
   by_cases h:0<=par t a
   ·rw [d1 (by simpa using h),Wt d g f n (par t a) h (by omega) (by omega)]; rfl
   ·rw [d2 (by simpa using h),JN (by omega)]
  have m:(C2 t n (par t a)).length+(AB t.Nodes a).Attrs.length<=BN:=by
   unfold BN;have:((C2 t n (par t a)).length:Int)<=30*n:=j;have o:C2 t n (par t a)=C2 t 20 (par t a):=by
    by_cases b:par t a<0
    ·rw [JN b,JN b]
    ·exact MZ f n 20 (par t a) (by omega) (by omega) (by omega)
   have p:=Mq d g f 20 (par t a) (by omega);rw [←o] at p;omega
  rw [e,bs,CF m];rfl
theorem YT {t:AC} (d:BX t) {k:Int} (e:k<=t.Nodes.length) (b:G9 t k) {a:Int} (f:0<=a) (c:a<k):Kw t a=some (BT t a):=
 FJ (a+1).toNat fun n g=>by
  rw [Wt d e b n a f c (by omega),BT,MZ b n (a+1).toNat a c (by omega) (by omega)]
theorem W4 {t:AC} (c:BX t) {k:Int} (e:k<=t.Nodes.length) (d:G9 t k):∀ (n:Nat) (a:Int),-1<=a->a<k->a+1<n->IH n t a=some (C2 t n a)
 | 0,_,_,_,_=>by omega
 | n+1,a,p,i,q=>by
  rw [IH,C2];by_cases b:a<0
  ·rw [d1 (by simpa using b),d1 b]
  ·have j:=d a (by omega) i;have m:=c.attrs _ (AQ (l:=t.Nodes) (show 0<=a by omega) (by omega));have o:=c.nodes;rw [d2 (by simpa using b),d2 b,AI (by omega) (by omega)];simp only [bs];have f:C2 t n (par t a)=C2 t 20 (par t a):=by
    by_cases b:par t a<0
    ·rw [JN b,JN b]
    ·exact MZ d n 20 (par t a) (by omega) (by omega) (by omega)
   have g:=Mq c e d 20 (par t a) (by omega);rw [←f] at g;have h:(C2 t n (par t a)).length+(AB t.Nodes a).Attrs.length<=BN:=by unfold BN; omega
   rw [show (AB t.Nodes a).Parent=par t a from rfl,W4 c e d n (par t a) (by omega) (by omega) (by omega),bs,CF (by simp; unfold BN; omega)];simp only [bs,List.nil_append];rw [CF h]; rfl
theorem YZ {t:AC} (d:BX t) {k:Int} (e:k<=t.Nodes.length) (b:G9 t k) {a:Int} (f:0<=a) (c:a<k):Nw t a=some (BT t a):=
 FJ (a+2).toNat fun n g=>by
  rw [W4 d e b n a (by omega) c (by omega),BT,MZ b n (a+1).toNat a c (by omega) (by omega)]
end Go.Sf.Sc
namespace Go.Sf.Sc
open Go Go.Sf
def J6 (l:List ByteArray):Int:=
 if (20:Int)<l.length then 3 else (fst (fun i=>if HQ (AB l i)=false then some 2 else if anyR (fun j=>AB l j==AB l i) 0 i=true then some 5 else none) 0 l.length).getD 0
theorem WJ {l:List ByteArray} {x:ByteArray} {b:Int} (a:0<=b) (c:b<=l.length):(l.take b.toNat).contains x=anyR (fun j=>AB l j==x) 0 b:=by
 rw [List.contains_eq_any_beq,QM a c];exact TZ (fun i _ _=>by rw [Bool.beq_comm])
theorem f0 {l:List ByteArray} (d:∀ x∈l,(x.size:Int)<=40):Ir l=some (J6 l):=by
 unfold Ir J6;by_cases a:(20:Int)<l.length
 ·rw [d1 (by simpa using a),d1 a]
 ·rw [d2 (by simpa using a),d2 a];rw [C7 (fun i=>if HQ (AB l i)=false then some 2 else if anyR (fun j=>AB l j==AB l i) 0 i=true then some 5 else none),Hq];intro i b c _;have e:=d _ (AQ b c);rw [AI b c,bs,Qp (by omega),bs,MV b (by omega)];simp only [bs,OQ,WJ b (show i<=l.length by omega)];cases HQ (AB l i) <;> cases anyR (fun j=>AB l j==AB l i) 0 i <;> rfl
theorem gM {l:List ByteArray} (d:∀ x∈l,(x.size:Int)<=40):L0 l=some (J6 l):=by
 unfold L0 J6;by_cases a:(20:Int)<l.length
 ·rw [d1 (by simpa using a),d1 a]
 ·rw [d2 (by simpa using a),d2 a];rw [C7 (fun i=>if HQ (AB l i)=false then some 2 else if anyR (fun j=>AB l j==AB l i) 0 i=true then some 5 else none),Hq];intro i b c _;have g:=d _ (AQ b c);rw [AI b c,bs,Qs (by omega),bs,CR (fun j=>AB l j==AB l i) 5]
  ·cases HQ (AB l i) <;> cases anyR (fun j=>AB l j==AB l i) 0 i <;> rfl
  ·intro j e f _;rw [AI e (by omega),bs,bs];split <;> rfl
def MD (all:List Attr) (k:Int):Int:=
 let x:=AB all k
 if HQ x.Name=false then 2 else if anyR (fun j=>(AB all j).Name==x.Name) 0 k=true then 5 else
 if x.Names.length=0 then (if -1000000<=x.Low∧x.Low<=x.High∧x.High<=1000000 then 0 else 6) else
 if J6 x.Names≠0 then J6 x.Names else if x.Low=0∧x.High=x.Names.length - 1 then 0 else 6
theorem Xt {a:List Attr} (f:∀ x∈a,RD x) {k:Int} (d:0<=k) (g:k<a.length):F9 (AB a k) (a.take k.toNat)=some (MD a k):=by
 have c:=f _ (AQ d g);have m:=c.name;unfold F9 MD;dsimp only;rw [Qp (by omega),bs,show (fun b=>Jv b (AB a k))=(fun b=>some (b.Name==(AB a k).Name)) from rfl,fN,bs,QM d (by omega),f0 c.each,bs];have i:=c.names;have j:A4 ((AB a k).Names.length - 1)=(AB a k).Names.length - 1:=BG (by omega) (by omega);rw [j];have l:(AB a k).Names.length=0->J6 (AB a k).Names=0:=fun h=>by rw [List.eq_nil_of_length_eq_zero h]; rfl
 generalize J6 (AB a k).Names=e at l ⊢;simp only [bs,zzX,Bool.or_eq_true,zzZ,Bool.not_eq_true',decide_eq_false_iff_not,Bool.not_eq_false',Bool.or_eq_false_iff,Bool.and_eq_false_iff,ne_eq]
 repeat' (first | rfl | (exfalso; omega; done) | split)
 all_goals (first | rfl | (exfalso; omega) | omega | simp_all | (simp_all; omega))
theorem Xv {x:Attr} (a:RD x):JW x=some (
 if x.Names.length=0 then (if -1000000<=x.Low∧x.Low<=x.High∧x.High<=1000000 then 0 else 6) else
 if J6 x.Names≠0 then J6 x.Names else if x.Low=0∧x.High=x.Names.length - 1 then 0 else 6):=by
 have b:=a.names;have c:A4 (x.Names.length - 1)=x.Names.length - 1:=BG (by omega) (by omega);unfold JW E4;simp only [bs,c,gM a.each];generalize J6 x.Names=e;simp only [bs,zzX,Bool.or_eq_true,zzZ,Bool.not_eq_true',decide_eq_false_iff_not,Bool.not_eq_false',Bool.or_eq_false_iff,Bool.and_eq_false_iff,ne_eq]
 repeat' (first | rfl | (exfalso; omega; done) | split)
 all_goals (first | rfl | (exfalso; omega) | omega | simp_all | (simp_all; omega))
def JC (t:AC) (i:Int):Int:=
 let n:=AB t.Nodes i
 if HQ n.Name=false then 2 else if anyR (fun j=>(AB t.Nodes j).Name==n.Name) 0 i=true then 5 else
 if n.Parent < -1∨i<=n.Parent then 6 else if 4<n.Attrs.length∨8<(BT t i).length then 3 else
 (fst (fun k=>nz (MD (BT t i) k)) ((BT t i).length - n.Attrs.length) (BT t i).length).getD 0
theorem Td {t:AC} {i:Int} (a:0<=i):(AB t.Nodes i).Attrs.length<=(BT t i).length:=by
 unfold BT;rw [show (i+1).toNat=i.toNat+1 by omega,C2,d2 (by omega),d4];omega
theorem G9.next {t:AC} {i:Int} (h:G9 t i) (a:-1<=par t i) (b:par t i<i):G9 t (i+1):=by
 intro j c e;by_cases d:j=i
 ·subst d; exact ⟨a,b⟩
 ·exact h j c (by omega)
theorem jT {t:AC} (f:BX t) {i:Int} (c:0<=i) (l:i<t.Nodes.length) (p:G9 t i):Jf t i=some (JC t i):=by
 have r:=f.name _ (AQ c l);unfold Jf JC;dsimp only;rw [AI c l,bs,Qp (by omega),bs,MV c (by omega),bs,show (fun g=>NM g (AB t.Nodes i))=(fun g=>some (g.Name==(AB t.Nodes i).Name)) from rfl,Xh,bs,QM c (by omega)];cases HQ (AB t.Nodes i).Name
 ·rfl
 ·cases anyR (fun j=>(AB t.Nodes j).Name==(AB t.Nodes i).Name) 0 i
  ·by_cases d:(AB t.Nodes i).Parent < -1∨i<=(AB t.Nodes i).Parent
   ·rcases d with d | d <;> simp [d]
   ·have b:G9 t (i+1):=p.next (by unfold par; omega) (by unfold par; omega)
    have h:(decide ((AB t.Nodes i).Parent < -1)||decide (i<=(AB t.Nodes i).Parent))=false:=by
     rw [Bool.eq_false_iff]; simpa using d
    rw [YT f (k:=i+1) (by omega) b c (by omega),bs];have n:=Ms f (k:=i+1) (a:=i) (by omega) b (by omega);have o:=Td (t:=t) c;have e:=Mr f (k:=i+1) (a:=i) (by omega) b (by omega);rw [BG (by omega) (by omega),C7 (fun k=>nz (MD (BT t i) k)),Hq]
    ·simp only [h,d,Bool.not_true,Bool.false_eq_true,if_false];simp only [bs,zzX,Bool.or_eq_true,zzZ,Bool.not_eq_true',decide_eq_false_iff_not,Bool.not_eq_false',Bool.or_eq_false_iff,Bool.and_eq_false_iff,ne_eq]
     repeat' (first | rfl | (exfalso; omega; done) | split)
     all_goals (first | rfl | (exfalso; omega) | omega | simp_all | (simp_all; omega))
    ·intro k q m _;rw [AI (by omega) m,bs,MV (by omega) (by omega),bs,Xt e (by omega) m,bs,P9]
  ·rfl
theorem jf {t:AC} (c:BX t) {i:Int} (e:0<=i) (g:i<t.Nodes.length) (p:G9 t i):NB t i=some (JC t i):=by
 have u:=c.name _ (AQ e g);have v:=c.nodes;unfold NB JC E4;dsimp only;rw [AI e g,bs,Qs (by omega),bs,CR (fun j=>(AB t.Nodes j).Name==(AB t.Nodes i).Name) 5]
 ·cases HQ (AB t.Nodes i).Name
  ·rfl
  ·cases anyR (fun j=>(AB t.Nodes j).Name==(AB t.Nodes i).Name) 0 i
   ·simp only [Bool.not_true,Bool.false_eq_true,if_false,DT,bs];rw [BG (by omega) (by omega)];by_cases l:(AB t.Nodes i).Parent < -1∨i<=(AB t.Nodes i).Parent
    ·rw [d1,d2 (by decide),d1 l];simp; omega
    ·have b:G9 t (i+1):=p.next (by unfold par; omega) (by unfold par; omega)
     rw [d2 (by simp; omega),d2 (by decide),d2 l];rw [YZ c (k:=i+1) (by omega) b e (by omega),bs];have m:=Ms c (k:=i+1) (a:=i) (by omega) b (by omega);have n:=Td (t:=t) e;have d:=Mr c (k:=i+1) (a:=i) (by omega) b (by omega);rw [BG (by omega) (by omega)];rw [C7 (fun k=>nz (MD (BT t i) k)),Hq]
     ·simp only [bs,zzX,Bool.or_eq_true,zzZ,Bool.not_eq_true',decide_eq_false_iff_not,Bool.not_eq_false',Bool.or_eq_false_iff,Bool.and_eq_false_iff,ne_eq]
      repeat' (first | rfl | (exfalso; omega; done) | split)
      all_goals (first | rfl | (exfalso; omega) | omega | simp_all | (simp_all; omega))
     ·intro k h f _;have o:=d _ (AQ (show 0<=k by omega) f);have r:=o.name;simp only [AI (show 0<=k by omega) f,bs];rw [Qs (by omega),bs,CR (fun j=>(AB (BT t i) j).Name==(AB (BT t i) k).Name) 5]
      ·rw [Xv o];simp only [bs,P9];unfold MD;dsimp only;cases HQ (AB (BT t i) k).Name
       ·rfl
       ·cases anyR (fun j=>(AB (BT t i) j).Name==(AB (BT t i) k).Name) 0 k <;> rfl
      ·intro j q s _;rw [AI q (by omega),bs];split <;> rfl
   ·rfl
 ·intro j h f _;rw [AI h (by omega),bs];split <;> rfl
def Mt (low high:Int):Bool:=((decide (0<=low))&&(decide (low<=40)))&&((decide (high=(-1)))||((decide (low<=high))&&(decide (high<=40))))
theorem gI (low high:Int):Kn low high=some (Mt low high):=by
 unfold Kn Mt E4;simp only [bs];cases (decide (0<=low)&&decide (low<=40)) <;> cases decide (high=-1) <;> rfl
def Js (t:AC) (i:Int):Int:=
 let x:=AB t.Edges i
 if HQ x.Name=false then 2 else if anyR (fun j=>(AB t.Edges j).Name==x.Name) 0 i=true then 5 else
 if (0<=x.From∧x.From<t.Nodes.length)∧(0<=x.To∧x.To<t.Nodes.length)∧Mt x.OutLow x.OutHigh=true∧Mt x.InLow x.InHigh=true then 0 else 6
theorem jO {t:AC} (h:BX t) {i:Int} (c:0<=i) (g:i<t.Edges.length):Je t i=some (Js t i):=by
 have k:=h.ename _ (AQ c g);unfold Je Js LR;dsimp only;rw [AI c g,bs,Qp (by omega),bs,MV c (by omega),bs,show (fun e=>NL e (AB t.Edges i))=(fun e=>some (e.Name==(AB t.Edges i).Name)) from rfl,Xg,bs,QM c (by omega)];simp only [show ∀ a b,Kh a b=some (Mt a b) from fun _ _=>rfl,bs];generalize HQ (AB t.Edges i).Name=b1;generalize anyR (fun j=>(AB t.Edges j).Name==(AB t.Edges i).Name) 0 i=b2;generalize Mt (AB t.Edges i).OutLow (AB t.Edges i).OutHigh=b3;generalize Mt (AB t.Edges i).InLow (AB t.Edges i).InHigh=b4;cases b1
 ·rfl
 ·cases b2
  ·cases b3 <;> cases b4
   all_goals
    by_cases d:0<=(AB t.Edges i).From∧(AB t.Edges i).From<t.Nodes.length
    ·by_cases f:0<=(AB t.Edges i).To∧(AB t.Edges i).To<t.Nodes.length
     ·simp [d,f]
     ·have:(decide (0<=(AB t.Edges i).To)&&decide ((AB t.Edges i).To<t.Nodes.length))=false:=by rw [Bool.eq_false_iff]; simpa using f
      simp [d,f,this]
    ·have:(decide (0<=(AB t.Edges i).From)&&decide ((AB t.Edges i).From<t.Nodes.length))=false:=by rw [Bool.eq_false_iff]; simpa using d
     simp [d,this]
  ·rfl
theorem ja {t:AC} (d:BX t) {i:Int} (e:0<=i) (f:i<t.Edges.length):NA t i=some (Js t i):=by
 have l:=d.ename _ (AQ e f);have m:=d.nodes;unfold NA Js E4;dsimp only;rw [AI e f,bs,Qs (by omega),bs,CR (fun j=>(AB t.Edges j).Name==(AB t.Edges i).Name) 5]
 ·simp only [BG (show -9223372036854775808<=(t.Nodes.length:Int) - 1 by omega) (by omega),gI,bs];generalize HQ (AB t.Edges i).Name=b1;generalize anyR (fun j=>(AB t.Edges j).Name==(AB t.Edges i).Name) 0 i=b2;generalize Mt (AB t.Edges i).OutLow (AB t.Edges i).OutHigh=b3;generalize Mt (AB t.Edges i).InLow (AB t.Edges i).InHigh=b4;cases b1
  ·rfl
  ·cases b2
   ·cases b3 <;> cases b4
    all_goals
     by_cases b:0<=(AB t.Edges i).From∧(AB t.Edges i).From<t.Nodes.length
     ·have a:(AB t.Edges i).From<=(t.Nodes.length:Int) - 1:=by omega
      by_cases g:0<=(AB t.Edges i).To∧(AB t.Edges i).To<t.Nodes.length
      ·have c:(AB t.Edges i).To<=(t.Nodes.length:Int) - 1:=by omega
       simp [b,g,a,c,DT]
      ·have:(decide (0<=(AB t.Edges i).To)&&decide ((AB t.Edges i).To<=(t.Nodes.length:Int) - 1))=false:=by rw [Bool.eq_false_iff]; simp; omega
       simp [b,g,a,this,DT]
     ·have:(decide (0<=(AB t.Edges i).From)&&decide ((AB t.Edges i).From<=(t.Nodes.length:Int) - 1))=false:=by rw [Bool.eq_false_iff]; simp; omega
      simp [b,this,DT]
   ·rfl
 ·intro j h k _;rw [AI h (by omega),bs];split <;> rfl
def BF (t:AC):ByteArray × Int:=
 if t.Nodes.length=0 then (⟨#[]⟩,7) else if 12<t.Nodes.length∨20<t.Edges.length then (⟨#[]⟩,3) else
 match fst (fun i=>(nz (JC t i)).map fun e=>((AB t.Nodes i).Name,e)) 0 t.Nodes.length with
 | some r=>r
 | none=>(fst (fun i=>(nz (Js t i)).map fun e=>((AB t.Edges i).Name,e)) 0 t.Edges.length).getD (⟨#[]⟩,0)
theorem aY {t:AC} {i:Int} (h:JC t i=0):-1<=par t i∧par t i<i:=by
 unfold JC at h;dsimp only at h;unfold par;by_cases a:(AB t.Nodes i).Parent < -1∨i<=(AB t.Nodes i).Parent
 ·rw [d1 a] at h;split at h
  ·cases h
  ·split at h <;> cases h
 ·omega
theorem Nd {α β:Type} {o:Option α} {g:α->β}:o.map g=none↔o=none:=by cases o <;> simp
theorem TI {t:AC} {i:Int} (h:∀ j,0<=j->j<i->JC t j=0):G9 t i:=fun j a b=>aY (h j a b)
theorem R5 {ρ:Type} (e:Int) (n:ByteArray):(if (!decide (e=0))=true then some (CY.ret (n,e)) else some (CY.next ()))=some (Pr ((nz e).map fun e=>(n,e))):=by
 unfold nz;by_cases h:e=0 <;> simp [h,Pr]
theorem R9 {t:AC} (c:BX t):GL t=some (BF t):=by
 unfold GL BF;rw [C7 (fun i=>(nz (JC t i)).map fun e=>((AB t.Nodes i).Name,e)),F8]
 ·rw [C7 (fun i=>(nz (Js t i)).map fun e=>((AB t.Edges i).Name,e)),F8]
  ·cases fst (fun i=>(nz (JC t i)).map fun e=>((AB t.Nodes i).Name,e)) 0 t.Nodes.length <;> cases fst (fun i=>(nz (Js t i)).map fun e=>((AB t.Edges i).Name,e)) 0 t.Edges.length
   all_goals dsimp only
   all_goals try simp only [Option.getD]
   all_goals
    simp only [bs,zzX,Bool.or_eq_true,zzZ,Bool.not_eq_true',decide_eq_false_iff_not,Bool.not_eq_false',Bool.or_eq_false_iff,Bool.and_eq_false_iff,ne_eq]
    repeat' (first | rfl | (exfalso; omega; done) | split)
    all_goals (first | rfl | (exfalso; omega) | omega | simp_all | (simp_all; omega))
  ·intro i a b _;rw [AI a b,bs,jO c a b,bs];exact R5 (ρ:=Unit) _ _
 ·intro i a b g;have h:G9 t i:=TI fun j d f=>Oh.1 (Nd.1 (g j d f));rw [AI a b,bs,jT c a b h,bs];exact R5 (ρ:=Unit) _ _
theorem SB {t:AC} (c:BX t):Im t=some (BF t):=by
 unfold Im BF;rw [C7 (fun i=>(nz (JC t i)).map fun e=>((AB t.Nodes i).Name,e)),F8]
 ·rw [C7 (fun i=>(nz (Js t i)).map fun e=>((AB t.Edges i).Name,e)),F8]
  ·cases fst (fun i=>(nz (JC t i)).map fun e=>((AB t.Nodes i).Name,e)) 0 t.Nodes.length <;> cases fst (fun i=>(nz (Js t i)).map fun e=>((AB t.Edges i).Name,e)) 0 t.Edges.length
   all_goals dsimp only
   all_goals try simp only [Option.getD]
   all_goals
    simp only [bs,zzX,Bool.or_eq_true,zzZ,Bool.not_eq_true',decide_eq_false_iff_not,Bool.not_eq_false',Bool.or_eq_false_iff,Bool.and_eq_false_iff,ne_eq]
    repeat' (first | rfl | (exfalso; omega; done) | split)
    all_goals (first | rfl | (exfalso; omega) | omega | simp_all | (simp_all; omega))
  ·intro i a b _;simp only [ja c a b,AI a b,bs];exact R5 (ρ:=Unit) _ _
 ·intro i a b g;have h:G9 t i:=TI fun j d f=>Oh.1 (Nd.1 (g j d f));simp only [jf c a b h,AI a b,bs];exact R5 (ρ:=Unit) _ _
end Go.Sf.Sc
namespace Go.Sf.Sc
open Go Go.Sf
theorem J5 {α:Type} {c:Bool} {a b:α}:(if c=true then some a else some b)=some (if c=true then a else b):=by cases c <;> rfl
def LX (n:Int):Bool:=(decide (0<=n))&&(decide (n<=99))
def QV (e:DU) (n:Int):Bool:=LX e.Type'&&(decide (0<=e.From)&&decide (e.From<n))&&(decide (0<=e.To)&&decide (e.To<n))
def DJ (g:Graph):Int:=
 if 40<g.Nodes.length∨80<g.Edges.length then 3 else if (g.Nodes.any fun n=>!LX n)=true then 6 else if (g.Edges.any fun e=>!QV e g.Nodes.length)=true then 6 else 0
structure Kj (g:Graph):Prop where
 nodes:g.Nodes.length<=40
 edges:g.Edges.length<=80
 kind:∀ n∈g.Nodes,0<=n∧n<=99
 fit:∀ e∈g.Edges,(0<=e.Type'∧e.Type'<=99)∧(0<=e.From∧e.From<g.Nodes.length)∧(0<=e.To∧e.To<g.Nodes.length)
theorem GA {g:Graph} (h:DJ g=0):Kj g:=by
 unfold DJ at h;split at h
 ·cases h
 ·split at h
  ·cases h
  ·split at h
   ·cases h
   ·rename_i f a b;refine ⟨by omega,by omega,fun n c=>?_,fun e d=>?_⟩
    ·rw [Bool.not_eq_true,List.any_eq_false] at a;have:=a n c;simp [LX] at this;exact this
    ·rw [Bool.not_eq_true,List.any_eq_false] at b;have:=b e d;simp only [QV,LX,Bool.not_eq_true',Bool.not_eq_false,zzZ,zzX] at this;omega
theorem jR {e:DU} {n:Nat} (h:n<=40):M2 e n=some (QV e n):=by
 unfold M2 I2 QV LX;simp only [bs,BG (show -9223372036854775808<=(n:Int) - 1 by omega) (by omega)];have a:decide (e.From<=(n:Int) - 1)=decide (e.From<n):=by rw [decide_eq_decide]; omega
 have b:decide (e.To<=(n:Int) - 1)=decide (e.To<n):=by rw [decide_eq_decide]; omega
 rw [a,b];generalize (decide (0<=e.Type')&&decide (e.Type'<=99))=b1;generalize (decide (0<=e.From)&&decide (e.From<n))=b2;cases b1 <;> cases b2 <;> simp
theorem Oi (g:Graph):EZ g=some (DJ g):=by
 unfold EZ DJ;by_cases h:40<g.Nodes.length∨80<g.Edges.length
 ·rw [d1 (by simp; omega),d1 h]
 ·rw [d2 (by simp; omega),d2 h,show MG=(fun n=>some (!LX n)) from rfl,aG,X9 (p:=fun e=>!QV e g.Nodes.length) (fun e _=>by
   unfold MH;rw [jR (by omega)]; rfl)]
  simp only [bs];cases g.Nodes.any fun n=>!LX n
  ·cases g.Edges.any fun e=>!QV e g.Nodes.length <;> rfl
  ·rfl
theorem Ok (g:Graph):HF g=some (DJ g):=by
 unfold HF DJ;by_cases h:40<g.Nodes.length∨80<g.Edges.length
 ·rw [d1 (by simp; omega),d1 h]
 ·rw [d2 (by simp; omega),d2 h,Kd,Kd,CR (fun i=>!LX (AB g.Nodes i)) 6]
  ·rw [CR (fun i=>!QV (AB g.Edges i) g.Nodes.length) 6]
   ·cases anyR (fun i=>!LX (AB g.Nodes i)) 0 g.Nodes.length
    ·cases anyR (fun i=>!QV (AB g.Edges i) g.Nodes.length) 0 g.Edges.length <;> rfl
    ·rfl
   ·intro i a b _;rw [AI a b,bs];unfold Nx QV;simp only [show ∀ n,La n=some (LX n) from fun _=>rfl,bs];generalize LX (AB g.Edges i).Type'=b1;cases b1 <;> cases decide (0<=(AB g.Edges i).From) <;> cases decide ((AB g.Edges i).From<g.Nodes.length) <;> cases decide (0<=(AB g.Edges i).To) <;> cases decide ((AB g.Edges i).To<g.Nodes.length) <;> rfl
  ·intro i a b _;rw [AI a b,bs,show La (AB g.Nodes i)=some (LX (AB g.Nodes i)) from rfl,bs];cases LX (AB g.Nodes i) <;> rfl
def GK (t:AC) (g:Graph):Bool:=!(g.Nodes.any fun n=>decide (t.Nodes.length<=n))&&!(g.Edges.any fun e=>decide (t.Edges.length<=e.Type'))
theorem Nk {t:AC} {g:Graph} (a:Kj g) (h:GK t g=true):(∀ n∈g.Nodes,0<=n∧n<t.Nodes.length)∧∀ e∈g.Edges,0<=e.Type'∧e.Type'<t.Edges.length:=by
 unfold GK at h;simp only [zzZ,Bool.not_eq_true',List.any_eq_false,zzX] at h;refine ⟨fun n b=>?_,fun e c=>?_⟩
 ·have:=h.1 n b;have:=a.kind n b;omega
 ·have:=h.2 e c;have:=a.fit e c;omega
theorem Un {t:AC} {g:Graph} (c:Kj g):Jk t g=some (GK t g):=by
 unfold Jk GK;rw [Kd,Kd,CR (fun i=>decide (t.Nodes.length<=AB g.Nodes i)) false]
 ·rw [CR (fun i=>decide (t.Edges.length<=(AB g.Edges i).Type')) false]
  ·cases anyR (fun i=>decide (t.Nodes.length<=AB g.Nodes i)) 0 g.Nodes.length
   ·cases anyR (fun i=>decide (t.Edges.length<=(AB g.Edges i).Type')) 0 g.Edges.length <;> rfl
   ·rfl
  ·intro i a b _;have:=(c.fit _ (AQ a b)).1.1;simp only [AI a b,bs];rw [d2 (by simp; omega),bs,J5]
 ·intro i a b _;have:=(c.kind _ (AQ a b)).1;simp only [AI a b,bs];rw [d2 (by simp; omega),bs,J5]
structure IP (t:AC):Prop where
 nodes:t.Nodes.length<=12
 edges:t.Edges.length<=20
 node:∀ i:Int,0<=i->i<t.Nodes.length->JC t i=0
 edge:∀ i:Int,0<=i->i<t.Edges.length->Js t i=0
theorem G8 {t:AC} (h:(BF t).2=0):IP t:=by
 unfold BF at h;split at h
 ·cases h
 ·split at h
  ·cases h
  ·rename_i k l;have g:∀ i:Int,0<=i->i<t.Nodes.length->JC t i=0:=by
    split at h
    ·rename_i r b;obtain ⟨i,_,_,a,_⟩:=DZ b;unfold nz at a;split at a
     ·cases a
     ·rename_i c;cases a; exact absurd h c
    ·rename_i b;intro i d f;exact Oh.1 (Nd.1 (D9.1 b i d f))
   have j:∀ i:Int,0<=i->i<t.Edges.length->Js t i=0:=by
    split at h
    ·rename_i r b;obtain ⟨i,d,f,a,_⟩:=DZ b;rw [g i d f] at a;cases a
    ·cases b:fst (fun i=>(nz (Js t i)).map fun e=>((AB t.Edges i).Name,e)) 0 t.Edges.length with
     | some r=>
      rw [b] at h;obtain ⟨i,_,_,a,_⟩:=DZ b;unfold nz at a;split at a
      ·cases a
      ·rename_i c;cases a; exact absurd h c
     | none=>
      intro i d f;exact Oh.1 (Nd.1 (D9.1 b i d f))
   exact ⟨by omega,by omega,g,j⟩
theorem IP.par {t:AC} (h:IP t):G9 t t.Nodes.length:=TI h.node
theorem IP.ends {t:AC} (h:IP t) {i:Int} (b:0<=i) (c:i<t.Edges.length):(0<=(AB t.Edges i).From∧(AB t.Edges i).From<t.Nodes.length)∧(0<=(AB t.Edges i).To∧(AB t.Edges i).To<t.Nodes.length):=by
 have:=h.edge i b c;unfold Js at this;dsimp only at this;split at this
 ·cases this
 ·split at this
  ·cases this
  ·split at this
   ·rename_i a; exact ⟨a.1,a.2.1⟩
   ·cases this
def JG (t:AC) (a:Int):Bool:=decide (0<=a)&&decide (a<t.Nodes.length)
theorem Ma {t:AC} {a:Int}:JG t a=true↔0<=a∧a<t.Nodes.length:=by unfold JG; simp
theorem Um {t:AC} (b:BX t) (l:Ne):HI t l=some (if (BF t).2≠0 then (BF t).2 else if (l.all (JG t))=true then 0 else 6):=by
 unfold HI;rw [R9 b,bs,WH (p:=fun a=>!JG t a) (fun a _=>by unfold MM JG; rw [show decide (a<0)=!decide (0<=a) from by rw [←decide_not,decide_eq_decide]; omega,show decide ((t.Nodes.length:Int)<=a)=!decide (a<t.Nodes.length) from by rw [←decide_not,decide_eq_decide]; omega,Bool.not_and]),bs];rw [show (l.any fun a=>!JG t a)=!(l.all (JG t)) from by rw [List.all_eq_not_any_not,Bool.not_not]];cases l.all (JG t) <;> by_cases h:(BF t).2=0 <;> simp [h]
theorem Yd {t:AC} (d:BX t) (a b:Int):Ko t a b=some (if (BF t).2≠0 then (BF t).2 else if (JG t a&&JG t b)=true then 0 else 6):=by
 have f:=d.nodes;have e:∀ a,decide (a<=(t.Nodes.length:Int) - 1)=decide (a<(t.Nodes.length:Int)):=fun a=>by rw [decide_eq_decide]; omega
 unfold Ko E4;rw [SB d,bs];simp only [BG (show -9223372036854775808<=(t.Nodes.length:Int) - 1 by omega) (by omega),bs,e];change (if (!decide ((BF t).snd=0))=true then some (BF t).snd else (if (!JG t a)=true then some true else some (!JG t b)).bind fun c=>if c=true then some 6 else some 0)=_;cases JG t a <;> cases JG t b <;> by_cases h:(BF t).2=0 <;> simp [h]
theorem bO {α:Type} [Inhabited α] {l:List α} {i:Int} (a:0<=i) (b:i<l.length):BZ l i (AB l i)=l:=by
 unfold BZ AB;rw [List.getD_eq_getElem?_getD,List.getElem?_eq_getElem (by omega)];exact List.set_getElem_self _
theorem GJ {α:Type} [Inhabited α] {l:List α} {i:Int} (a:0<=i) (b:i<l.length):l.take (i+1).toNat=l.take i.toNat++[AB l i]:=by
 unfold AB;rw [show (i+1).toNat=i.toNat+1 by omega,List.take_add_one,List.getD_eq_getElem?_getD,List.getElem?_eq_getElem (by omega)];rfl
theorem FE {α:Type} {l:List α} (h:l.length<=BN):BV [] l=some l:=by rw [CF (by simpa using h)]; rfl
def JO (t:AC) (a:Int):List Attr × Int:=if (BF t).2≠0 then ([],(BF t).2) else if JG t a=true then (BT t a,0) else ([],6)
theorem YS {t:AC} (g:BX t) (a:Int):IA t a=some (JO t a):=by
 unfold IA JO;rw [Um g,bs];by_cases h:(BF t).2=0
 ·have d:=G8 h;have e:[a].all (JG t)=JG t a:=by simp
  rw [e];simp only [h,ne_eq,not_true_eq_false,if_false];cases hi:JG t a
  ·rfl
  ·rw [d1 rfl,d1 rfl];have j:=Ma.1 hi;have v:=Ms g (Int.le_refl _) d.par j.2;have r:=Mr g (Int.le_refl _) d.par j.2;rw [d2 (by decide),YT g (Int.le_refl _) d.par j.1 j.2,bs];obtain ⟨s',u,rfl⟩:=WW (f:=(fun (k:Int) (l:List Attr)=>
 (AM l k).bind fun m=>
 (slices_Clone_string m.Names).bind fun n=>
 (AM l k).bind fun c=>
 some (BZ l k (Attr.mk c.Name c.Low c.High n)))) (fun _ s=>s=BT t a) (a:=0) (b:=(BT t a).length) (s:=BT t a) (by omega) rfl (fun i s o p q=>by
     subst q;have:=(r _ (AQ o p)).names;refine ⟨BT t a,?_,rfl⟩;unfold slices_Clone_string;rw [AI o p,bs,FE (by unfold BN; omega),bs,bs];congr 1;exact bO o p)
   rw [u]; rfl
 ·simp only [h,ne_eq,not_false_eq_true,if_true,decide_false,Bool.not_false]
theorem YY {t:AC} (c:BX t) (a:Int):Km t a=some (JO t a):=by
 unfold Km JO;rw [Yd c,bs];by_cases h:(BF t).2=0
 ·have b:=G8 h;rw [Bool.and_self];simp only [h,ne_eq,not_true_eq_false,if_false];cases hi:JG t a
  ·rfl
  ·rw [d1 rfl,d1 rfl];have d:=Ma.1 hi;have j:=Ms c (Int.le_refl _) b.par d.2;have g:=Mr c (Int.le_refl _) b.par d.2;rw [d2 (by decide),YZ c (Int.le_refl _) b.par d.1 d.2,bs];rw [DO (fun i=>(BT t a).take i.toNat) (by omega) (by simp)]
   ·rw [bs,Int.toNat_natCast,List.take_length]
   ·intro i e f;have:=(g _ (AQ e f)).names;rw [AI e f,bs,FE (by unfold BN; omega),bs,CF (by rw [d5]; simp; unfold BN; omega),GJ e f];rfl
 ·simp only [h,ne_eq,not_false_eq_true,if_true,decide_false,Bool.not_false]
end Go.Sf.Sc
namespace Go.Sf.Sc
open Go Go.Sf
def OB (t:AC):Nat->Int->Ne
 | 0,_=>[]
 | n+1,a=>if a<0 then [] else a::OB t n (par t a)
theorem Yp (t:AC):∀ (n:Nat) (a:Int),(OB t n a).length<=n
 | 0,_=>by simp [OB]
 | n+1,a=>by
  rw [OB];split
  ·simp
  ·have:=Yp t n (par t a); simp; omega
def JH (t:AC) (a b:Int):Bool:=(OB t (a+1).toNat a).any fun x=>decide (b=x)
theorem YN {t:AC} (c:t.Nodes.length<=12) (g:G9 t t.Nodes.length):∀ (n:Nat) (a:Int) (l:Ne),a<t.Nodes.length->a<n->l.length+n<=1000 ->
  ∃ x,Mp (ρ:=Ne) (fun (b:Int × Ne)=>
 if (decide (0<=b.1))=true then
 (BV b.2 [b.1]).bind fun d=>
 (AM t.Nodes b.1).bind fun e=>
 some (.next (e.Parent,d))
 else
 some (.brk (b.1,b.2))) (a,l) (.inl (x,l++OB t n a))
 | 0,a,l,f,j,_=>by
  refine ⟨a,.brk ?_⟩;rw [d2 (by simp; omega)];simp [OB]
 | n+1,a,l,f,j,m=>by
  by_cases h:a<0
  ·refine ⟨a,.brk ?_⟩;rw [d2 (by simp; omega)];simp [OB,h]
  ·have k:=g a (by omega) f;obtain ⟨x,i⟩:=YN c g n (par t a) (l++[a]) (by omega) (by omega) (by simp; omega);refine ⟨x,.next (s':=(par t a,l++[a])) ?_ ?_⟩
   ·rw [d1 (by simp; omega),CF (by simp; unfold BN; omega),bs,AI (by omega) f]; rfl
   ·rw [OB,d2 h,show l++a::OB t n (par t a)=(l++[a])++OB t n (par t a) by simp];exact i
theorem ct {t:AC} (h:IP t) {a b:Int} (f:0<=a) (c:a<t.Nodes.length):Jp t a b=some (JH t a b):=by
 have d:=h.nodes;obtain ⟨x,e⟩:=YN d h.par (a+1).toNat a [] c (by omega) (by simp; omega);have g:=Yp t (a+1).toNat a;unfold Jp KX;rw [e.eq,DT];simp only [List.nil_append];unfold slices_Reverse_int;rw [d1 (by unfold BN; omega)];simp only [bs];rw [Th,bs];unfold JH;rw [List.any_reverse]
theorem TM {t:AC} (d:G9 t t.Nodes.length) {b:Int} (h:0<=b):∀ (n m:Nat) (a:Int),-1<=a->a<t.Nodes.length->a+1<n->a<m->Hv n t a b=some ((OB t m a).any fun x=>decide (b=x))
 | 0,_,_,_,_,_,_=>by omega
 | n+1,m,a,j,g,k,l=>by
  rw [Hv];by_cases f:a<0
  ·rw [d2 (by simp; omega),d2 (by simp; omega)];cases m <;> simp [OB,f]
  ·cases m with
   | zero=>omega
   | succ m=>
    have i:=d a (by omega) g;rw [OB,d2 f,List.any_cons,d1 (show decide (0<=a)=true by simp; omega),AI (by omega) g];simp only [bs];rw [show (AB t.Nodes a).Parent=par t a from rfl,TM d h n m (par t a) (by omega) (by omega) (by omega) (by omega)];by_cases c:a=b
    ·simp [c]
    ·have:¬ b=a:=fun e=>c e.symm;simp [c,this]
theorem SC {t:AC} (h:IP t) {a b:Int} (e:0<=a) (c:a<t.Nodes.length) (d:0<=b):IG t a b=some (JH t a b):=
 FJ (a+2).toNat fun n f=>TM h.par d n (a+1).toNat a (by omega) c (by omega) (by omega)
def QW (t:AC) (e f g:Int):Bool:=
 decide ((BF t).2=0)&&(JG t f&&JG t g)&&(decide (0<=e)&&decide (e<t.Edges.length))&&(JH t f (AB t.Edges e).From&&JH t g (AB t.Edges e).To)
theorem jL {t:AC} (c:BX t) (e f g:Int):Jd t e f g=some (QW t e f g):=by
 unfold Jd QW;rw [Um c,bs,show [f,g].all (JG t)=(JG t f&&JG t g) by simp];by_cases h:(BF t).2=0
 ·simp only [h,ne_eq,not_true_eq_false,if_false];have a:=G8 h;cases hi:(JG t f&&JG t g)
  ·rfl
  ·rw [zzZ,Ma,Ma] at hi;by_cases b:0<=e∧e<t.Edges.length
   ·rw [d2 (by simp; omega),AI b.1 b.2];simp only [bs,ct a hi.1.1 hi.1.2,ct a hi.2.1 hi.2.2,b.1,b.2,decide_true,Bool.true_and];cases JH t f (AB t.Edges e).From <;> rfl
   ·rw [d1 (by simp; omega)];have:(decide (0<=e)&&decide (e<t.Edges.length))=false:=by rw [Bool.eq_false_iff]; simpa using b
    rw [this]; simp
 ·simp [h]
theorem jY {t:AC} (i:BX t) (e f g:Int):M9 t e f g=some (QW t e f g):=by
 have k:=i.edges;unfold M9 QW E4;rw [Yd i,bs];by_cases h:(BF t).2=0
 ·simp only [h,ne_eq,not_true_eq_false,if_false];have b:=G8 h;cases hi:(JG t f&&JG t g)
  ·rfl
  ·rw [zzZ,Ma,Ma] at hi;rw [BG (by omega) (by omega)];simp only [bs];by_cases a:0<=e∧e<t.Edges.length
   ·have c:=b.ends a.1 a.2;have d:e<=(t.Edges.length:Int) - 1:=by omega
    rw [d2 (by simp),bs,d2 (by simp [a.1,d]),AI a.1 a.2];simp only [bs,SC b hi.1.1 hi.1.2 c.1.1,SC b hi.2.1 hi.2.2 c.2.1,a.1,a.2,decide_true,Bool.true_and];cases JH t f (AB t.Edges e).From <;> rfl
   ·have:(decide (0<=e)&&decide (e<t.Edges.length))=false:=by rw [Bool.eq_false_iff]; simpa using a
    have j:(decide (0<=e)&&decide (e<=(t.Edges.length:Int) - 1))=false:=by rw [Bool.eq_false_iff]; simp; omega
    rw [this,j]; simp
 ·simp [h]
def NI (n:Int) (x:Term):Bool:=(((decide ((-1)<=x.Var))&&(decide (x.Var<n)))&&(decide ((-1000000)<=x.Add)))&&(decide (x.Add<=1000000))
def ML (n:Int) (x:Test):Int:=if ¬ x.Kind=1∧¬ x.Kind=2 then 1 else if (NI n x.Left&&NI n x.Right)=true then 0 else 6
def Jb (n:Int) (l:List Test):Int:=if n<0∨12<n then 6 else if 40<l.length then 3 else (fst (fun i=>nz (ML n (AB l i))) 0 l.length).getD 0
theorem jV (n:Int) (x:Test):J1 n x=some (ML n x):=by
 unfold J1 ML;simp only [show ∀ n x,JQ n x=some (NI n x) from fun _ _=>rfl,bs];generalize NI n x.Left=b1;generalize NI n x.Right=b2;cases b1 <;> cases b2
 all_goals
  simp only [bs,zzX,Bool.or_eq_true,zzZ,Bool.not_eq_true',decide_eq_false_iff_not,Bool.not_eq_false',Bool.or_eq_false_iff,Bool.and_eq_false_iff,ne_eq]
  repeat' (first | rfl | (exfalso; omega; done) | split)
  all_goals (first | rfl | (exfalso; omega) | omega | simp_all | (simp_all; omega))
theorem c8 (n:Int) (x:Term):J8 n x=some (if NI n x=true then 0 else 6):=by
 unfold J8 NI;simp only [bs,zzX,Bool.or_eq_true,zzZ,Bool.not_eq_true',decide_eq_false_iff_not,Bool.not_eq_false',Bool.or_eq_false_iff,Bool.and_eq_false_iff,ne_eq]
 repeat' (first | rfl | (exfalso; omega; done) | split)
 all_goals (first | rfl | (exfalso; omega) | omega | simp_all | (simp_all; omega))
theorem jh (n:Int) (x:Test):N7 n x=some (ML n x):=by
 unfold N7 ML;simp only [c8,bs];generalize NI n x.Left=b1;generalize NI n x.Right=b2;cases b1 <;> cases b2
 all_goals
  simp only [bs,zzX,Bool.or_eq_true,zzZ,Bool.not_eq_true',decide_eq_false_iff_not,Bool.not_eq_false',Bool.or_eq_false_iff,Bool.and_eq_false_iff,ne_eq]
  repeat' (first | rfl | (exfalso; omega; done) | split)
  all_goals (first | rfl | (exfalso; omega) | omega | simp_all | (simp_all; omega))
theorem gC (n:Int) (l:List Test):I0 n l=some (Jb n l):=by
 unfold I0 Jb;rw [C7 (fun i=>nz (ML n (AB l i))),Hq]
 ·simp only [bs,zzX,Bool.or_eq_true,zzZ,Bool.not_eq_true',decide_eq_false_iff_not,Bool.not_eq_false',Bool.or_eq_false_iff,Bool.and_eq_false_iff,ne_eq]
  repeat' (first | rfl | (exfalso; omega; done) | split)
  all_goals (first | rfl | (exfalso; omega) | omega | simp_all | (simp_all; omega))
 ·intro i a b _;rw [AI a b,bs,jV,bs,P9]
theorem gQ (n:Int) (l:List Test):Lz n l=some (Jb n l):=by
 unfold Lz Jb;rw [C7 (fun i=>nz (ML n (AB l i))),Hq]
 ·simp only [bs,zzX,Bool.or_eq_true,zzZ,Bool.not_eq_true',decide_eq_false_iff_not,Bool.not_eq_false',Bool.or_eq_false_iff,Bool.and_eq_false_iff,ne_eq]
  repeat' (first | rfl | (exfalso; omega; done) | split)
  all_goals (first | rfl | (exfalso; omega) | omega | simp_all | (simp_all; omega))
 ·intro i a b _;rw [AI a b,bs,jh,bs,P9]
def PK (t:AC) (p:Pattern) (node ix:Int):Attr × Bool:=
 if node<0∨p.Graph.Nodes.length<=node then (default,false) else
 let l:=(JO t (AB p.Graph.Nodes node)).1
 if ix<0∨l.length<=ix then (default,false) else (AB l ix,true)
theorem Tc {t:AC} (c:BX t) (a:Int):(JO t a).1.length<=600∧((JO t a).2≠0->(JO t a).1=[]):=by
 unfold JO;split
 ·simp
 ·rename_i h;have b:=G8 (t:=t) (by omega);split
  ·rename_i hi;exact ⟨Ms c (Int.le_refl _) b.par (Ma.1 hi).2,by simp⟩
  ·simp
theorem fw {t:AC} (a:BX t) {p:Pattern} (c:Kj p.Graph) (s:EJ):G0 t p s=some (PK t p s.Node s.Attr):=by
 have d:=c.nodes;unfold G0 PK DY;dsimp only;rw [BG (by omega) (by omega),bs];by_cases h:s.Node<0∨p.Graph.Nodes.length<=s.Node
 ·rw [d1 (by simp; omega),d1 h]; rfl
 ·rw [d2 (by simp; omega),d2 h,AI (by omega) (by omega),bs,YS a,bs];have e:=(Tc a (AB p.Graph.Nodes s.Node)).1;rw [BG (by omega) (by omega),bs];by_cases b:s.Attr<0∨(JO t (AB p.Graph.Nodes s.Node)).1.length<=s.Attr
  ·rw [d1 (by simp; omega),d1 b]; rfl
  ·rw [d2 (by simp; omega),d2 b,AI (by omega) (by omega)]; rfl
theorem gH {t:AC} (c:BX t) {p:Pattern} (node a:Int):ND t p node a=some (PK t p node a):=by
 unfold ND PK;dsimp only;by_cases h:node<0∨p.Graph.Nodes.length<=node
 ·rw [d1 (by simp; omega),d1 h]; rfl
 ·rw [d2 (by simp; omega),d2 h,AI (by omega) (by omega),bs,YY c,bs];have e:=(Tc c (AB p.Graph.Nodes node)).2;by_cases b:a<0∨(JO t (AB p.Graph.Nodes node)).1.length<=a
  ·rw [d1 (by simp; omega),d1 b]; rfl
  ·by_cases d:(JO t (AB p.Graph.Nodes node)).2=0
   ·rw [d2 (by simp [d]; omega),d2 b,AI (by omega) (by omega)]; rfl
   ·rw [e d] at b; simp at b; omega
end Go.Sf.Sc
namespace Go.Sf
variable {σ ρ:Type}
def kL (s:σ) (o:Option ρ):CY σ ρ:=match o with
 | none=>.next s
 | some r=>.ret r
def ei (s:σ) (o:Option ρ):σ ⊕ ρ:=match o with
 | none=>.inl s
 | some r=>.inr r
theorem WX {f:Int->σ->Option (CY σ ρ)} (g:Int->σ) (c:Int->Option ρ):∀ (n:Nat) (a:Int),
  (∀ i,a<=i->i<a+n->(∀ j,a<=j->j<i->c j=none)->f i (g i)=some (kL (g (i+1)) (c i)))->forGo f n a (g a)=some (ei (g (a+n)) (HC c n a))
 | 0,a,_=>by simp [forGo,HC,ei]
 | n+1,a,h=>by
  have l:=h a (Int.le_refl _) (by omega) (fun j b d=>by omega);rw [H4,l,HC];cases m:c a with
  | some r=>rfl
  | none=>
   simp only [kL];rw [show a+((n+1:Nat):Int)=a+1+n by omega];refine WX g c n (a+1) (fun i b d e=>h i (by omega) (by omega) (fun j p k=>?_));by_cases o:j=a
   ·subst o; exact m
   ·exact e j (by omega) k
theorem P5 {f:Int->σ->Option (CY σ ρ)} (g:Int->σ) (c:Int->Option ρ) {a b:Int} {s:σ} (d:a<=b) (e:s=g a) (h:∀ i,a<=i->i<b->(∀ j,a<=j->j<i->c j=none)->f i (g i)=some (kL (g (i+1)) (c i))):forR f a b s=some (ei (g b) (fst c a b)):=by
 subst e;unfold forR fst;have:=WX g c (b - a).toNat a (fun i k m l=>h i k (by omega) l)
 rwa [show a+((b - a).toNat:Int)=b by omega] at this
variable {α:Type}
theorem Ie {e:Int} {X:dD} {Y:Int} (h:e=0->X=some Y):(if (!decide (e=0))=true then some e else X)=some (if e≠0 then e else Y):=by
 by_cases a:e=0
 ·simp [a,h a]
 ·simp [a]
theorem K8 {e:Int} {v:α} {X:Option α} {Y:α} (h:e=0->X=some Y):(if (!decide (e=0))=true then some v else X)=some (if e≠0 then v else Y):=by
 by_cases a:e=0
 ·simp [a,h a]
 ·simp [a]
theorem P2 {P:Prop} [Decidable P] {b:Bool} {v:α} {X:Option α} {Y:α} (c:b=true↔P) (h:¬ P->X=some Y):(if b=true then some v else X)=some (if P then v else Y):=by
 by_cases a:P
 ·rw [d1 (c.2 a),d1 a]
 ·rw [d2 (fun h=>a (c.1 h)),d2 a,h a]
theorem YA {b:Bool} {v:α} {X:Option α} {Y:α} (h:b=true->X=some Y):(if (!b)=true then some v else X)=some (if b=false then v else Y):=by
 cases b
 ·rfl
 ·simpa using h rfl
theorem rZ {b:Bool} {v:α} {X:Option α} {Y:α} (h:b=false->X=some Y):(if b=true then some v else X)=some (if b=true then v else Y):=by
 cases b
 ·simpa using h rfl
 ·rfl
end Go.Sf
namespace Go.Sf.Sc
open Go Go.Sf
def QO (t:AC) (p:Pattern) (s:EJ):Bool:=!(PK t p s.Node s.Attr).2||decide (s.Term.Var < -1)||decide (p.Vars<=s.Term.Var)||(decide (s.Term.Add < -1000000)||decide (1000000<s.Term.Add))
def LE (p:Pattern) (v:Int):Bool:=p.Slots.any fun s=>decide (s.Term.Var=v)
def J7 (t:AC) (p:Pattern):Int:=
 if (BF t).2≠0 then (BF t).2 else if DJ p.Graph≠0 then DJ p.Graph else if GK t p.Graph=false then 13 else
 if p.Vars<0∨12<p.Vars then 6 else if 10<p.Slots.length∨10<p.Tests.length then 3 else
 if (p.Slots.any (QO t p))=true then 6 else if Jb p.Vars p.Tests≠0 then Jb p.Vars p.Tests else
 if anyR (fun v=>!LE p v) 0 p.Vars=true then 9 else 0
def KY (p:Pattern) (i:Int):d0:=(List.range p.Vars.toNat).map fun (v:Nat)=>(p.Slots.take i.toNat).any fun s=>decide (s.Term.Var=(v:Int))
theorem Zz {p:Pattern}:KY p 0=List.replicate p.Vars.toNat false:=by
 unfold KY;refine List.ext_getElem (by simp) (fun n a b=>by simp)
theorem bi (p:Pattern) (i:Int):(KY p i).length=p.Vars.toNat:=by simp [KY]
theorem bj {p:Pattern} {i:Int} (b:0<=i) (c:i<p.Slots.length) (hv:0<=(AB p.Slots i).Term.Var):BZ (KY p i) (AB p.Slots i).Term.Var true=KY p (i+1):=by
 unfold BZ;refine List.ext_getElem (by simp [KY]) (fun n d e=>?_);simp only [KY,List.getElem_set,List.getElem_map,List.getElem_range,GJ b c,List.any_append,List.any_cons,List.any_nil,Bool.or_false];by_cases a:(AB p.Slots i).Term.Var.toNat=n
 ·rw [d1 a,decide_eq_true (show (AB p.Slots i).Term.Var=(n:Int) by omega),Bool.or_true]
 ·rw [d2 a,decide_eq_false (show ¬ (AB p.Slots i).Term.Var=(n:Int) by omega),Bool.or_false]
theorem Zy {p:Pattern} {i:Int} (a:0<=i) (b:i<p.Slots.length) (hv:(AB p.Slots i).Term.Var<0):KY p i=KY p (i+1):=by
 refine List.ext_getElem (by simp [KY]) (fun n c d=>?_);simp only [KY,List.getElem_map,List.getElem_range,GJ a b,List.any_append,List.any_cons,List.any_nil,Bool.or_false];rw [decide_eq_false (show ¬ (AB p.Slots i).Term.Var=(n:Int) by omega),Bool.or_false]
theorem bh (p:Pattern):((KY p p.Slots.length).any fun x=>false==x)=anyR (fun v=>!LE p v) 0 p.Vars:=by
 rw [Bool.eq_iff_iff,List.any_eq_true,IY];simp only [KY,Int.toNat_natCast,List.take_length,List.mem_map,List.mem_range];constructor
 ·rintro ⟨x,⟨v,hv,rfl⟩,a⟩;refine ⟨v,by omega,by omega,?_⟩;unfold LE;revert a;cases p.Slots.any fun s=>decide (s.Term.Var=(v:Int)) <;> simp
 ·rintro ⟨v,b,c,a⟩;refine ⟨_,⟨v.toNat,by omega,rfl⟩,?_⟩;rw [Int.toNat_of_nonneg b];unfold LE at a;revert a;cases p.Slots.any fun s=>decide (s.Term.Var=v) <;> simp
theorem fZ {α ρ:Type} [Inhabited α] {l:List α} {q:α->Bool} {v:ρ}:fst (fun i=>if q (AB l i)=true then some v else none) 0 l.length=if l.any q=true then some v else none:=by
 rw [PV,Kd]
theorem V0 {t:AC} (r:BX t) (p:Pattern):ER t p=some (J7 t p):=by
 unfold ER J7;rw [R9 r,bs,Oi,bs];refine Ie fun x=>Ie fun u=>?_;have k:=GA u;have e:((B4 p.Graph.Nodes (fun a=>Ib a t)).bind fun f=>
   (if f=true then some true else ((CI p.Graph.Edges (fun a=>Ic a t)).bind fun g=>some (g))))=some (!GK t p.Graph):=by
  unfold GK;rw [show (fun a=>Ib a t)=(fun (n:Int)=>some (decide (t.Nodes.length<=n))) from rfl,aG,show (fun a=>Ic a t)=(fun (e:DU)=>some (decide (t.Edges.length<=e.Type'))) from rfl,fO];simp only [bs];cases p.Graph.Nodes.any fun n=>decide (t.Nodes.length<=n) <;> simp
 rw [←Option.bind_assoc,e,bs];refine YA fun w=>?_;unfold DY;simp only [bs];refine P2 (by simp; try omega) fun hv=>P2 (by simp; try omega) fun y=>?_;unfold Jq;rw [d1 (by omega),bs,←Zz,BG (show -9223372036854775808<=p.Vars - 1 by omega) (by omega),P5 (KY p) (fun i=>if QO t p (AB p.Slots i)=true then some 6 else none) (by omega) rfl,fZ]
 ·cases b:p.Slots.any (QO t p)
  ·simp only [Bool.false_eq_true,if_false,ei,DT,gC,bs,fS,bh];by_cases c:Jb p.Vars p.Tests=0
   ·simp only [c];cases anyR (fun v=>!LE p v) 0 p.Vars <;> rfl
   ·simp [c]
  ·rfl
 ·intro i h j _;rw [AI h j,bs,fw r k,bs];unfold QO;by_cases b:(PK t p (AB p.Slots i).Node (AB p.Slots i).Attr).2=true
  ·by_cases s:(AB p.Slots i).Term.Var < -1∨p.Vars<=(AB p.Slots i).Term.Var
   ·have l:(decide (-1<=(AB p.Slots i).Term.Var)&&decide ((AB p.Slots i).Term.Var<=p.Vars - 1))=false:=by rw [Bool.eq_false_iff]; simp; omega
    have m:(decide ((AB p.Slots i).Term.Var < -1)||decide (p.Vars<=(AB p.Slots i).Term.Var))=true:=by simp; omega
    rw [b,l,Bool.or_assoc (!true),m]; rfl
   ·have l:(decide (-1<=(AB p.Slots i).Term.Var)&&decide ((AB p.Slots i).Term.Var<=p.Vars - 1))=true:=by simp; omega
    have m:(decide ((AB p.Slots i).Term.Var < -1)||decide (p.Vars<=(AB p.Slots i).Term.Var))=false:=by rw [Bool.eq_false_iff]; simp; omega
    rw [b,l,Bool.or_assoc (!true),m];by_cases z:(AB p.Slots i).Term.Add < -1000000∨1000000<(AB p.Slots i).Term.Add
    ·have o:(decide (-1000000<=(AB p.Slots i).Term.Add)&&decide ((AB p.Slots i).Term.Add<=1000000))=false:=by rw [Bool.eq_false_iff]; simp; omega
     have q:(decide ((AB p.Slots i).Term.Add < -1000000)||decide (1000000<(AB p.Slots i).Term.Add))=true:=by simp; omega
     rw [o,q]; rfl
    ·have o:(decide (-1000000<=(AB p.Slots i).Term.Add)&&decide ((AB p.Slots i).Term.Add<=1000000))=true:=by simp; omega
     have q:(decide ((AB p.Slots i).Term.Add < -1000000)||decide (1000000<(AB p.Slots i).Term.Add))=false:=by rw [Bool.eq_false_iff]; simp; omega
     rw [o,q];by_cases d:0<=(AB p.Slots i).Term.Var
     ·simp only [Bool.not_true,Bool.false_eq_true,if_false,bs,d,decide_true,if_true,Bool.or_false];rw [AI d (by rw [bi]; omega),bs,bj h j d]; rfl
     ·simp only [Bool.not_true,Bool.false_eq_true,if_false,bs,d,decide_false,Bool.or_false];rw [Zy h j (by omega)]; rfl
  ·rw [Bool.not_eq_true] at b;rw [b]; rfl
theorem eW (p:Pattern) (v:Int):LK p v=some (LE p v):=by
 unfold LK LE;rw [CR (fun i=>decide ((AB p.Slots i).Term.Var=v)) true,Kd]
 ·cases anyR (fun i=>decide ((AB p.Slots i).Term.Var=v)) 0 p.Slots.length <;> rfl
 ·intro i a b _;rw [AI a b,bs,J5]
theorem ZY {t:AC} (c:BX t) (p:Pattern):Jm t p=some (J7 t p):=by
 unfold Jm J7;rw [SB c,bs,Ok,bs];refine Ie fun j=>Ie fun g=>?_;have b:=GA g;rw [Un b,bs];refine YA fun h=>P2 (by simp; try omega) fun hv=>P2 (by simp; try omega) fun k=>?_;rw [CR (fun i=>QO t p (AB p.Slots i)) 6,←Kd]
 ·cases l:p.Slots.any (QO t p)
  ·simp only [Bool.false_eq_true,if_false,DT,gQ,bs];by_cases a:Jb p.Vars p.Tests=0
   ·simp only [a];rw [CR (fun v=>!LE p v) 9]
    ·cases anyR (fun v=>!LE p v) 0 p.Vars <;> rfl
    ·intro i d f _;rw [eW,bs,J5]
   ·simp [a]
  ·rfl
 ·intro i d f _;rw [AI d f,bs,gH c,bs];unfold QO MJ;simp only [bs];have e:(!(decide (-1000000<=(AB p.Slots i).Term.Add)&&decide ((AB p.Slots i).Term.Add<=1000000)))=(decide ((AB p.Slots i).Term.Add < -1000000)||decide (1000000<(AB p.Slots i).Term.Add)):=by
   rw [Bool.not_and,←decide_not,←decide_not];congr 1 <;> rw [decide_eq_decide] <;> omega
  rw [e];cases (!(PK t p (AB p.Slots i).Node (AB p.Slots i).Attr).2||decide ((AB p.Slots i).Term.Var < -1)||decide (p.Vars<=(AB p.Slots i).Term.Var))
  ·simp only [Bool.false_eq_true,if_false,bs,Bool.false_or,J5]
  ·rfl
end Go.Sf.Sc
namespace Go.Sf
theorem ST {l:Ne} {R:Int->Int->Prop} (h:l.Pairwise R) {i j:Int} (a:0<=i) (b:i<j) (c:j<l.length):R (AB l i) (AB l j):=by
 have:=(List.pairwise_iff_getElem.1 h) i.toNat j.toNat (by omega) (by omega) (by omega);unfold AB;rw [List.getD_eq_getElem?_getD,List.getD_eq_getElem?_getD,List.getElem?_eq_getElem (by omega),List.getElem?_eq_getElem (by omega)];exact this
theorem Xe {l:Ne} {R:Int->Int->Prop} (h:∀ i j:Int,0<=i->i<j->j<l.length->R (AB l i) (AB l j)):l.Pairwise R:=by
 refine List.pairwise_iff_getElem.2 (fun i j a b c=>?_);have:=h i j (by omega) (by omega) (by omega);unfold AB at this;rw [List.getD_eq_getElem?_getD,List.getD_eq_getElem?_getD,Int.toNat_natCast,Int.toNat_natCast,List.getElem?_eq_getElem a,List.getElem?_eq_getElem b] at this;exact this
end Go.Sf
namespace Go.Sf.Sc
open Go Go.Sf
def cT (l:Ne) (v:Int):Bool:=l.any fun x=>decide (v=x)
theorem cU {l:Ne} {v:Int}:cT l v=true↔v∈l:=by
 unfold cT;rw [List.any_eq_true];simp
theorem VG {c:Int->dD} {a b:Int} (e:∀ i,c i≠some 0) (h:(fst c a b).getD 0=0):∀ i,a<=i->i<b->c i=none:=by
 have:fst c a b=none:=by
  cases d:fst c a b with
  | none=>rfl
  | some r=>
   rw [d] at h;simp only [Option.getD] at h;subst h;obtain ⟨i,_,_,f,_⟩:=DZ d;exact (e i f).elim
 exact D9.1 this
end Go.Sf.Sc
namespace Go.Sf.Sc
open Go Go.Sf
def Kf (a b:Graph) (m:Morphism) (i:Int):dD:=
 if AB m.Nodes i<0∨b.Nodes.length<=AB m.Nodes i then some 6 else if AB b.Nodes (AB m.Nodes i)≠AB a.Nodes i then some 13 else none
def Hy (a b:Graph) (m:Morphism) (i:Int):dD:=
 if AB m.Edges i<0∨b.Edges.length<=AB m.Edges i then some 6 else
 if (AB a.Edges i).Type'≠(AB b.Edges (AB m.Edges i)).Type' then some 13 else
 if AB m.Nodes (AB a.Edges i).From≠(AB b.Edges (AB m.Edges i)).From∨AB m.Nodes (AB a.Edges i).To≠(AB b.Edges (AB m.Edges i)).To then some 11 else none
def MQ (a b:Graph) (m:Morphism):Int:=
 if DJ a≠0 then DJ a else if DJ b≠0 then DJ b else if m.Nodes.length≠a.Nodes.length∨m.Edges.length≠a.Edges.length then 20 else
 match fst (Kf a b m) 0 m.Nodes.length with
 | some e=>e
 | none=>(fst (Hy a b m) 0 m.Edges.length).getD 0
structure d9 (a b:Graph) (m:Morphism):Prop where
 ga:Kj a
 gb:Kj b
 nlen:m.Nodes.length=a.Nodes.length
 elen:m.Edges.length=a.Edges.length
 node:∀ i:Int,0<=i->i<m.Nodes.length->(0<=AB m.Nodes i∧AB m.Nodes i<b.Nodes.length)∧AB b.Nodes (AB m.Nodes i)=AB a.Nodes i
 edge:∀ i:Int,0<=i->i<m.Edges.length->(0<=AB m.Edges i∧AB m.Edges i<b.Edges.length)∧(AB a.Edges i).Type'=(AB b.Edges (AB m.Edges i)).Type' ∧
  AB m.Nodes (AB a.Edges i).From=(AB b.Edges (AB m.Edges i)).From∧AB m.Nodes (AB a.Edges i).To=(AB b.Edges (AB m.Edges i)).To
theorem eO {a b:Graph} {m:Morphism} (h:MQ a b m=0):d9 a b m:=by
 unfold MQ at h;split at h
 ·omega
 split at h
 ·omega
 split at h
 ·cases h
 rename_i j l n;have e:fst (Kf a b m) 0 m.Nodes.length=none:=by
  split at h
  ·rename_i r f;obtain ⟨i,_,_,k,_⟩:=DZ f;subst h;unfold Kf at k;split at k
   ·cases k
   ·split at k <;> cases k
  ·assumption
 rw [e] at h;have g:=VG (fun i=>by
  unfold Hy;split
  ·simp
  ·split
   ·simp
   ·split <;> simp) h
 refine ⟨GA (by omega),GA (by omega),by omega,by omega,fun i c d=>?_,fun i c d=>?_⟩
 ·have:=D9.1 e i c d;unfold Kf at this;split at this
  ·cases this
  ·split at this
   ·cases this
   ·rename_i x y;exact ⟨by omega,Classical.not_not.1 y⟩
 ·have:=g i c d;unfold Hy at this;split at this
  ·cases this
  ·split at this
   ·cases this
   ·split at this
    ·cases this
    ·rename_i x y z;exact ⟨by omega,Classical.not_not.1 y,Classical.not_not.1 (fun h=>z (.inl h)),Classical.not_not.1 (fun h=>z (.inr h))⟩
theorem eP (a b:Graph) (m:Morphism):FN a b m=some (MQ a b m):=by
 unfold FN MQ;rw [Oi,bs,Oi,bs];refine Ie fun k=>Ie fun n=>P2 (by simp; try omega) fun q=>?_;have ga:=GA k;have gb:=GA n;rw [C7 (Kf a b m),F8]
 ·cases o:fst (Kf a b m) 0 m.Nodes.length with
  | some e=>rfl
  | none=>
   have p:=D9.1 o;dsimp only;rw [C7 (Hy a b m),Hq];intro i f j _;unfold Hy;rw [AI f j,bs];by_cases c:AB m.Edges i<0∨b.Edges.length<=AB m.Edges i
   ·rw [d1 (by simpa using c),d1 c]; rfl
   ·have r:=ga.fit _ (AQ (l:=a.Edges) f (by omega));rw [d2 (by simpa using c),d2 c,AI f (by omega),bs,AI (by omega) (by omega),bs];by_cases d:(AB a.Edges i).Type'=(AB b.Edges (AB m.Edges i)).Type'
    ·rw [d2 (by simpa using d),d2 (by simpa using d),AI (by omega) (by omega),bs];by_cases g:AB m.Nodes (AB a.Edges i).From=(AB b.Edges (AB m.Edges i)).From
     ·rw [d2 (by simpa using g),AI (by omega) (by omega),bs,bs];by_cases h:AB m.Nodes (AB a.Edges i).To=(AB b.Edges (AB m.Edges i)).To
      ·rw [d2 (by simpa using h),d2 (by simp [g,h])]; rfl
      ·rw [d1 (by simpa using h),d1 (.inr h)]; rfl
     ·rw [d1 (by simpa using g),bs,d1 rfl,d1 (.inl g)]; rfl
    ·rw [d1 (by simpa using d),d1 d]; rfl
 ·intro i f j _;unfold Kf;rw [AI f j,bs];by_cases c:AB m.Nodes i<0∨b.Nodes.length<=AB m.Nodes i
  ·rw [d1 (by simpa using c),d1 c]; rfl
  ·rw [d2 (by simpa using c),d2 c,AI (by omega) (by omega),bs,AI f (by omega),bs];by_cases d:AB b.Nodes (AB m.Nodes i)=AB a.Nodes i
   ·rw [d2 (by simpa using d),d2 (by simpa using d)]; rfl
   ·rw [d1 (by simpa using d),d1 d]; rfl
theorem Ro {x y:Prop} [Decidable x] [Decidable y]:(if decide x=true then some true else some (decide y))=some (decide (x∨y)):=by
 by_cases a:x <;> simp [a]
theorem eU (a b:Graph) (m:Morphism):Kq a b m=some (MQ a b m):=by
 unfold Kq MQ;rw [Ok,bs,Ok,bs];refine Ie fun k=>Ie fun n=>P2 (by simp; try omega) fun q=>?_;have ga:=GA k;have gb:=GA n;rw [show (a.Nodes.length:Int)=m.Nodes.length by omega,show (a.Edges.length:Int)=m.Edges.length by omega,C7 (Kf a b m),F8]
 ·cases o:fst (Kf a b m) 0 m.Nodes.length with
  | some e=>rfl
  | none=>
   have p:=D9.1 o;dsimp only;rw [C7 (Hy a b m),Hq];intro i f j _;unfold Hy;rw [AI f j];simp only [bs,Ro];by_cases c:AB m.Edges i<0∨b.Edges.length<=AB m.Edges i
   ·rw [d1 (by simpa using c),d1 c]; rfl
   ·have r:=ga.fit _ (AQ (l:=a.Edges) f (by omega));rw [d2 (by simpa using c),d2 c,AI f (by omega),bs,AI (by omega) (by omega),bs];by_cases d:(AB a.Edges i).Type'=(AB b.Edges (AB m.Edges i)).Type'
    ·rw [d2 (by simpa using d),d2 (by simpa using d),AI (by omega) (by omega),bs];by_cases g:AB m.Nodes (AB a.Edges i).From=(AB b.Edges (AB m.Edges i)).From
     ·rw [d2 (by simpa using g),AI (by omega) (by omega),bs,bs];by_cases h:AB m.Nodes (AB a.Edges i).To=(AB b.Edges (AB m.Edges i)).To
      ·rw [d2 (by simpa using h),d2 (by simp [g,h])]; rfl
      ·rw [d1 (by simpa using h),d1 (.inr h)]; rfl
     ·rw [d1 (by simpa using g),bs,d1 rfl,d1 (.inl g)]; rfl
    ·rw [d1 (by simpa using d),d1 d]; rfl
 ·intro i f j _;unfold Kf;rw [AI f j];simp only [bs,Ro];by_cases c:AB m.Nodes i<0∨b.Nodes.length<=AB m.Nodes i
  ·rw [d1 (by simpa using c),d1 c]; rfl
  ·rw [d2 (by simpa using c),d2 c,AI (by omega) (by omega),bs,AI f (by omega),bs];by_cases d:AB b.Nodes (AB m.Nodes i)=AB a.Nodes i
   ·rw [d2 (by simpa using d),d2 (by simpa using d)]; rfl
   ·rw [d1 (by simpa using d),d1 d]; rfl
def Ll (l:Ne):Bool:=!anyR (fun i=>anyR (fun j=>decide (AB l i=AB l j)) 0 i) 0 l.length
theorem QS {l:Ne}:Ll l=true↔l.Nodup:=by
 unfold Ll;rw [Bool.not_eq_true',E6];constructor
 ·intro h;refine Xe (fun i j a b c=>?_);have:=h j (by omega) c;rw [E6] at this;have:=this i a b;rw [decide_eq_false_iff_not] at this;exact fun e=>this e.symm
 ·intro h i k d;rw [E6];intro j f g;rw [decide_eq_false_iff_not];exact fun e=>ST h f g d e.symm
theorem ZX (l:Ne):Iy l=some (Ll l):=by
 unfold Iy Ll;rw [CR (fun i=>anyR (fun j=>decide (AB l i=AB l j)) 0 i) false]
 ·cases anyR (fun i=>anyR (fun j=>decide (AB l i=AB l j)) 0 i) 0 l.length <;> rfl
 ·intro i a b _;rw [CR (fun j=>decide (AB l i=AB l j)) false]
  ·cases anyR (fun j=>decide (AB l i=AB l j)) 0 i <;> rfl
  ·intro j c d _;rw [AI a b,bs,AI c (by omega),bs,J5]
theorem Ww {l:Ne} (b:l.length<=1000):∃ k,IU l=some k∧decide (k=(l.length:Int))=Ll l:=by
 have a:(Nn l).length=l.length:=(LV l).length_eq;refine ⟨((Go.Lib.compact (Nn l)).length:Int),?_,?_⟩
 ·unfold IU slices_Clone_int slices_Sort_int slices_Compact_int;rw [FE (by unfold BN; omega),bs,d1 (by unfold BN; omega),bs,d1 (by rw [a]; unfold BN; omega),bs]
 ·rw [Bool.eq_iff_iff,QS,zzX,←(LV l).nodup_iff,←Q7 (M4 l),a];omega
def Nc (m:Morphism):Bool:=Ll m.Nodes&&Ll m.Edges
theorem qN {a b:Graph} {m:Morphism} (h:MQ a b m=0):EU a b m=some (Nc m):=by
 have ho:=eO h;have:=ho.ga.nodes;have:=ho.ga.edges;have:=ho.nlen;have:=ho.elen;obtain ⟨k,c,d⟩:=Ww (l:=m.Nodes) (by omega);obtain ⟨j,e,f⟩:=Ww (l:=m.Edges) (by omega);unfold EU Nc;rw [eP,h,bs,d1 (decide_eq_true rfl),c];simp only [bs,e,d,f];cases Ll m.Nodes <;> rfl
theorem qQ {a b:Graph} {m:Morphism} (h:MQ a b m=0):JX a b m=some (Nc m):=by
 unfold JX Nc;rw [eU,h,bs,d1 (decide_eq_true rfl),ZX];simp only [bs,ZX];cases Ll m.Nodes <;> rfl
def Si (t:AC) (g:Graph) (i:Int):Bool:=QW t (AB g.Edges i).Type' (AB g.Nodes (AB g.Edges i).From) (AB g.Nodes (AB g.Edges i).To)
end Go.Sf.Sc
namespace Go.Sf.Sc
open Go Go.Sf
structure QK (p:Pattern):Prop where
 nodes:p.Graph.Nodes.length<=45
 edges:p.Graph.Edges.length<=90
 slots:p.Slots.length<=15
 tests:p.Tests.length<=15
structure bv (m:Morphism):Prop where
 nodes:m.Nodes.length<=140
 edges:m.Edges.length<=140
inductive EI:AA->Prop where
 | mk (c:AA) (hq:QK c.Pattern) (hm:bv c.Map) (hk:∀ k∈c.Kids,EI k):EI c
theorem EI.q {c:AA} (h:EI c):QK c.Pattern:=by cases h; assumption
theorem EI.m {c:AA} (h:EI c):bv c.Map:=by cases h; assumption
theorem EI.k {c:AA} (h:EI c):∀ k∈c.Kids,EI k:=by cases h; assumption
theorem EP {c k:AA} (h:k∈c.Kids):SizeOf.sizeOf k<SizeOf.sizeOf c:=by
 have:=List.sizeOf_lt_of_mem h;cases c;simp only [AA.mk.sizeOf_spec] at *;omega
theorem D5 (c:AA):0<SizeOf.sizeOf c:=by
 cases c;simp only [AA.mk.sizeOf_spec];omega
def OU (c:AA):Bool:=decide (c.Map.Nodes.length=0∧c.Map.Edges.length=0∧c.Pattern.Graph.Nodes.length=0∧c.Pattern.Graph.Edges.length=0∧c.Pattern.Slots.length=0∧c.Pattern.Tests.length=0∧c.Pattern.Vars=0)
theorem jM {c:AA} (b:EI c):G1 c=some (OU c):=by
 have a:=b.q;have d:=b.m;have:=a.nodes;have:=a.edges;have:=a.slots;have:=a.tests;have:=d.nodes;have:=d.edges;unfold G1 OU;rw [BG (n:=(c.Map.Nodes.length:Int)+c.Map.Edges.length) (by omega) (by omega),BG (n:=(c.Map.Nodes.length:Int)+c.Map.Edges.length+c.Pattern.Graph.Nodes.length) (by omega) (by omega),
  BG (n:=(c.Map.Nodes.length:Int)+c.Map.Edges.length+c.Pattern.Graph.Nodes.length+c.Pattern.Graph.Edges.length) (by omega) (by omega),
  BG (n:=(c.Map.Nodes.length:Int)+c.Map.Edges.length+c.Pattern.Graph.Nodes.length+c.Pattern.Graph.Edges.length+c.Pattern.Slots.length) (by omega) (by omega),
  BG (n:=(c.Map.Nodes.length:Int)+c.Map.Edges.length+c.Pattern.Graph.Nodes.length+c.Pattern.Graph.Edges.length+c.Pattern.Slots.length+c.Pattern.Tests.length) (by omega) (by omega)]
 congr 1;rw [Bool.eq_iff_iff];simp only [zzZ,zzX];omega
theorem c7 {c:AA} (b:EI c):I5 c=some (OU c):=by
 have a:=b.q;have d:=b.m;have:=a.nodes;have:=a.edges;have:=a.slots;have:=a.tests;have:=d.nodes;have:=d.edges;unfold I5 OU;rw [BG (n:=(c.Map.Nodes.length:Int)+c.Map.Edges.length) (by omega) (by omega),BG (n:=(c.Map.Nodes.length:Int)+c.Map.Edges.length+c.Pattern.Graph.Nodes.length) (by omega) (by omega),
  BG (n:=(c.Map.Nodes.length:Int)+c.Map.Edges.length+c.Pattern.Graph.Nodes.length+c.Pattern.Graph.Edges.length) (by omega) (by omega),
  BG (n:=(c.Pattern.Slots.length:Int)+c.Pattern.Tests.length) (by omega) (by omega)]
 congr 1;rw [Bool.eq_iff_iff];simp only [zzZ,zzX];omega
def Qc (c:AA):Bool:=
 if c.Kind=1 then decide (c.Kids.length=0)&&OU c else if c.Kind=2 then decide (c.Kids.length=1)&&OU c else
 if c.Kind=3∨c.Kind=4 then decide (1<=c.Kids.length)&&OU c else if c.Kind=5 then decide (c.Kids.length=1) else false
def QI:Nat->AA->Bool
 | 0,_=>false
 | n+1,c=>Qc c&&c.Kids.all (QI n)
theorem jX:∀ (N:Nat) (c:AA),SizeOf.sizeOf c<=N->EI c->∀ n,2*N<=n->B7 n c=some (QI N c)
 | 0,c,h,_,_,_=>by have:=D5 c; omega
 | N+1,c,h,l,n,s=>by
  obtain ⟨n,rfl⟩:∃ m,n=m+2:=⟨n - 2,by omega⟩;rw [B7,QI,jM l];have d:B6 c.Kids (CD (n+1))=some (!c.Kids.all (QI N)):=by
   rw [Ox (p:=fun k=>!QI N k) (fun k d=>by
    have:=EP d;rw [CD,jX N k (by omega) (l.k k d) n (by omega)]; rfl),List.all_eq_not_any_not,Bool.not_not]
  rw [d];unfold Qc;simp only [bs,zzX];generalize OU c=b;generalize c.Kids.all (QI N)=w;have o:decide ((c.Kids.length:Int)=0)=decide (c.Kids.length=0):=by rw [decide_eq_decide]; omega
  have q:decide ((c.Kids.length:Int)=1)=decide (c.Kids.length=1):=by rw [decide_eq_decide]; omega
  have r:decide (1<=(c.Kids.length:Int))=decide (1<=c.Kids.length):=by rw [decide_eq_decide]; omega
  simp only [show ((c.Kids.length:Int)=0)↔c.Kids.length=0 by omega,show ((c.Kids.length:Int)=1)↔c.Kids.length=1 by omega,show (1<=(c.Kids.length:Int))↔1<=c.Kids.length by omega];by_cases e:c.Kind=1
  ·rw [d1 e,d1 e];by_cases a:c.Kids.length=0 <;> cases b <;> cases w <;> simp [a]
  ·rw [d2 e,d2 e];by_cases f:c.Kind=2
   ·rw [d1 f,d1 f];by_cases a:c.Kids.length=1 <;> cases b <;> cases w <;> simp [a]
   ·rw [d2 f,d2 f];by_cases i:c.Kind=3
    ·simp only [i,if_true,true_or];by_cases a:1<=c.Kids.length <;> cases b <;> cases w <;> simp [a]
    ·by_cases j:c.Kind=4
     ·simp only [j,if_true,or_true,show ¬ (4:Int)=3 by decide,if_false];by_cases a:1<=c.Kids.length <;> cases b <;> cases w <;> simp [a]
     ·simp only [i,j,if_false,or_false];by_cases g:c.Kind=5
      ·rw [d1 g,d1 g];by_cases a:c.Kids.length=1 <;> cases w <;> simp [a]
      ·rw [d2 g,d2 g];cases w <;> rfl
theorem je {c:AA} (i:EI c):MB c=some (Qc c):=by
 unfold MB Qc;rw [c7 i];simp only [bs,zzX];generalize OU c=b;simp only [show ((c.Kids.length:Int)=0)↔c.Kids.length=0 by omega,show ((c.Kids.length:Int)=1)↔c.Kids.length=1 by omega,show (0<(c.Kids.length:Int))↔1<=c.Kids.length by omega];by_cases d:c.Kind=1
 ·rw [d1 d,d1 d];by_cases a:c.Kids.length=0 <;> cases b <;> simp [a]
 ·rw [d2 d,d2 d];by_cases e:c.Kind=2
  ·rw [d1 e,d1 e];by_cases a:c.Kids.length=1 <;> cases b <;> simp [a]
  ·rw [d2 e,d2 e];by_cases g:c.Kind=3
   ·simp only [g,if_true,true_or,decide_true,bs];by_cases a:1<=c.Kids.length <;> cases b <;> simp [a]
   ·by_cases h:c.Kind=4
    ·simp only [h,if_true,or_true,show ¬ (4:Int)=3 by decide,if_false,decide_true,bs];by_cases a:1<=c.Kids.length <;> cases b <;> simp [a]
    ·simp only [g,h,if_false,or_false,decide_false,bs,Bool.false_eq_true];by_cases f:c.Kind=5
     ·rw [d1 f,d1 f]
     ·rw [d2 f,d2 f]
theorem iZ {α:Type} [Inhabited α] {l:List α} {p:α->Bool}:l.all p=!anyR (fun i=>!p (AB l i)) 0 l.length:=by
 rw [List.all_eq_not_any_not,Kd]
theorem eT:∀ (N:Nat) (c:AA),SizeOf.sizeOf c<=N->EI c->∀ n,N<=n->F7 n c=some (QI N c)
 | 0,c,h,_,_,_=>by have:=D5 c; omega
 | N+1,c,h,e,n,f=>by
  obtain ⟨n,rfl⟩:∃ m,n=m+1:=⟨n - 1,by omega⟩;rw [F7,QI,je e,bs,iZ,CR (fun i=>!QI N (AB c.Kids i)) false]
  ·cases Qc c
   ·rfl
   ·cases anyR (fun i=>!QI N (AB c.Kids i)) 0 c.Kids.length <;> rfl
  ·intro i a b _;have d:=AQ (l:=c.Kids) a b;have:=EP d;rw [AI a b,bs,eT N _ (by omega) (e.k _ d) n (by omega),bs,J5]
noncomputable def bm (c:AA):Bool:=QI (SizeOf.sizeOf c) c
theorem qP {c:AA} (a:EI c):HO c=some (bm c):=FJ (2*SizeOf.sizeOf c) fun n b=>jX _ c (d3 _) a n b
theorem qU {c:AA} (a:EI c):Ni c=some (bm c):=FJ (SizeOf.sizeOf c) fun n b=>eT _ c (d3 _) a n b
def KT:Nat->AA->Int × Int
 | 0,_=>(0,0)
 | n+1,c=>
  let s:=c.Kids.foldl (fun s k=>(A4 (s.1+(KT n k).1),max s.2 (KT n k).2)) ((1,0):Int × Int)
  (s.1,if c.Kind=5 then A4 (s.2+1) else s.2)
theorem VQ {α σ:Type} [Inhabited α] {l:List α} {g:σ->α->σ} {s:σ} {f:Int->σ->Option σ} (h:∀ (i:Int) s,0<=i->i<l.length->f i s=some (g s (AB l i))):forA f 0 l.length s=some (l.foldl g s):=by
 rw [DO (fun i=>(l.take i.toNat).foldl g s) (by omega) (by simp)]
 ·rw [Int.toNat_natCast,List.take_length]
 ·intro i a b;rw [h i _ a b,GJ a b,List.foldl_append]; rfl
theorem ai:∀ (N:Nat) (c:AA),SizeOf.sizeOf c<=N->∀ n,N<=n->DF n c=some (KT N c)
 | 0,c,h,_,_=>by have:=D5 c; omega
 | N+1,c,h,n,e=>by
  obtain ⟨n,rfl⟩:∃ m,n=m+1:=⟨n - 1,by omega⟩;rw [DF,KT,VQ (g:=fun s k=>(A4 (s.1+(KT N k).1),max s.2 (KT N k).2))]
  ·simp only [bs,zzX];by_cases a:c.Kind=5
   ·rw [d1 a,d1 a]; rfl
   ·rw [d2 a,d2 a]; rfl
  ·intro i s b d;have:=EP (AQ (l:=c.Kids) b d);rw [AI b d,bs,ai N _ (by omega) n (by omega)]; rfl
theorem bA:∀ (N:Nat) (c:AA),SizeOf.sizeOf c<=N->∀ n,N<=n->G6 n c=some (KT N c)
 | 0,c,h,_,_=>by have:=D5 c; omega
 | N+1,c,h,n,e=>by
  obtain ⟨n,rfl⟩:∃ m,n=m+1:=⟨n - 1,by omega⟩;rw [G6,KT,VQ (g:=fun s k=>(A4 (s.1+(KT N k).1),max s.2 (KT N k).2))]
  ·simp only [bs,zzX];by_cases a:c.Kind=5
   ·rw [d1 a,d1 a]; rfl
   ·rw [d2 a,d2 a]; rfl
  ·intro i s b d;have:=EP (AQ (l:=c.Kids) b d);rw [AI b d,bs,bA N _ (by omega) n (by omega)]; rfl
noncomputable def Qg (c:AA):Int × Int:=KT (SizeOf.sizeOf c) c
noncomputable def LO (c:AA):Int:=if bm c=false then 1 else if 12<(Qg c).1∨3<(Qg c).2 then 3 else 0
theorem gA {c:AA} (a:EI c):F3 c=some (LO c):=by
 unfold F3 LO;rw [qP a,bs,show If c=some (Qg c) from FJ (SizeOf.sizeOf c) fun n b=>ai _ c (d3 _) n b,bs];exact YA fun _=>P2 (by simp) fun _=>rfl
theorem gO {c:AA} (a:EI c):L8 c=some (LO c):=by
 unfold L8 LO;rw [qU a,bs,show OO c=some (Qg c) from FJ (SizeOf.sizeOf c) fun n b=>bA _ c (d3 _) n b,bs];exact YA fun _=>P2 (by simp) fun _=>rfl
theorem Tz (g:Graph):DJ g≠9:=by
 unfold DJ;split
 ·decide
 ·split
  ·decide
  ·split <;> decide
theorem Qr {t:AC} {p:Pattern} (a:(BF t).2=0) (h:J7 t p=0∨J7 t p=9):0<=p.Vars∧p.Vars<=12:=by
 have b:=Tz p.Graph;unfold J7 at h;rw [d2 (by simp [a])] at h;split at h
 ·omega
 ·split at h
  ·omega
  ·split at h
   ·omega
   ·omega
def MO (t:AC) (q:Pattern) (v:Int):Int:=if J7 t q≠9 then J7 t q else if anyR (fun i=>!LE q i) v q.Vars=true then 9 else 0
theorem rY {α:Type} {P:Prop} [Decidable P] {v:α} {X:Option α} {Y:α} (h:P->X=some Y):(if (!decide P)=true then some v else X)=some (if ¬ P then v else Y):=by
 by_cases a:P
 ·simp [a,h a]
 ·simp [a]
theorem qO {t:AC} (e:BX t) (f:(BF t).2=0) {q:Pattern} {v:Int} (k:0<=v) (g:v<=q.Vars):E2 t q v=some (MO t q v):=by
 unfold E2 MO;rw [V0 e,bs];refine rY fun d=>?_;have hv:=Qr f (.inr d);rw [QJ (c:=fun i=>(if (!LE q i)=true then some () else none).map fun _=>.inr 9) (a:=v) (b:=q.Vars) g]
 ·rw [Oe,PV];cases anyR (fun i=>!LE q i) v q.Vars <;> rfl
 ·intro i l j _;rw [d1 (by simpa using j),show (fun h=>JB h i)=(fun y=>some (decide (y.Term.Var=i))) from rfl,fP,bs,show (q.Slots.any fun y=>decide (y.Term.Var=i))=LE q i from rfl,d,BG (by omega) (by omega)];cases LE q i <;> rfl
 ·rw [d2 (by simp)]
theorem gN (p:Pattern) (v:Int):NE p v=some (LE p v):=eW p v
theorem qR {t:AC} (a:BX t) (q:Pattern) (v:Int):MA t v q=some (if q.Vars<v then 20 else MO t q v):=by
 unfold MA MO;refine P2 (by simp) fun _=>?_;rw [ZY a,bs];refine rY fun b=>?_;rw [b,CR (fun i=>!LE q i) 9]
 ·cases anyR (fun i=>!LE q i) v q.Vars <;> rfl
 ·intro i c d _;rw [gN,bs,J5]
def HD:Nat->AC->Pattern->AA->Int
 | 0,_,_,_=>0
 | N+1,t,p,c=>
  if c.Kind=5 then
   if c.Pattern.Vars<p.Vars then 20 else if MO t c.Pattern p.Vars≠0 then MO t c.Pattern p.Vars else
   if MQ p.Graph c.Pattern.Graph c.Map≠0 then MQ p.Graph c.Pattern.Graph c.Map else if Nc c.Map=false then 1 else
   (fst (fun i=>nz (HD N t c.Pattern (AB c.Kids i))) 0 c.Kids.length).getD 0
  else (fst (fun i=>nz (HD N t p (AB c.Kids i))) 0 c.Kids.length).getD 0
theorem cW {t:AC} (a:(BF t).2=0) {q:Pattern} {v:Int} (h:MO t q v=0):0<=q.Vars:=by
 unfold MO at h;split at h
 ·exact (Qr a (.inl h)).1
 ·rename_i b;exact (Qr a (.inr (Classical.not_not.1 b))).1
theorem ak {t:AC} (g:BX t) (e:(BF t).2=0):∀ (N:Nat) (c:AA) (p:Pattern),0<=p.Vars->SizeOf.sizeOf c<=N->∀ n,N<=n->C0 n t p c=some (HD N t p c)
 | 0,c,p,_,h,_,_=>by have:=D5 c; omega
 | N+1,c,p,o,h,n,w=>by
  obtain ⟨n,rfl⟩:∃ m,n=m+1:=⟨n - 1,by omega⟩;rw [C0,HD];have a:∀ q:Pattern,0<=q.Vars->(thenR (forR (ρ:=Int) (fun (r:Int) (_:Unit)=>
    (AM c.Kids r).bind fun f=>
    (C0 n t q f).bind fun b=>
    if (!decide (b=0))=true then
    some (.ret b)
    else
    some (.next ())) 0 (c.Kids.length:Int) ()) (fun _=>
    some 0) (fun s=>some s))=some ((fst (fun i=>nz (HD N t q (AB c.Kids i))) 0 c.Kids.length).getD 0):=by
   intro q v;rw [C7 (fun i=>nz (HD N t q (AB c.Kids i))),Hq];intro i j k _;have:=EP (AQ (l:=c.Kids) j k);rw [AI j k,bs,ak g e N _ q v (by omega) n (by omega),bs,P9]
  by_cases d:c.Kind=5
  ·rw [d1 (by simpa using d),d1 d];refine P2 (by simp) fun hv=>?_;rw [qO g e o (by omega),bs];refine Ie fun hi=>?_;rw [eP,bs];refine Ie fun u=>?_;rw [qN u,bs];exact YA fun _=>a _ (cW e hi)
  ·rw [d2 (by simpa using d),d2 d];exact a p o
theorem bB {t:AC} (f:BX t):∀ (N:Nat) (c:AA) (p:Pattern),SizeOf.sizeOf c<=N->∀ n,N<=n->HH n t p c=some (HD N t p c)
 | 0,c,p,h,_,_=>by have:=D5 c; omega
 | N+1,c,p,h,n,s=>by
  obtain ⟨n,rfl⟩:∃ m,n=m+1:=⟨n - 1,by omega⟩;rw [HH,HD];have a:∀ q:Pattern,(thenR (forR (ρ:=Int) (fun (k:Int) (_:Unit)=>
    (AM c.Kids k).bind fun e=>
    (HH n t q e).bind fun b=>
    if (!decide (b=0))=true then
    some (.ret b)
    else
    some (.next ())) 0 (c.Kids.length:Int) ()) (fun _=>
    some 0) (fun o=>some o))=some ((fst (fun i=>nz (HD N t q (AB c.Kids i))) 0 c.Kids.length).getD 0):=by
   intro q;rw [C7 (fun i=>nz (HD N t q (AB c.Kids i))),Hq];intro i g j _;have:=EP (AQ (l:=c.Kids) g j);rw [AI g j,bs,bB f N _ q (by omega) n (by omega),bs,P9]
  by_cases d:c.Kind=5
  ·rw [d1 (by simpa using d),d1 d,qR f,bs];by_cases hv:c.Pattern.Vars<p.Vars
   ·simp [hv]
   ·simp only [d2 hv];refine Ie fun hi=>?_;rw [eU,bs];refine Ie fun r=>?_;rw [qQ r,bs];exact YA fun _=>a _
  ·rw [d2 (by simpa using d),d2 d];exact a p
noncomputable def Ih (t:AC) (p:Pattern) (c:AA):Int:=if J7 t p≠0 then J7 t p else if LO c≠0 then LO c else HD (SizeOf.sizeOf c) t p c
theorem jN {t:AC} (a:BX t) (b:(BF t).2=0) (p:Pattern) {c:AA} (d:EI c):ES t p c=some (Ih t p c):=by
 unfold ES Ih;rw [V0 a,bs];refine Ie fun h=>?_;rw [gA d,bs,Option.bind_fun_some];exact Ie fun _=>FJ (SizeOf.sizeOf c) fun n e=>ak a b _ c p (Qr b (.inl h)).1 (d3 _) n e
theorem W6 {t:AC} (a:BX t) (p:Pattern) {c:AA} (b:EI c):Ku t p c=some (Ih t p c):=by
 unfold Ku Ih;rw [ZY a,bs];refine Ie fun h=>?_;rw [gO b,bs,Option.bind_fun_some];exact Ie fun _=>FJ (SizeOf.sizeOf c) fun n d=>bB a _ c p (d3 _) n d
end Go.Sf.Sc
namespace Go.Sf.Sc
open Go Go.Sf
def leafB (t:AC) (l:Ne):Bool:=!(l.any fun k=>t.Nodes.any fun n=>decide (n.Parent=k))
end Go.Sf.Sc
namespace Go.Sf
theorem SE {ρ:Type} {f:Int->Option (CY Int ρ)} (p:Int->Bool) (v:ρ) {a b:Int} (d:a<=b) (h:∀ i,a<=i->i<b->f i=some (if p i=true then .ret v else .next (i+1))) (e:f b=some (.brk b)):It f a=some (if anyR p a b=true then .inr v else .inl b):=by
 rw [QJ (c:=fun i=>(if p i=true then some () else none).map fun _=>.inr v) d]
 ·rw [Oe,PV];cases anyR p a b <;> rfl
 ·intro i g j _;rw [h i g j];cases p i <;> rfl
 ·exact e
theorem Og {α:Type} {e:α->TV} {n:Nat} {l:List α} (h:TV.Sm (.list n (l.map e))):(l.length:Int)<=140737488351232∧∀ x∈l,(e x).Sm:=by
 simp only [TV.Sm,d7] at h;refine ⟨by have:=h.1; unfold reachBytes at this; omega,fun x a=>QD.1 h.2 _ (List.mem_map.2 ⟨x,a,rfl⟩)⟩
end Go.Sf
namespace Go.Sf.Sc
open Go Go.Sf
def WD (a:Attr):Bool:=(decide (40<(a.Name.size:Int))||decide (25<(a.Names.length:Int)))||anyR (fun i=>decide (40<((AB a.Names i).size:Int))) 0 a.Names.length
theorem cG {a:Attr} (h:WD a=false):RD a:=by
 unfold WD at h;simp only [Bool.or_eq_false_iff,decide_eq_false_iff_not,E6] at h;refine ⟨by omega,by omega,fun x b=>?_⟩;obtain ⟨i,c,d,rfl⟩:=EH b;have:=h.2 i c d;omega
theorem U9 {t:AC} (P:(AV t).Sm):∃ b,Md t=some b∧(b=true->BX t):=by
 have F:TV.Sms [_,_]:=P;obtain ⟨o,J⟩:=Og (e:=F5) F.1;unfold Md;by_cases hl:20<t.Nodes.length∨30<t.Edges.length
 ·rw [d1 (by simp; omega)];exact ⟨false,rfl,fun h=>by cases h⟩
 rw [d2 (by simp; omega)];rcases WY (f:=(fun (v:Int) (M:Int)=>
 (AM t.Nodes v).bind fun q=>
 (if (decide (30<(A4 (M+(q.Attrs.length:Int)))))=true then some true else ((AM t.Nodes v).bind fun A=>
 some (decide (40<(A.Name.size:Int))))).bind fun B=>
 if B=true then
 some (CY.ret false)
 else
 thenR (It (ρ:=Bool) (fun (s2:Int)=>
 (AM t.Nodes v).bind fun C=>
 if (decide (s2<(C.Attrs.length:Int)))=true then
 (AM t.Nodes v).bind fun D=>
 (AM D.Attrs s2).bind fun m=>
 if ((decide (40<(m.Name.size:Int)))||(decide (25<(m.Names.length:Int))))=true then
 some (.ret false)
 else
 thenR (It (ρ:=Bool) (fun (p:Int)=>
 if (decide (p<(m.Names.length:Int)))=true then
 (AM m.Names p).bind fun E=>
 if (decide (40<(E.size:Int)))=true then
 some (.ret false)
 else
 some (.next (A4 (p+1)))
 else
 some (.brk p)) 0) (fun p=>
 some (.next (A4 (s2+1)))) (fun Q=>some (.ret Q))
 else
 some (.brk s2)) 0) (fun s2=>
 some (.next (A4 (M+(q.Attrs.length:Int))))) (fun R=>some (.ret R))))
  (fun i s=>0<=s∧s<=30∧∀ j,0<=j->j<i->((AB t.Nodes j).Name.size:Int)<=40∧(AB t.Nodes j).Attrs.length<=30∧∀ a∈(AB t.Nodes j).Attrs,RD a) (fun _=>False) (fun r=>r=false) (a:=0) (b:=t.Nodes.length) (s:=0) (by omega) ⟨by omega,by omega,fun j u g=>by omega⟩ (fun i s w x S=>by
   have U:=J _ (AQ (l:=t.Nodes) w x);have G:TV.Sms [_,_,_,_]:=U;obtain ⟨N,K⟩:=Og (e:=Ii) G.2.2.2.1;obtain ⟨Y,Z,L⟩:=S;have V:A4 (s+(AB t.Nodes i).Attrs.length)=s+(AB t.Nodes i).Attrs.length:=BG (by omega) (by omega);simp only [AI w x,bs,V,Ro];by_cases O:30<s+(AB t.Nodes i).Attrs.length∨40<((AB t.Nodes i).Name.size:Int)
   ·rw [d1 (by simpa using O)];exact .inr (.inr ⟨_,rfl,rfl⟩)
   rw [d2 (by simpa using O)];rw [SE (fun j=>WD (AB (AB t.Nodes i).Attrs j)) false (b:=(AB t.Nodes i).Attrs.length) (by omega)]
   ·cases H:anyR (fun j=>WD (AB (AB t.Nodes i).Attrs j)) 0 (AB t.Nodes i).Attrs.length
    ·refine .inl ⟨_,rfl,by omega,by omega,fun j y z=>?_⟩;by_cases W:j=i
     ·subst W;refine ⟨by omega,by omega,fun a N=>?_⟩;obtain ⟨k,d,c,rfl⟩:=EH N;exact cG (E6.1 H k d c)
     ·exact L j y (by omega)
    ·exact .inr (.inr ⟨_,rfl,rfl⟩)
   ·intro j y z;rw [d1 (by simpa using z),AI y z,bs];have X:=K _ (AQ (l:=(AB t.Nodes i).Attrs) y z);have I:TV.Sms [_,_,_,_]:=X;obtain ⟨hm,_⟩:=Og (e:=eS) I.2.2.2.1;unfold WD;cases u:(decide (40<((AB (AB t.Nodes i).Attrs j).Name.size:Int))||decide (25<((AB (AB t.Nodes i).Attrs j).Names.length:Int)))
    ·rw [d2 (by decide),SE (fun k=>decide (40<((AB (AB (AB t.Nodes i).Attrs j).Names k).size:Int))) false (b:=(AB (AB t.Nodes i).Attrs j).Names.length) (by omega)]
     ·cases anyR (fun k=>decide (40<((AB (AB (AB t.Nodes i).Attrs j).Names k).size:Int))) 0 (AB (AB t.Nodes i).Attrs j).Names.length
      ·rw [Bool.or_false,BG (show -9223372036854775808<=j+1 by omega) (by omega)]; rfl
      ·rfl
     ·intro k d c;rw [d1 (by simpa using c),AI d c,bs,BG (show -9223372036854775808<=k+1 by omega) (by omega),J5]
     ·rw [d2 (by simp)]
    ·rfl
   ·rw [d2 (by simp)]) with ⟨s',u,g⟩ | ⟨r,u,g⟩
 ·rw [u];rcases g with g | g
  ·rw [DT,CR (fun i=>decide (40<((AB t.Edges i).Name.size:Int))) false]
   ·cases H:anyR (fun i=>decide (40<((AB t.Edges i).Name.size:Int))) 0 t.Edges.length
    ·refine ⟨true,rfl,fun _=>⟨by omega,by omega,fun n o=>?_,fun n o=>?_,fun n o=>?_,fun e T=>?_⟩⟩
     ·obtain ⟨k,d,c,rfl⟩:=EH o;exact (g.2.2 k d c).1
     ·obtain ⟨k,d,c,rfl⟩:=EH o;exact (g.2.2 k d c).2.1
     ·obtain ⟨k,d,c,rfl⟩:=EH o;exact (g.2.2 k d c).2.2
     ·obtain ⟨k,d,c,rfl⟩:=EH T;have:=E6.1 H k d c;simpa using this
    ·exact ⟨false,rfl,fun h=>by cases h⟩
   ·intro i w x _;rw [AI w x,bs,J5]
  ·exact g.elim
 ·rw [u];subst g;exact ⟨false,rfl,fun h=>by cases h⟩
theorem Uf (p:Pattern):∃ b,Mf p=some b∧(b=true->QK p):=by
 refine ⟨_,rfl,fun h=>?_⟩;simp only [zzZ,zzX] at h;exact ⟨by omega,by omega,by omega,by omega⟩
theorem fX {a b:Int} (e:0<=a) (c:a<=140737488351232) (f:0<=b) (d:b<=140737488351232):A4 (a+b)=a+b:=BG (by omega) (by omega)
theorem fW {m:Morphism} (c:(CA m).Sm):∃ b,Pk m 140=some b∧(b=true->bv m):=by
 have a:TV.Sms [_,_]:=c;have d:=(Og (e:=eI) a.1).1;have f:=(Og (e:=eI) a.2.1).1;refine ⟨_,rfl,fun h=>?_⟩;rw [fX (by omega) d (by omega) f] at h;simp only [zzX] at h;exact ⟨by omega,by omega⟩
theorem fR {c:AA} (h:(AE c).Sm):(CA c.Map).Sm∧(c.Kids.length:Int)<=140737488351232∧∀ k∈c.Kids,(AE k).Sm:=by
 have b:TV.Sms [_,_,_,_,_,_,_,_,_]:=h;obtain ⟨_,a,d,e,_⟩:=b;rw [Kz] at a;obtain ⟨f,g⟩:=Og a;exact ⟨⟨d,e,trivial⟩,f,g⟩
end Go.Sf.Sc
