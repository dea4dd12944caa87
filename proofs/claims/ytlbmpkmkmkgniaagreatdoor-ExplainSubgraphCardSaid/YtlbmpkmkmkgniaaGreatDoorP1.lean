/- Plain lemmas: what the functions of the program and of the reference compute. -/
import Derived.Test.YtlbmpkmkmkgniaaGreatDoorSfRead
import Derived.Test.YtlbmpkmkmkgniaaGreatDoorFns
import Derived.Test.YtlbmpkmkmkgniaaGreatDoorSfPl
set_option linter.all false
set_option maxRecDepth 100000
namespace Go.Sf
theorem Tq {ρ τ:Type} {d:Int->Option ρ} {g:ρ->τ}:∀ (n:Nat) (a:Int),ES (fun i=>(d i).map g) n a=(ES d n a).map g
 | 0,_=>rfl
 | n+1,a=>by
  rw [ES,ES];cases d a with
  | some r=>rfl
  | none=>exact Tq n (a+1)
theorem Ow {ρ τ:Type} {d:Int->Option ρ} {g:ρ->τ} {a b:Int}:fst (fun i=>(d i).map g) a b=(fst d a b).map g:=Tq _ _
theorem SQ {ρ:Type} {d:Int->Option ρ} {r:ρ}:∀ {n:Nat} {a:Int},ES d n a=some r->∃ i,a<=i∧i<a+n∧d i=some r∧∀ j,a<=j->j<i->d j=none
 | 0,_,h=>by cases h
 | n+1,a,h=>by
  rw [ES] at h;cases b:d a with
  | some o=>
   rw [b] at h;exact ⟨a,Int.le_refl _,by omega,by rw [b]; exact h,fun j c e=>by omega⟩
  | none=>
   rw [b] at h;obtain ⟨i,c,e,k,l⟩:=SQ h;refine ⟨i,by omega,by omega,k,fun j m f=>?_⟩;by_cases g:j=a
   ·subst g; exact b
   ·exact l j (by omega) f
theorem DJ {ρ:Type} {d:Int->Option ρ} {r:ρ} {a b:Int} (h:fst d a b=some r):∃ i,a<=i∧i<b∧d i=some r∧∀ j,a<=j->j<i->d j=none:=by
 obtain ⟨i,c,g,e,f⟩:=SQ h;exact ⟨i,c,by omega,e,f⟩
def K5 (p:Int->Bool) (s:ByteArray):Int:=(fst (fun i=>if p (bt s i) then none else some i) 0 s.size).getD s.size
theorem Q3 (p:Int->Bool) (s:ByteArray):0<=K5 p s∧K5 p s<=s.size∧(∀ j,0<=j->j<K5 p s->p (bt s j)=true)∧(K5 p s<s.size->p (bt s (K5 p s))=false):=by
 unfold K5;cases h:fst (fun i=>if p (bt s i) then none else some i) 0 s.size with
 | none=>
  rw [CZ] at h;simp only [Option.getD];refine ⟨by omega,by omega,fun j b c=>?_,fun b=>by omega⟩;have:=h j b c;cases a:p (bt s j)
  ·simp [a] at this
  ·rfl
 | some r=>
  obtain ⟨i,b,c,d,g⟩:=DJ h;have hi:p (bt s i)=false∧i=r:=by
   cases a:p (bt s i) <;> simp [a] at d;exact ⟨rfl,d⟩
  obtain ⟨hi,rfl⟩:=hi;simp only [Option.getD];refine ⟨b,by omega,fun j e f=>?_,fun _=>hi⟩;have:=g j e f;cases a:p (bt s j)
  ·simp [a] at this
  ·rfl
theorem Vs {s:ByteArray} (h:s≠⟨#[]⟩):0<s.size:=by
 rcases Nat.eq_zero_or_pos s.size with a | a
 ·exfalso; apply h;cases s with | mk d=>congr 1; exact Array.eq_empty_of_size_eq_zero a
 ·exact a
end Go.Sf
namespace Go.Sf.Sc
open Go Go.Sf
def G8 (c:Int):Bool:=((decide (97<=c))&&(decide (c<=122)))||((decide (65<=c))&&(decide (c<=90)))
def digitB (c:Int):Bool:=(decide (48<=c))&&(decide (c<=57))
def OX (c:Int):Bool:=G8 c||digitB c||decide (c=95)
theorem VY (c:Int):Kq c=some (G8 c):=rfl
theorem TL (c:Int):KH c=some (digitB c):=rfl
theorem Vd (c:Int):Ki c=some (G8 c):=rfl
theorem W7 (c:Int):JE c=some (digitB c):=rfl
theorem gk (c:Int):MS c=some (OX c):=by
 unfold MS OX;rw [VY,bs,TL];cases G8 c <;> cases digitB c <;> rfl
theorem Xw {s:ByteArray} (f:(s.size:Int)<=4611686018427387904) {ok:Int->ca} {p:Int->Bool} (h:∀ c,ok c=some (p c)):II s ok=some (K5 p s):=by
 unfold II;rw [O7 (c:=fun i=>(if p (bt s i) then none else some i).map .inl) (a:=0) (b:=s.size) (by omega)]
 ·rw [Ow];unfold K5;cases fst (fun i=>if p (bt s i)=true then none else some i) 0 s.size <;> rfl
 ·intro i e d _;simp only [d,decide_true,if_true,Nk e d,bs,h];cases p (bt s i)
  ·simp [cnt]
  ·simp [cnt,BD (show -9223372036854775808<=i+1 by omega) (by omega)]
 ·simp
def G1 (s:ByteArray):Bool:=decide (0<s.size)&&G8 (bt s 0)&&decide (s.size<=20)&&decide (K5 OX s=s.size)
theorem TK (l:List ByteArray) (v:ByteArray):∃ k,slices_Index_string l v=some k∧(0<=k↔v∈l):=by
 unfold slices_Index_string;rw [DI (fun i=>if (v==AB l i)=true then some i else none)]
 ·cases h:fst (fun i=>if (v==AB l i)=true then some i else none) 0 l.length with
  | none=>
   rw [CZ] at h;refine ⟨-1,rfl,by omega,fun e=>?_⟩;obtain ⟨i,a,c,b⟩:=EB e;have:=h i a c;rw [b,d1 (beq_self_eq_true v)] at this;cases this
  | some k=>
   obtain ⟨i,a,c,b,_⟩:=DJ h;have d:(v==AB l i)=true∧i=k:=by
    by_cases hv:(v==AB l i)=true
    ·rw [d1 hv] at b; exact ⟨hv,by simpa using b⟩
    ·rw [d2 hv] at b; cases b
   obtain ⟨d,rfl⟩:=d;refine ⟨i,rfl,fun _=>?_,fun _=>a⟩;rw [eq_of_beq d]; exact AW a c
 ·intro i a c _;simp only [AL a c,bs];split <;> rfl
theorem NU (l:List ByteArray) (v:ByteArray):slices_Contains_string l v=some (l.contains v):=by
 unfold slices_Contains_string;obtain ⟨k,a,b⟩:=TK l v;rw [a,bs];congr 1;rw [Bool.eq_iff_iff,zzX,b,List.contains_iff_mem]
theorem gi {s:ByteArray} (t:0<s.size) (m:(s.size:Int)<=4611686018427387904):∃ k n e,I6 s=some (k,n,e)∧(((decide (e=0))&&(decide (k=1)))&&(decide (n=(s.size:Int))))=G1 s:=by
 have z:=Q3 OX s;unfold I6 G1;simp only [Nk (Int.le_refl 0) (show (0:Int)<s.size by omega),bs,VY,TL,Xw m gk,Xw m TL,t,decide_true,Bool.true_and];by_cases d:G8 (bt s 0)=true
 ·rw [d1 d];by_cases f:20<K5 OX s
  ·refine ⟨0,0,3,by simp [f],?_⟩;simp [d];intro y g;omega
  ·refine ⟨1,_,0,by rw [d2 (by simpa using f)],?_⟩;simp only [d,decide_true,Bool.true_and];rw [Bool.eq_iff_iff];simp only [zzX,zzZ];omega
 ·rw [d2 d];have h:G8 (bt s 0)=false:=by simpa using d
  rw [h,Bool.false_and,Bool.false_and];by_cases o:digitB (bt s 0)=true
  ·rw [d1 o];by_cases p:9<K5 digitB s
   ·exact ⟨0,0,3,by simp [p],by simp⟩
   ·exact ⟨2,_,0,by rw [d2 (by simpa using p)],by simp⟩
  ·rw [d2 o];by_cases q:bt s 0=34
   ·have u:=UV (s:=s) (a:=1) (b:=s.size) (by omega) (by omega) (by omega);have i:∀ c,Kz c=some (((decide (32<=c))&&(decide (c<=126)))&&(!decide (c=34))):=fun _=>rfl;have v:=Q3 (fun c=>((decide (32<=c))&&(decide (c<=126)))&&(!decide (c=34))) (s.extract (1:Int).toNat (s.size:Int).toNat);have j:∃ n e,Hv s=some (n,e):=by
     unfold Hv;rw [Lz (by omega) (by omega) (by omega),bs,Xw (by omega) i,bs];rw [BD (by omega) (by omega)];by_cases r:1+K5 (fun c=>((decide (32<=c))&&(decide (c<=126)))&&(!decide (c=34))) (s.extract (1:Int).toNat (s.size:Int).toNat)=s.size
     ·refine ⟨0,2,?_⟩;simp only [r,decide_true,if_true,bs]
     ·simp only [r,decide_false,Bool.false_eq_true,if_false];rw [Nk (by omega) (by omega)];simp only [bs];split
      ·exact ⟨_,_,rfl⟩
      ·split
       ·exact ⟨_,_,rfl⟩
       ·exact ⟨_,_,rfl⟩
    obtain ⟨n,e,l⟩:=j;refine ⟨3,n,e,by rw [d1 (by simpa using q),l]; rfl,by simp⟩
   ·rw [d2 (by simpa using q)];have w:∃ b,MR s=some b:=by
     unfold MR;by_cases g:2<=(s.size:Int)
     ·rw [d1 (by simpa using g),Lz (by omega) (by omega) g];simp only [bs,NU];exact ⟨_,rfl⟩
     ·rw [d2 (by simpa using g)];exact ⟨_,rfl⟩
    obtain ⟨b,x⟩:=w;rw [x,bs];cases b
    ·simp only [Bool.false_eq_true,if_false,strings_IndexByte,bs];split
     ·exact ⟨_,_,_,rfl,rfl⟩
     ·exact ⟨_,_,_,rfl,rfl⟩
    ·exact ⟨_,_,_,rfl,rfl⟩
theorem Pk {s:ByteArray} (b:(s.size:Int)<=4611686018427387904):E6 s=some (G1 s):=by
 unfold E6 JH;simp only [show decide ((1:Int)=3)=false from rfl,Bool.false_eq_true,if_false,bs];by_cases a:s=⟨#[]⟩
 ·subst a; rfl
 ·rw [d2 (by simpa using a)];obtain ⟨k,n,e,c,d⟩:=gi (Vs a) b;rw [c];simp only [bs];rw [d]
theorem g5 {s:ByteArray} (k:(s.size:Int)<=4611686018427387904) (d:Bool):∃ n,M7 s 0 d=some n∧0<=n∧n<=s.size∧(d=false->n=K5 OX s):=by
 have g:=Q3 (fun c=>digitB c||(!d&&(G8 c||decide (c=95)))) s;refine ⟨K5 (fun c=>digitB c||(!d&&(G8 c||decide (c=95)))) s,?_,g.1,g.2.1,fun h=>?_⟩
 ·unfold M7;rw [O7 (c:=fun i=>(if (digitB (bt s i)||(!d&&(G8 (bt s i)||decide (bt s i=95)))) then none else some i).map .inl) (a:=0) (b:=s.size) (by omega)]
  ·rw [Ow];unfold K5;cases fst (fun i=>if (digitB (bt s i)||(!d&&(G8 (bt s i)||decide (bt s i=95))))=true then none else some i) 0 s.size <;> rfl
  ·intro i j f _;have e:A6 (0+i)=i:=by rw [BD (by omega) (by omega)]; omega
   simp only [e,f,decide_true,if_true,Nk j f,bs,W7,Vd];cases digitB (bt s i) <;> cases d <;> cases G8 (bt s i) <;> cases (decide (bt s i=95)) <;> simp [cnt,BD (show -9223372036854775808<=i+1 by omega) (by omega)]
  ·have e:A6 (0+(s.size:Int))=s.size:=by rw [BD (by omega) (by omega)]; omega
   simp only [e,Int.lt_irrefl,decide_false,Bool.false_eq_true,if_false,bs]
 ·subst h;congr 1;funext c;unfold OX;cases G8 c <;> cases digitB c <;> cases decide (c=95) <;> rfl
theorem ay {s:ByteArray} (j:0<s.size) (k:(s.size:Int)<=4611686018427387904):∃ n,Kj s 0=some n∧(n=0∨(2<=n∧n<=s.size)):=by
 unfold Kj;rw [O7 (c:=fun i=>if decide (bt s i=34)=true then some (Sum.inr (i+1):Int ⊕ Int) else if (decide (bt s i<32)||decide (126<bt s i))=true then some (Sum.inr 0) else none) (a:=1) (b:=s.size) (by omega)]
 ·cases h:fst (fun i=>if decide (bt s i=34)=true then some (Sum.inr (i+1):Int ⊕ Int) else if (decide (bt s i<32)||decide (126<bt s i))=true then some (Sum.inr 0) else none) 1 s.size with
  | none=>exact ⟨0,rfl,.inl rfl⟩
  | some r=>
   obtain ⟨i,g,e,d,_⟩:=DJ h;split at d
   ·cases d; exact ⟨_,rfl,.inr (by omega)⟩
   ·split at d
    ·cases d; exact ⟨_,rfl,.inl rfl⟩
    ·cases d
 ·intro i g e _;have f:A6 (0+i)=i:=by rw [BD (by omega) (by omega)]; omega
  simp only [f,e,decide_true,if_true,Nk (show 0<=i by omega) e,bs,BD (show -9223372036854775808<=i+1 by omega) (by omega)];split
  ·rfl
  ·split <;> rfl
 ·have f:A6 (0+(s.size:Int))=s.size:=by rw [BD (by omega) (by omega)]; omega
  simp only [f,Int.lt_irrefl,decide_false,Bool.false_eq_true,if_false]
theorem oJ {s:ByteArray} (I:0<s.size) (J:(s.size:Int)<=4611686018427387904):∃ t n e,M6 s 0=some (t,n,e)∧(((decide (e=0))&&(decide (n=(s.size:Int))))&&(decide (t.Kind=1)))=G1 s:=by
 obtain ⟨m,G,l,o,H⟩:=g5 J (digitB (bt s 0));unfold M6 G1;simp only [Nk (Int.le_refl 0) (show (0:Int)<s.size by omega),bs,Vd,W7,I,decide_true,Bool.true_and,G];have K:A6 (0+m)=m:=by rw [BD (by omega) (by omega)]; omega
 by_cases u:G8 (bt s 0)=true
 ·have j:digitB (bt s 0)=false:=by
   unfold G8 at u; unfold digitB;simp only [Bool.or_eq_true,zzZ,zzX] at u;rw [Bool.and_eq_false_iff];simp only [decide_eq_false_iff_not];omega
  have P:=H j;subst P;simp only [u,if_true,j,Bool.false_eq_true,if_false,bs,K];by_cases k:20<K5 OX s
  ·refine ⟨_,_,_,by rw [d1 (by simpa using k)],?_⟩;rw [Bool.eq_iff_iff];simp only [zzX,zzZ];omega
  ·rw [d2 (by simpa using k),Lz (Int.le_refl _) l o];refine ⟨_,_,_,rfl,?_⟩;rw [Bool.eq_iff_iff];simp only [zzX,zzZ,true_and,and_true];omega
 ·have B:G8 (bt s 0)=false:=by simpa using u
  simp only [B,Bool.false_eq_true,if_false,bs,Bool.false_and,K];by_cases j:digitB (bt s 0)=true
  ·simp only [j,if_true,bs];by_cases M:9<m
   ·exact ⟨_,_,_,by rw [d1 (by simpa using M)],by simp⟩
   ·rw [d2 (by simpa using M),Lz (Int.le_refl _) l o];exact ⟨_,_,_,rfl,by simp⟩
  ·have C:digitB (bt s 0)=false:=by simpa using j
   simp only [C,Bool.false_eq_true,if_false,bs];by_cases N:bt s 0=34
   ·obtain ⟨n,T,p⟩:=ay I J;rw [d1 (by simpa using N),T,bs];rcases p with rfl | p
    ·exact ⟨_,_,_,rfl,by simp⟩
    ·rw [d2 (by simp; omega)];split
     ·exact ⟨_,_,_,rfl,by simp⟩
     ·have Q:A6 (0+1)=1:=by decide
      have R:A6 (0+n)=n:=by rw [BD (by omega) (by omega)]; omega
      rw [Q,R,BD (show -9223372036854775808<=n - 1 by omega) (by omega),Lz (by omega) (by omega) (by omega)];exact ⟨_,_,_,rfl,by simp⟩
   ·rw [d2 (by simpa using N)];unfold My;rw [bs];generalize S:([(⟨#[45,62]⟩:ByteArray),(⟨#[60,61]⟩:ByteArray),(⟨#[62,61]⟩:ByteArray),(⟨#[61,61]⟩:ByteArray),(⟨#[33,61]⟩:ByteArray),(⟨#[123]⟩:ByteArray),(⟨#[125]⟩:ByteArray),(⟨#[40]⟩:ByteArray),(⟨#[41]⟩:ByteArray),(⟨#[91]⟩:ByteArray),(⟨#[93]⟩:ByteArray),(⟨#[44]⟩:ByteArray),(⟨#[59]⟩:ByteArray),(⟨#[58]⟩:ByteArray),(⟨#[61]⟩:ByteArray),(⟨#[43]⟩:ByteArray),(⟨#[45]⟩:ByteArray),(⟨#[42]⟩:ByteArray),(⟨#[60]⟩:ByteArray),(⟨#[62]⟩:ByteArray),(⟨#[33]⟩:ByteArray),(⟨#[38]⟩:ByteArray),(⟨#[124]⟩:ByteArray),(⟨#[46]⟩:ByteArray),(⟨#[63]⟩:ByteArray)]:List ByteArray)=L;have D:∀ x∈L,x.size<=2:=by subst S; decide
    rcases U7 (f:=(fun (d:Int) (O:F3)=>
      (AK L d).bind fun v=>
      (if (decide ((A6 (0+(v.size:Int)))<=(s.size:Int)))=true then ((AK L d).bind fun w=>
      (sslc s 0 (A6 (0+(w.size:Int)))).bind fun y=>
      (AK L d).bind fun z=>
      some (y==z)) else some false).bind fun A=>
      if A=true then
      (AK L d).bind fun g=>
      (AK L d).bind fun h=>
      some (C7.ret (F3.mk 4 g 0,(h.size:Int),(0:Int)))
      else
      some (C7.next O))) (fun _ s=>True) (fun _=>True) (fun r=>r.1.Kind=4) (a:=0) (b:=L.length) (s:=F3.mk 0 (⟨#[]⟩:ByteArray) 0) (by omega) trivial (fun i t c q _=>by
      have U:=D _ (AW c q);have E:A6 (0+((AB L i).size:Int))=(AB L i).size:=by rw [BD (by omega) (by omega)]; omega
      simp only [AL c q,bs,E];by_cases F:((AB L i).size:Int)<=s.size
      ·rw [d1 (by simpa using F),Lz (by omega) (by omega) F];simp only [bs];split
       ·exact .inr (.inr ⟨_,rfl,rfl⟩)
       ·exact .inl ⟨_,rfl,trivial⟩
      ·rw [d2 (by simpa using F)];simp only [bs];exact .inl ⟨_,rfl,trivial⟩) with ⟨s',c,_⟩ | ⟨r,c,q⟩
    ·rw [c]; exact ⟨_,_,_,rfl,by simp⟩
    ·rw [c]; exact ⟨_,_,_,rfl,by simp [q]⟩
theorem Pn {s:ByteArray} (b:(s.size:Int)<=4611686018427387904):Hr s=some (G1 s):=by
 unfold Hr Mx Nb;simp only [show decide ((1:Int)=3)=false from rfl,Bool.false_eq_true,if_false,bs];by_cases a:s=⟨#[]⟩
 ·subst a; rfl
 ·rw [d2 (by simpa using a)];obtain ⟨t,n,e,c,d⟩:=oJ (Vs a) b;rw [c];simp only [bs];rw [d]
end Go.Sf.Sc
namespace Go.Sf
variable {ρ β:Type}
def nz (e:Int):dD:=if e=0 then none else some e
theorem Oz (e:Int):(if (!decide (e=0))=true then some (C7.ret e) else some (C7.next ()))=some (Oe (nz e)):=by
 unfold nz;by_cases h:e=0 <;> simp [h,Oe]
theorem fv (b:Bool) (r:ρ):(if b=true then some (C7.ret r) else some (C7.next ()))=some (Oe (if b=true then some r else none)):=by
 cases b <;> rfl
theorem EI {σ:Type} {s:σ} {k:σ->Option β} {a:ρ->Option β}:thenR (some (.inl s)) k a=k s:=rfl
theorem UM {σ:Type} {r:ρ} {k:σ->Option β} {a:ρ->Option β}:thenR (some (.inr r)) k a=a r:=rfl
theorem IG (o:Option ρ) (k:Unit->Option β) (a:ρ->Option β):thenR (some (cJ o)) k a=match o with | none=>k () | some r=>a r:=by
 cases o <;> rfl
theorem G7 (o:dD):thenR (some (cJ o)) (fun _=>some 0) (fun v=>some v)=some (o.getD 0):=by
 cases o <;> rfl
theorem SR {c:Int->Int} {a b:Int} (h:(fst (fun i=>nz (c i)) a b).getD 0=0):∀ i,a<=i->i<b->c i=0:=by
 have:fst (fun i=>nz (c i)) a b=none:=by
  cases e:fst (fun i=>nz (c i)) a b with
  | none=>rfl
  | some r=>
   rw [e] at h;simp only [Option.getD] at h;subst h;obtain ⟨i,_,_,d,_⟩:=DJ e;unfold nz at d;split at d
   ·cases d
   ·rename_i f; simp at d; exact (f d).elim
 rw [CZ] at this;intro i g j;have:=this i g j;unfold nz at this;split at this
 ·assumption
 ·cases this
theorem Lt {e:Int}:nz e=none↔e=0:=by
 unfold nz;by_cases h:e=0 <;> simp [h]
theorem VE {α:Type} [Inhabited α] {l:List α} {f:α->ca} {p:α->Bool} (h:∀ x∈l,f x=some (p x)) :
  (thenR (forR (ρ:=Int) (fun (c:Int) (_:Unit)=>(AK l c).bind fun a=>(f a).bind fun b=>if b=true then some (.ret c) else some (.next ())) 0 (l.length:Int) ()) (fun _=>some (-1)) (fun g=>some g)) =
   some ((fst (fun i=>if p (AB l i)=true then some i else none) 0 l.length).getD (-1)):=by
 rw [DI (fun i=>if p (AB l i)=true then some i else none)]
 ·rw [IG]; cases fst (fun i=>if p (AB l i)=true then some i else none) 0 l.length <;> rfl
 ·intro i d e _;rw [AL d e,bs,h _ (AW d e),bs,fv]
theorem Tw {α:Type} [Inhabited α] {l:List α} {p:α->Bool}:decide (0<=(fst (fun i=>if p (AB l i)=true then some i else none) 0 l.length).getD (-1))=l.any p:=by
 rw [J4,anyR];cases h:fst (fun i=>if p (AB l i)=true then some i else none) 0 l.length with
 | none=>
  rw [CZ] at h;symm;show Option.isSome _=false;rw [Option.isSome_eq_false_iff,Option.isNone_iff_eq_none,CZ];intro i b c;have:=h i b c;by_cases d:p (AB l i)=true
  ·rw [d1 d] at this; cases this
  ·rw [d2 d]
 | some k=>
  obtain ⟨i,b,c,a,_⟩:=DJ h;have f:p (AB l i)=true∧i=k:=by
   by_cases hv:p (AB l i)=true
   ·rw [d1 hv] at a; exact ⟨hv,by simpa using a⟩
   ·rw [d2 hv] at a; cases a
  simp only [Option.getD];rw [decide_eq_true (show (0:Int)<=k by omega)];symm;show Option.isSome _=true;rw [Option.isSome_iff_ne_none,ne_eq,CZ];intro e;have:=e i b c;rw [d1 f.1] at this;cases this
theorem GP {α:Type} [Inhabited α] {l:List α} {f:α->ca} {p:α->Bool} (h:∀ x∈l,f x=some (p x)) :
  ((thenR (forR (ρ:=Int) (fun (c:Int) (_:Unit)=>(AK l c).bind fun a=>(f a).bind fun b=>if b=true then some (.ret c) else some (.next ())) 0 (l.length:Int) ()) (fun _=>some (-1)) (fun d=>some d)).bind fun e=>some (decide (0<=e)))=some (l.any p):=by
 rw [VE h,bs,Tw]
end Go.Sf
namespace Go.Sf.Sc
open Go Go.Sf
instance:Inhabited Attr:=⟨⟨⟨#[]⟩,0,0,[]⟩⟩
instance:Inhabited CP:=⟨⟨⟨#[]⟩,0,false,[]⟩⟩
instance:Inhabited DA:=⟨⟨⟨#[]⟩,0,0,0,0,0,0⟩⟩
instance:Inhabited DG:=⟨⟨0,0,0⟩⟩
instance:Inhabited EG:=⟨⟨0,0,⟨0,0⟩⟩⟩
instance:Inhabited Test:=⟨⟨0,⟨0,0⟩,⟨0,0⟩⟩⟩
instance:Inhabited AA:=⟨⟨0,[],⟨[],[]⟩,⟨⟨[],[]⟩,[],0,[]⟩⟩⟩
theorem Us {l:Ne} {f:Int->ca} {p:Int->Bool} (h:∀ x∈l,f x=some (p x)):BW l f=some (l.any p):=GP h
theorem Wd {l:List DG} {f:DG->ca} {p:DG->Bool} (h:∀ x∈l,f x=some (p x)):B8 l f=some (l.any p):=GP h
theorem Ur {l:List AA} {f:AA->ca} {p:AA->Bool} (h:∀ x∈l,f x=some (p x)):BX l f=some (l.any p):=GP h
theorem WB {l:List CP} {p:CP->Bool}:C6 l (fun x=>some (p x))=some (l.any p):=GP (fun _ _=>rfl)
theorem WA {l:List DA} {p:DA->Bool}:C5 l (fun x=>some (p x))=some (l.any p):=GP (fun _ _=>rfl)
theorem dP {l:List Attr} {p:Attr->Bool}:DV l (fun x=>some (p x))=some (l.any p):=GP (fun _ _=>rfl)
theorem Yk {l:Ne} {p:Int->Bool}:BW l (fun x=>some (p x))=some (l.any p):=GP (fun _ _=>rfl)
theorem dQ {l:List DG} {p:DG->Bool}:B8 l (fun x=>some (p x))=some (l.any p):=GP (fun _ _=>rfl)
theorem dR {l:List EG} {p:EG->Bool}:DW l (fun x=>some (p x))=some (l.any p):=GP (fun _ _=>rfl)
theorem gH (l:Ne) (v:Int):slices_Index_int l v=some ((fst (fun i=>if decide (v=AB l i)=true then some i else none) 0 l.length).getD (-1)):=by
 have:=VE (l:=l) (f:=fun x=>some (decide (v=x))) (p:=fun x=>decide (v=x)) (fun _ _=>rfl);unfold slices_Index_int;simpa only [bs] using this
theorem SE (l:Ne) (v:Int):slices_Contains_int l v=some (l.any fun x=>decide (v=x)):=by
 unfold slices_Contains_int;rw [gH,bs,Tw (p:=fun x=>decide (v=x))]
theorem dU (l:d0) (v:Bool):G5 l v=some (l.any fun x=>v==x):=by
 have:=GP (l:=l) (f:=fun x=>some (v==x)) (p:=fun x=>v==x) (fun _ _=>rfl);unfold G5 JP;simpa only [bs] using this
structure QY (a:Attr):Prop where
 name:(a.Name.size:Int)<=40
 names:a.Names.length<=25
 each:∀ x∈a.Names,(x.size:Int)<=40
structure CC (t:AD):Prop where
 nodes:t.Nodes.length<=20
 edges:t.Edges.length<=30
 name:∀ n∈t.Nodes,(n.Name.size:Int)<=40
 attrs:∀ n∈t.Nodes,n.Attrs.length<=30
 each:∀ n∈t.Nodes,∀ a∈n.Attrs,QY a
 ename:∀ e∈t.Edges,(e.Name.size:Int)<=40
def par (t:AD) (i:Int):Int:=(AB t.Nodes i).Parent
def GN (t:AD) (k:Int):Prop:=∀ i,0<=i->i<k->-1<=par t i∧par t i<i
def CY (t:AD):Nat->Int->List Attr
 | 0,_=>[]
 | n+1,a=>if a<0 then [] else CY t n (par t a)++(AB t.Nodes a).Attrs
def BS (t:AD) (a:Int):List Attr:=CY t (a+1).toNat a
theorem Ip {t:AD} {n:Nat} {a:Int} (h:a<0):CY t n a=[]:=by
 cases n with
 | zero=>rfl
 | succ n=>rw [CY,d1 h]
theorem Ln {t:AD} {k:Int} (c:GN t k):∀ (n m:Nat) (a:Int),a<k->a<n->a<m->CY t n a=CY t m a
 | n,m,a,d,e,f=>by
  by_cases b:a<0
  ·rw [Ip b,Ip b]
  ·cases n with
   | zero=>omega
   | succ n=>
    cases m with
    | zero=>omega
    | succ m=>
     rw [CY,CY,d2 b,d2 b];have:=c a (by omega) d;rw [Ln c n m (par t a) (by omega) (by omega) (by omega)]
theorem L3 {t:AD} (b:CC t) {k:Int} (d:k<=t.Nodes.length) (c:GN t k):∀ (n:Nat) (a:Int),a<k->((CY t n a).length:Int)<=30*n
 | 0,_,_=>by simp [CY]
 | n+1,a,e=>by
  rw [CY];split
  ·simp; omega
  ·rename_i f;have g:=c a (by omega) e;have h:=L3 b d c n (par t a) (by omega);have i:=b.attrs _ (AW (l:=t.Nodes) (show 0<=a by omega) (by omega));rw [d4];omega
theorem R7 {t:AD} (c:CC t) {k:Int} (e:k<=t.Nodes.length) (d:GN t k):∀ (n:Nat) (a:Int),a<k->∀ x∈CY t n a,QY x
 | 0,_,_=>by simp [CY]
 | n+1,a,f=>by
  rw [CY];split
  ·simp
  ·rename_i g;have h:=d a (by omega) f;intro x b;rcases List.mem_append.1 b with b | b
   ·exact R7 c e d n (par t a) (by omega) x b
   ·exact c.each _ (AW (l:=t.Nodes) (show 0<=a by omega) (by omega)) x b
theorem L5 {t:AD} (b:CC t) {k a:Int} (c:k<=t.Nodes.length) (d:GN t k) (e:a<k):(BS t a).length<=600:=by
 have:=L3 b c d (a+1).toNat a e;have:=b.nodes;unfold BS;omega
theorem L4 {t:AD} (b:CC t) {k a:Int} (c:k<=t.Nodes.length) (d:GN t k) (e:a<k):∀ x∈BS t a,QY x:=R7 b c d _ a e
theorem VV {t:AD} (d:CC t) {k:Int} (g:k<=t.Nodes.length) (f:GN t k):∀ (n:Nat) (a:Int),0<=a->a<k->a<n->EC n t a=some (CY t n a)
 | 0,_,_,_,_=>by omega
 | n+1,a,i,q,v=>by
  have r:=f a (by omega) q;have j:=L3 d g f n (par t a) (by omega);have s:=d.attrs _ (AW (l:=t.Nodes) i (by omega));have u:=d.nodes;rw [EC,CY,d2 (by omega),AL i (by omega)];simp only [bs];show ((if decide (0<=par t a)=true then (EC n t (par t a)).bind fun c=>some c else some []).bind _)=_;have e:(if decide (0<=par t a)=true then (EC n t (par t a)).bind fun c=>some c else some [])=some (CY t n (par t a)):=by
   by_cases h:0<=par t a
   ·rw [d1 (by simpa using h),VV d g f n (par t a) h (by omega) (by omega)]; rfl
   ·rw [d2 (by simpa using h),Ip (by omega)]
  have m:(CY t n (par t a)).length+(AB t.Nodes a).Attrs.length<=BY:=by
   unfold BY;have:((CY t n (par t a)).length:Int)<=30*n:=j;have o:CY t n (par t a)=CY t 20 (par t a):=by
    by_cases b:par t a<0
    ·rw [Ip b,Ip b]
    ·exact Ln f n 20 (par t a) (by omega) (by omega) (by omega)
   have p:=L3 d g f 20 (par t a) (by omega);rw [←o] at p;omega
  rw [e,bs,CS m];rfl
theorem Ww {t:AD} (d:CC t) {k:Int} (e:k<=t.Nodes.length) (b:GN t k) {a:Int} (f:0<=a) (c:a<k):KI t a=some (BS t a):=
 GJ (a+1).toNat fun n g=>by
  rw [VV d e b n a f c (by omega),BS,Ln b n (a+1).toNat a c (by omega) (by omega)]
theorem Vb {t:AD} (c:CC t) {k:Int} (e:k<=t.Nodes.length) (d:GN t k):∀ (n:Nat) (a:Int),-1<=a->a<k->a+1<n->Hs n t a=some (CY t n a)
 | 0,_,_,_,_=>by omega
 | n+1,a,p,i,q=>by
  rw [Hs,CY];by_cases b:a<0
  ·rw [d1 (by simpa using b),d1 b]
  ·have j:=d a (by omega) i;have m:=c.attrs _ (AW (l:=t.Nodes) (show 0<=a by omega) (by omega));have o:=c.nodes;rw [d2 (by simpa using b),d2 b,AL (by omega) (by omega)];simp only [bs];have f:CY t n (par t a)=CY t 20 (par t a):=by
    by_cases b:par t a<0
    ·rw [Ip b,Ip b]
    ·exact Ln d n 20 (par t a) (by omega) (by omega) (by omega)
   have g:=L3 c e d 20 (par t a) (by omega);rw [←f] at g;have h:(CY t n (par t a)).length+(AB t.Nodes a).Attrs.length<=BY:=by unfold BY; omega
   rw [show (AB t.Nodes a).Parent=par t a from rfl,Vb c e d n (par t a) (by omega) (by omega) (by omega),bs,CS (by simp; unfold BY; omega)];simp only [bs,List.nil_append];rw [CS h]; rfl
theorem W6 {t:AD} (d:CC t) {k:Int} (e:k<=t.Nodes.length) (b:GN t k) {a:Int} (f:0<=a) (c:a<k):Mz t a=some (BS t a):=
 GJ (a+2).toNat fun n g=>by
  rw [Vb d e b n a (by omega) c (by omega),BS,Ln b n (a+1).toNat a c (by omega) (by omega)]
end Go.Sf.Sc
namespace Go.Sf.Sc
open Go Go.Sf
def JZ (l:List ByteArray):Int:=
 if (20:Int)<l.length then 3 else (fst (fun i=>if G1 (AB l i)=false then some 2 else if anyR (fun j=>AB l j==AB l i) 0 i=true then some 5 else none) 0 l.length).getD 0
theorem Uv {l:List ByteArray} {x:ByteArray} {b:Int} (a:0<=b) (c:b<=l.length):(l.take b.toNat).contains x=anyR (fun j=>AB l j==x) 0 b:=by
 rw [List.contains_eq_any_beq,PA a c];exact R6 (fun i _ _=>by rw [Bool.beq_comm])
theorem eD {l:List ByteArray} (d:∀ x∈l,(x.size:Int)<=40):IK l=some (JZ l):=by
 unfold IK JZ;by_cases a:(20:Int)<l.length
 ·rw [d1 (by simpa using a),d1 a]
 ·rw [d2 (by simpa using a),d2 a];rw [DI (fun i=>if G1 (AB l i)=false then some 2 else if anyR (fun j=>AB l j==AB l i) 0 i=true then some 5 else none),G7];intro i b c _;have e:=d _ (AW b c);rw [AL b c,bs,Pk (by omega),bs,Mn b (by omega)];simp only [bs,NU,Uv b (show i<=l.length by omega)];cases G1 (AB l i) <;> cases anyR (fun j=>AB l j==AB l i) 0 i <;> rfl
theorem eR {l:List ByteArray} (d:∀ x∈l,(x.size:Int)<=40):LJ l=some (JZ l):=by
 unfold LJ JZ;by_cases a:(20:Int)<l.length
 ·rw [d1 (by simpa using a),d1 a]
 ·rw [d2 (by simpa using a),d2 a];rw [DI (fun i=>if G1 (AB l i)=false then some 2 else if anyR (fun j=>AB l j==AB l i) 0 i=true then some 5 else none),G7];intro i b c _;have g:=d _ (AW b c);rw [AL b c,bs,Pn (by omega),bs,C4 (fun j=>AB l j==AB l i) 5]
  ·cases G1 (AB l i) <;> cases anyR (fun j=>AB l j==AB l i) 0 i <;> rfl
  ·intro j e f _;rw [AL e (by omega),bs,bs];split <;> rfl
def LR (all:List Attr) (k:Int):Int:=
 let x:=AB all k
 if G1 x.Name=false then 2 else if anyR (fun j=>(AB all j).Name==x.Name) 0 k=true then 5 else
 if x.Names.length=0 then (if -1000000<=x.Low∧x.Low<=x.High∧x.High<=1000000 then 0 else 6) else
 if JZ x.Names≠0 then JZ x.Names else if x.Low=0∧x.High=x.Names.length - 1 then 0 else 6
theorem WR {all:List Attr} (d:∀ x∈all,QY x) {k:Int} (c:0<=k) (f:k<all.length):FX (AB all k) (all.take k.toNat)=some (LR all k):=by
 have b:=d _ (AW c f);have l:=b.name;unfold FX LR;dsimp only;rw [Pk (by omega),bs,show (fun a=>JQ a (AB all k))=(fun a=>some (a.Name==(AB all k).Name)) from rfl,dP,bs,PA c (by omega),eD b.each,bs];have g:=b.names;have i:A6 ((AB all k).Names.length - 1)=(AB all k).Names.length - 1:=BD (by omega) (by omega);rw [i];have j:(AB all k).Names.length=0->JZ (AB all k).Names=0:=fun h=>by rw [List.eq_nil_of_length_eq_zero h]; rfl
 generalize JZ (AB all k).Names=e at j ⊢;simp only [bs,zzX,Bool.or_eq_true,zzZ,Bool.not_eq_true',decide_eq_false_iff_not,Bool.not_eq_false',Bool.or_eq_false_iff,Bool.and_eq_false_iff,ne_eq]
 repeat' (first | rfl | (exfalso; omega; done) | split)
 all_goals (first | rfl | (exfalso; omega) | omega | simp_all | (simp_all; omega))
theorem WS {x:Attr} (a:QY x):I2 x=some (
 if x.Names.length=0 then (if -1000000<=x.Low∧x.Low<=x.High∧x.High<=1000000 then 0 else 6) else
 if JZ x.Names≠0 then JZ x.Names else if x.Low=0∧x.High=x.Names.length - 1 then 0 else 6):=by
 have b:=a.names;have c:A6 (x.Names.length - 1)=x.Names.length - 1:=BD (by omega) (by omega);unfold I2 FK;simp only [bs,c,eR a.each];generalize JZ x.Names=e;simp only [bs,zzX,Bool.or_eq_true,zzZ,Bool.not_eq_true',decide_eq_false_iff_not,Bool.not_eq_false',Bool.or_eq_false_iff,Bool.and_eq_false_iff,ne_eq]
 repeat' (first | rfl | (exfalso; omega; done) | split)
 all_goals (first | rfl | (exfalso; omega) | omega | simp_all | (simp_all; omega))
def Ic (t:AD) (i:Int):Int:=
 let n:=AB t.Nodes i
 if G1 n.Name=false then 2 else if anyR (fun j=>(AB t.Nodes j).Name==n.Name) 0 i=true then 5 else
 if n.Parent < -1∨i<=n.Parent then 6 else if 4<n.Attrs.length∨8<(BS t i).length then 3 else
 (fst (fun k=>nz (LR (BS t i) k)) ((BS t i).length - n.Attrs.length) (BS t i).length).getD 0
theorem SA {t:AD} {i:Int} (a:0<=i):(AB t.Nodes i).Attrs.length<=(BS t i).length:=by
 unfold BS;rw [show (i+1).toNat=i.toNat+1 by omega,CY,d2 (by omega),d4];omega
theorem GN.next {t:AD} {i:Int} (h:GN t i) (a:-1<=par t i) (b:par t i<i):GN t (i+1):=by
 intro j c e;by_cases d:j=i
 ·subst d; exact ⟨a,b⟩
 ·exact h j c (by omega)
theorem gj {t:AD} (f:CC t) {i:Int} (c:0<=i) (l:i<t.Nodes.length) (p:GN t i):I9 t i=some (Ic t i):=by
 have r:=f.name _ (AW c l);unfold I9 Ic;dsimp only;rw [AL c l,bs,Pk (by omega),bs,Mn c (by omega),bs,show (fun g=>MU g (AB t.Nodes i))=(fun g=>some (g.Name==(AB t.Nodes i).Name)) from rfl,WB,bs,PA c (by omega)];cases G1 (AB t.Nodes i).Name
 ·rfl
 ·cases anyR (fun j=>(AB t.Nodes j).Name==(AB t.Nodes i).Name) 0 i
  ·by_cases d:(AB t.Nodes i).Parent < -1∨i<=(AB t.Nodes i).Parent
   ·rcases d with d | d <;> simp [d]
   ·have b:GN t (i+1):=p.next (by unfold par; omega) (by unfold par; omega)
    have h:(decide ((AB t.Nodes i).Parent < -1)||decide (i<=(AB t.Nodes i).Parent))=false:=by
     rw [Bool.eq_false_iff]; simpa using d
    rw [Ww f (k:=i+1) (by omega) b c (by omega),bs];have n:=L5 f (k:=i+1) (a:=i) (by omega) b (by omega);have o:=SA (t:=t) c;have e:=L4 f (k:=i+1) (a:=i) (by omega) b (by omega);rw [BD (by omega) (by omega),DI (fun k=>nz (LR (BS t i) k)),G7]
    ·simp only [h,d,Bool.not_true,Bool.false_eq_true,if_false];simp only [bs,zzX,Bool.or_eq_true,zzZ,Bool.not_eq_true',decide_eq_false_iff_not,Bool.not_eq_false',Bool.or_eq_false_iff,Bool.and_eq_false_iff,ne_eq]
     repeat' (first | rfl | (exfalso; omega; done) | split)
     all_goals (first | rfl | (exfalso; omega) | omega | simp_all | (simp_all; omega))
    ·intro k q m _;rw [AL (by omega) m,bs,Mn (by omega) (by omega),bs,WR e (by omega) m,bs,Oz]
  ·rfl
theorem g0 {t:AD} (c:CC t) {i:Int} (e:0<=i) (g:i<t.Nodes.length) (p:GN t i):MJ t i=some (Ic t i):=by
 have u:=c.name _ (AW e g);have v:=c.nodes;unfold MJ Ic FK;dsimp only;rw [AL e g,bs,Pn (by omega),bs,C4 (fun j=>(AB t.Nodes j).Name==(AB t.Nodes i).Name) 5]
 ·cases G1 (AB t.Nodes i).Name
  ·rfl
  ·cases anyR (fun j=>(AB t.Nodes j).Name==(AB t.Nodes i).Name) 0 i
   ·simp only [Bool.not_true,Bool.false_eq_true,if_false,EI,bs];rw [BD (by omega) (by omega)];by_cases l:(AB t.Nodes i).Parent < -1∨i<=(AB t.Nodes i).Parent
    ·rw [d1,d2 (by decide),d1 l];simp; omega
    ·have b:GN t (i+1):=p.next (by unfold par; omega) (by unfold par; omega)
     rw [d2 (by simp; omega),d2 (by decide),d2 l];rw [W6 c (k:=i+1) (by omega) b e (by omega),bs];have m:=L5 c (k:=i+1) (a:=i) (by omega) b (by omega);have n:=SA (t:=t) e;have d:=L4 c (k:=i+1) (a:=i) (by omega) b (by omega);rw [BD (by omega) (by omega)];rw [DI (fun k=>nz (LR (BS t i) k)),G7]
     ·simp only [bs,zzX,Bool.or_eq_true,zzZ,Bool.not_eq_true',decide_eq_false_iff_not,Bool.not_eq_false',Bool.or_eq_false_iff,Bool.and_eq_false_iff,ne_eq]
      repeat' (first | rfl | (exfalso; omega; done) | split)
      all_goals (first | rfl | (exfalso; omega) | omega | simp_all | (simp_all; omega))
     ·intro k h f _;have o:=d _ (AW (show 0<=k by omega) f);have r:=o.name;simp only [AL (show 0<=k by omega) f,bs];rw [Pn (by omega),bs,C4 (fun j=>(AB (BS t i) j).Name==(AB (BS t i) k).Name) 5]
      ·rw [WS o];simp only [bs,Oz];unfold LR;dsimp only;cases G1 (AB (BS t i) k).Name
       ·rfl
       ·cases anyR (fun j=>(AB (BS t i) j).Name==(AB (BS t i) k).Name) 0 k <;> rfl
      ·intro j q s _;rw [AL q (by omega),bs];split <;> rfl
   ·rfl
 ·intro j h f _;rw [AL h (by omega),bs];split <;> rfl
def L6 (low high:Int):Bool:=((decide (0<=low))&&(decide (low<=40)))&&((decide (high=(-1)))||((decide (low<=high))&&(decide (high<=40))))
theorem eP (low high:Int):KD low high=some (L6 low high):=by
 unfold KD L6 FK;simp only [bs];cases (decide (0<=low)&&decide (low<=40)) <;> cases decide (high=-1) <;> rfl
def JN (t:AD) (i:Int):Int:=
 let x:=AB t.Edges i
 if G1 x.Name=false then 2 else if anyR (fun j=>(AB t.Edges j).Name==x.Name) 0 i=true then 5 else
 if (0<=x.From∧x.From<t.Nodes.length)∧(0<=x.To∧x.To<t.Nodes.length)∧L6 x.OutLow x.OutHigh=true∧L6 x.InLow x.InHigh=true then 0 else 6
theorem gZ {t:AD} (h:CC t) {i:Int} (c:0<=i) (g:i<t.Edges.length):I8 t i=some (JN t i):=by
 have k:=h.ename _ (AW c g);unfold I8 JN Kr;dsimp only;rw [AL c g,bs,Pk (by omega),bs,Mn c (by omega),bs,show (fun e=>MT e (AB t.Edges i))=(fun e=>some (e.Name==(AB t.Edges i).Name)) from rfl,WA,bs,PA c (by omega)];simp only [show ∀ a b,J9 a b=some (L6 a b) from fun _ _=>rfl,bs];generalize G1 (AB t.Edges i).Name=b1;generalize anyR (fun j=>(AB t.Edges j).Name==(AB t.Edges i).Name) 0 i=b2;generalize L6 (AB t.Edges i).OutLow (AB t.Edges i).OutHigh=b3;generalize L6 (AB t.Edges i).InLow (AB t.Edges i).InHigh=b4;cases b1
 ·rfl
 ·cases b2
  ·cases b3 <;> cases b4
   all_goals
    by_cases d:0<=(AB t.Edges i).From∧(AB t.Edges i).From<t.Nodes.length
    ·by_cases f:0<=(AB t.Edges i).To∧(AB t.Edges i).To<t.Nodes.length
     ·simp [d,f]
     ·have:(decide (0<=(AB t.Edges i).To)&&decide ((AB t.Edges i).To<t.Nodes.length))=false:=by rw [Bool.eq_false_iff]; simpa using f
      simp [d,f,this]
    ·have:(decide (0<=(AB t.Edges i).From)&&decide ((AB t.Edges i).From<t.Nodes.length))=false:=by rw [Bool.eq_false_iff]; simpa using d
     simp [d,this]
  ·rfl
theorem gw {t:AD} (d:CC t) {i:Int} (e:0<=i) (f:i<t.Edges.length):MI t i=some (JN t i):=by
 have l:=d.ename _ (AW e f);have m:=d.nodes;unfold MI JN FK;dsimp only;rw [AL e f,bs,Pn (by omega),bs,C4 (fun j=>(AB t.Edges j).Name==(AB t.Edges i).Name) 5]
 ·simp only [BD (show -9223372036854775808<=(t.Nodes.length:Int) - 1 by omega) (by omega),eP,bs];generalize G1 (AB t.Edges i).Name=b1;generalize anyR (fun j=>(AB t.Edges j).Name==(AB t.Edges i).Name) 0 i=b2;generalize L6 (AB t.Edges i).OutLow (AB t.Edges i).OutHigh=b3;generalize L6 (AB t.Edges i).InLow (AB t.Edges i).InHigh=b4;cases b1
  ·rfl
  ·cases b2
   ·cases b3 <;> cases b4
    all_goals
     by_cases b:0<=(AB t.Edges i).From∧(AB t.Edges i).From<t.Nodes.length
     ·have a:(AB t.Edges i).From<=(t.Nodes.length:Int) - 1:=by omega
      by_cases g:0<=(AB t.Edges i).To∧(AB t.Edges i).To<t.Nodes.length
      ·have c:(AB t.Edges i).To<=(t.Nodes.length:Int) - 1:=by omega
       simp [b,g,a,c,EI]
      ·have:(decide (0<=(AB t.Edges i).To)&&decide ((AB t.Edges i).To<=(t.Nodes.length:Int) - 1))=false:=by rw [Bool.eq_false_iff]; simp; omega
       simp [b,g,a,this,EI]
     ·have:(decide (0<=(AB t.Edges i).From)&&decide ((AB t.Edges i).From<=(t.Nodes.length:Int) - 1))=false:=by rw [Bool.eq_false_iff]; simp; omega
      simp [b,this,EI]
   ·rfl
 ·intro j h k _;rw [AL h (by omega),bs];split <;> rfl
def BM (t:AD):ByteArray × Int:=
 if t.Nodes.length=0 then (⟨#[]⟩,7) else if 12<t.Nodes.length∨20<t.Edges.length then (⟨#[]⟩,3) else
 match fst (fun i=>(nz (Ic t i)).map fun e=>((AB t.Nodes i).Name,e)) 0 t.Nodes.length with
 | some r=>r
 | none=>(fst (fun i=>(nz (JN t i)).map fun e=>((AB t.Edges i).Name,e)) 0 t.Edges.length).getD (⟨#[]⟩,0)
theorem Y4 {t:AD} {i:Int} (h:Ic t i=0):-1<=par t i∧par t i<i:=by
 unfold Ic at h;dsimp only at h;unfold par;by_cases a:(AB t.Nodes i).Parent < -1∨i<=(AB t.Nodes i).Parent
 ·rw [d1 a] at h;split at h
  ·cases h
  ·split at h <;> cases h
 ·omega
theorem Kf {α β:Type} {o:Option α} {g:α->β}:o.map g=none↔o=none:=by cases o <;> simp
theorem Ru {t:AD} {i:Int} (h:∀ j,0<=j->j<i->Ic t j=0):GN t i:=fun j a b=>Y4 (h j a b)
theorem RG {ρ:Type} (e:Int) (n:ByteArray):(if (!decide (e=0))=true then some (C7.ret (n,e)) else some (C7.next ()))=some (Oe ((nz e).map fun e=>(n,e))):=by
 unfold nz;by_cases h:e=0 <;> simp [h,Oe]
theorem RK {t:AD} (c:CC t):F2 t=some (BM t):=by
 unfold F2 BM;rw [DI (fun i=>(nz (Ic t i)).map fun e=>((AB t.Nodes i).Name,e)),IG]
 ·rw [DI (fun i=>(nz (JN t i)).map fun e=>((AB t.Edges i).Name,e)),IG]
  ·cases fst (fun i=>(nz (Ic t i)).map fun e=>((AB t.Nodes i).Name,e)) 0 t.Nodes.length <;> cases fst (fun i=>(nz (JN t i)).map fun e=>((AB t.Edges i).Name,e)) 0 t.Edges.length
   all_goals dsimp only
   all_goals try simp only [Option.getD]
   all_goals
    simp only [bs,zzX,Bool.or_eq_true,zzZ,Bool.not_eq_true',decide_eq_false_iff_not,Bool.not_eq_false',Bool.or_eq_false_iff,Bool.and_eq_false_iff,ne_eq]
    repeat' (first | rfl | (exfalso; omega; done) | split)
    all_goals (first | rfl | (exfalso; omega) | omega | simp_all | (simp_all; omega))
  ·intro i a b _;rw [AL a b,bs,gZ c a b,bs];exact RG (ρ:=Unit) _ _
 ·intro i a b g;have h:GN t i:=Ru fun j d f=>Lt.1 (Kf.1 (g j d f));rw [AL a b,bs,gj c a b h,bs];exact RG (ρ:=Unit) _ _
theorem TN {t:AD} (c:CC t):JF t=some (BM t):=by
 unfold JF BM;rw [DI (fun i=>(nz (Ic t i)).map fun e=>((AB t.Nodes i).Name,e)),IG]
 ·rw [DI (fun i=>(nz (JN t i)).map fun e=>((AB t.Edges i).Name,e)),IG]
  ·cases fst (fun i=>(nz (Ic t i)).map fun e=>((AB t.Nodes i).Name,e)) 0 t.Nodes.length <;> cases fst (fun i=>(nz (JN t i)).map fun e=>((AB t.Edges i).Name,e)) 0 t.Edges.length
   all_goals dsimp only
   all_goals try simp only [Option.getD]
   all_goals
    simp only [bs,zzX,Bool.or_eq_true,zzZ,Bool.not_eq_true',decide_eq_false_iff_not,Bool.not_eq_false',Bool.or_eq_false_iff,Bool.and_eq_false_iff,ne_eq]
    repeat' (first | rfl | (exfalso; omega; done) | split)
    all_goals (first | rfl | (exfalso; omega) | omega | simp_all | (simp_all; omega))
  ·intro i a b _;simp only [gw c a b,AL a b,bs];exact RG (ρ:=Unit) _ _
 ·intro i a b g;have h:GN t i:=Ru fun j d f=>Lt.1 (Kf.1 (g j d f));simp only [g0 c a b h,AL a b,bs];exact RG (ρ:=Unit) _ _
end Go.Sf.Sc
namespace Go.Sf.Sc
open Go Go.Sf
theorem Kc {α:Type} {c:Bool} {a b:α}:(if c=true then some a else some b)=some (if c=true then a else b):=by cases c <;> rfl
def KO (n:Int):Bool:=(decide (0<=n))&&(decide (n<=99))
def PQ (e:DG) (n:Int):Bool:=KO e.Type'&&(decide (0<=e.From)&&decide (e.From<n))&&(decide (0<=e.To)&&decide (e.To<n))
def CR (g:Graph):Int:=
 if 40<g.Nodes.length∨80<g.Edges.length then 3 else if (g.Nodes.any fun n=>!KO n)=true then 6 else if (g.Edges.any fun e=>!PQ e g.Nodes.length)=true then 6 else 0
structure KB (g:Graph):Prop where
 nodes:g.Nodes.length<=40
 edges:g.Edges.length<=80
 kind:∀ n∈g.Nodes,0<=n∧n<=99
 fit:∀ e∈g.Edges,(0<=e.Type'∧e.Type'<=99)∧(0<=e.From∧e.From<g.Nodes.length)∧(0<=e.To∧e.To<g.Nodes.length)
theorem FA {g:Graph} (h:CR g=0):KB g:=by
 unfold CR at h;split at h
 ·cases h
 ·split at h
  ·cases h
  ·split at h
   ·cases h
   ·rename_i f a b;refine ⟨by omega,by omega,fun n c=>?_,fun e d=>?_⟩
    ·rw [Bool.not_eq_true,List.any_eq_false] at a;have:=a n c;simp [KO] at this;exact this
    ·rw [Bool.not_eq_true,List.any_eq_false] at b;have:=b e d;simp only [PQ,KO,Bool.not_eq_true',Bool.not_eq_false,zzZ,zzX] at this;omega
theorem gh {e:DG} {n:Nat} (h:n<=40):MD e n=some (PQ e n):=by
 unfold MD IU PQ KO;simp only [bs,BD (show -9223372036854775808<=(n:Int) - 1 by omega) (by omega)];have a:decide (e.From<=(n:Int) - 1)=decide (e.From<n):=by rw [decide_eq_decide]; omega
 have b:decide (e.To<=(n:Int) - 1)=decide (e.To<n):=by rw [decide_eq_decide]; omega
 rw [a,b];generalize (decide (0<=e.Type')&&decide (e.Type'<=99))=b1;generalize (decide (0<=e.From)&&decide (e.From<n))=b2;cases b1 <;> cases b2 <;> simp
theorem Nh (g:Graph):EM g=some (CR g):=by
 unfold EM CR;by_cases h:40<g.Nodes.length∨80<g.Edges.length
 ·rw [d1 (by simp; omega),d1 h]
 ·rw [d2 (by simp; omega),d2 h,show LT=(fun n=>some (!KO n)) from rfl,Yk,Wd (p:=fun e=>!PQ e g.Nodes.length) (fun e _=>by
   unfold LU;rw [gh (by omega)]; rfl)]
  simp only [bs];cases g.Nodes.any fun n=>!KO n
  ·cases g.Edges.any fun e=>!PQ e g.Nodes.length <;> rfl
  ·rfl
theorem Nj (g:Graph):GR g=some (CR g):=by
 unfold GR CR;by_cases h:40<g.Nodes.length∨80<g.Edges.length
 ·rw [d1 (by simp; omega),d1 h]
 ·rw [d2 (by simp; omega),d2 h,J4,J4,C4 (fun i=>!KO (AB g.Nodes i)) 6]
  ·rw [C4 (fun i=>!PQ (AB g.Edges i) g.Nodes.length) 6]
   ·cases anyR (fun i=>!KO (AB g.Nodes i)) 0 g.Nodes.length
    ·cases anyR (fun i=>!PQ (AB g.Edges i) g.Nodes.length) 0 g.Edges.length <;> rfl
    ·rfl
   ·intro i a b _;rw [AL a b,bs];unfold M0 PQ;simp only [show ∀ n,Kx n=some (KO n) from fun _=>rfl,bs];generalize KO (AB g.Edges i).Type'=b1;cases b1 <;> cases decide (0<=(AB g.Edges i).From) <;> cases decide ((AB g.Edges i).From<g.Nodes.length) <;> cases decide (0<=(AB g.Edges i).To) <;> cases decide ((AB g.Edges i).To<g.Nodes.length) <;> rfl
  ·intro i a b _;rw [AL a b,bs,show Kx (AB g.Nodes i)=some (KO (AB g.Nodes i)) from rfl,bs];cases KO (AB g.Nodes i) <;> rfl
def EU (t:AD) (g:Graph):Bool:=!(g.Nodes.any fun n=>decide (t.Nodes.length<=n))&&!(g.Edges.any fun e=>decide (t.Edges.length<=e.Type'))
theorem Mp {t:AD} {g:Graph} (a:KB g) (h:EU t g=true):(∀ n∈g.Nodes,0<=n∧n<t.Nodes.length)∧∀ e∈g.Edges,0<=e.Type'∧e.Type'<t.Edges.length:=by
 unfold EU at h;simp only [zzZ,Bool.not_eq_true',List.any_eq_false,zzX] at h;refine ⟨fun n b=>?_,fun e c=>?_⟩
 ·have:=h.1 n b;have:=a.kind n b;omega
 ·have:=h.2 e c;have:=a.fit e c;omega
theorem TO {t:AD} {g:Graph} (c:KB g):JG t g=some (EU t g):=by
 unfold JG EU;rw [J4,J4,C4 (fun i=>decide (t.Nodes.length<=AB g.Nodes i)) false]
 ·rw [C4 (fun i=>decide (t.Edges.length<=(AB g.Edges i).Type')) false]
  ·cases anyR (fun i=>decide (t.Nodes.length<=AB g.Nodes i)) 0 g.Nodes.length
   ·cases anyR (fun i=>decide (t.Edges.length<=(AB g.Edges i).Type')) 0 g.Edges.length <;> rfl
   ·rfl
  ·intro i a b _;have:=(c.fit _ (AW a b)).1.1;simp only [AL a b,bs];rw [d2 (by simp; omega),bs,Kc]
 ·intro i a b _;have:=(c.kind _ (AW a b)).1;simp only [AL a b,bs];rw [d2 (by simp; omega),bs,Kc]
structure Hx (t:AD):Prop where
 nodes:t.Nodes.length<=12
 edges:t.Edges.length<=20
 node:∀ i:Int,0<=i->i<t.Nodes.length->Ic t i=0
 edge:∀ i:Int,0<=i->i<t.Edges.length->JN t i=0
theorem Ik {t:AD} (h:(BM t).2=0):Hx t:=by
 unfold BM at h;split at h
 ·cases h
 ·split at h
  ·cases h
  ·rename_i k l;have g:∀ i:Int,0<=i->i<t.Nodes.length->Ic t i=0:=by
    split at h
    ·rename_i r b;obtain ⟨i,_,_,a,_⟩:=DJ b;unfold nz at a;split at a
     ·cases a
     ·rename_i c;cases a; exact absurd h c
    ·rename_i b;intro i d f;exact Lt.1 (Kf.1 (CZ.1 b i d f))
   have j:∀ i:Int,0<=i->i<t.Edges.length->JN t i=0:=by
    split at h
    ·rename_i r b;obtain ⟨i,d,f,a,_⟩:=DJ b;rw [g i d f] at a;cases a
    ·cases b:fst (fun i=>(nz (JN t i)).map fun e=>((AB t.Edges i).Name,e)) 0 t.Edges.length with
     | some r=>
      rw [b] at h;obtain ⟨i,_,_,a,_⟩:=DJ b;unfold nz at a;split at a
      ·cases a
      ·rename_i c;cases a; exact absurd h c
     | none=>
      intro i d f;exact Lt.1 (Kf.1 (CZ.1 b i d f))
   exact ⟨by omega,by omega,g,j⟩
theorem Hx.par {t:AD} (h:Hx t):GN t t.Nodes.length:=Ru h.node
theorem Hx.ends {t:AD} (h:Hx t) {i:Int} (b:0<=i) (c:i<t.Edges.length):(0<=(AB t.Edges i).From∧(AB t.Edges i).From<t.Nodes.length)∧(0<=(AB t.Edges i).To∧(AB t.Edges i).To<t.Nodes.length):=by
 have:=h.edge i b c;unfold JN at this;dsimp only at this;split at this
 ·cases this
 ·split at this
  ·cases this
  ·split at this
   ·rename_i a; exact ⟨a.1,a.2.1⟩
   ·cases this
def JK (t:AD) (a:Int):Bool:=decide (0<=a)&&decide (a<t.Nodes.length)
theorem Nf {t:AD} {a:Int}:JK t a=true↔0<=a∧a<t.Nodes.length:=by unfold JK; simp
theorem TM {t:AD} (b:CC t) (l:Ne):GU t l=some (if (BM t).2≠0 then (BM t).2 else if (l.all (JK t))=true then 0 else 6):=by
 unfold GU;rw [RK b,bs,Us (p:=fun a=>!JK t a) (fun a _=>by unfold La JK; rw [show decide (a<0)=!decide (0<=a) from by rw [←decide_not,decide_eq_decide]; omega,show decide ((t.Nodes.length:Int)<=a)=!decide (a<t.Nodes.length) from by rw [←decide_not,decide_eq_decide]; omega,Bool.not_and]),bs];rw [show (l.any fun a=>!JK t a)=!(l.all (JK t)) from by rw [List.all_eq_not_any_not,Bool.not_not]];cases l.all (JK t) <;> by_cases h:(BM t).2=0 <;> simp [h]
theorem eQ {t:AD} (d:CC t) (a b:Int):LI t a b=some (if (BM t).2≠0 then (BM t).2 else if (JK t a&&JK t b)=true then 0 else 6):=by
 have f:=d.nodes;have e:∀ a,decide (a<=(t.Nodes.length:Int) - 1)=decide (a<(t.Nodes.length:Int)):=fun a=>by rw [decide_eq_decide]; omega
 unfold LI FK;rw [TN d,bs];simp only [BD (show -9223372036854775808<=(t.Nodes.length:Int) - 1 by omega) (by omega),bs,e];change (if (!decide ((BM t).snd=0))=true then some (BM t).snd else (if (!JK t a)=true then some true else some (!JK t b)).bind fun c=>if c=true then some 6 else some 0)=_;cases JK t a <;> cases JK t b <;> by_cases h:(BM t).2=0 <;> simp [h]
theorem Za {α:Type} [Inhabited α] {l:List α} {i:Int} (a:0<=i) (b:i<l.length):CU l i (AB l i)=l:=by
 unfold CU AB;rw [List.getD_eq_getElem?_getD,List.getElem?_eq_getElem (by omega)];exact List.set_getElem_self _
theorem F1 {α:Type} [Inhabited α] {l:List α} {i:Int} (a:0<=i) (b:i<l.length):l.take (i+1).toNat=l.take i.toNat++[AB l i]:=by
 unfold AB;rw [show (i+1).toNat=i.toNat+1 by omega,List.take_add_one,List.getD_eq_getElem?_getD,List.getElem?_eq_getElem (by omega)];rfl
theorem JC {α:Type} {l:List α} (h:l.length<=BY):B9 [] l=some l:=by rw [CS (by simpa using h)]; rfl
def Iq (t:AD) (a:Int):List Attr × Int:=if (BM t).2≠0 then ([],(BM t).2) else if JK t a=true then (BS t a,0) else ([],6)
theorem Wv {t:AD} (g:CC t) (a:Int):HV t a=some (Iq t a):=by
 unfold HV Iq;rw [TM g,bs];by_cases h:(BM t).2=0
 ·have d:=Ik h;have e:[a].all (JK t)=JK t a:=by simp
  rw [e];simp only [h,ne_eq,not_true_eq_false,if_false];cases hi:JK t a
  ·rfl
  ·rw [d1 rfl,d1 rfl];have j:=Nf.1 hi;have v:=L5 g (Int.le_refl _) d.par j.2;have r:=L4 g (Int.le_refl _) d.par j.2;rw [d2 (by decide),Ww g (Int.le_refl _) d.par j.1 j.2,bs];obtain ⟨s',u,rfl⟩:=U5 (f:=(fun (k:Int) (l:List Attr)=>
 (AK l k).bind fun m=>
 (slices_Clone_string m.Names).bind fun n=>
 (AK l k).bind fun c=>
 some (CU l k (Attr.mk c.Name c.Low c.High n)))) (fun _ s=>s=BS t a) (a:=0) (b:=(BS t a).length) (s:=BS t a) (by omega) rfl (fun i s o p q=>by
     subst q;have:=(r _ (AW o p)).names;refine ⟨BS t a,?_,rfl⟩;unfold slices_Clone_string;rw [AL o p,bs,JC (by unfold BY; omega),bs,bs];congr 1;exact Za o p)
   rw [u]; rfl
 ·simp only [h,ne_eq,not_false_eq_true,if_true,decide_false,Bool.not_false]
theorem eK {t:AD} (c:CC t) (a:Int):LH t a=some (Iq t a):=by
 unfold LH Iq;rw [eQ c,bs];by_cases h:(BM t).2=0
 ·have b:=Ik h;rw [Bool.and_self];simp only [h,ne_eq,not_true_eq_false,if_false];cases hi:JK t a
  ·rfl
  ·rw [d1 rfl,d1 rfl];have d:=Nf.1 hi;have j:=L5 c (Int.le_refl _) b.par d.2;have g:=L4 c (Int.le_refl _) b.par d.2;rw [d2 (by decide),W6 c (Int.le_refl _) b.par d.1 d.2,bs];rw [EY (fun i=>(BS t a).take i.toNat) (by omega) (by simp)]
   ·rw [bs,Int.toNat_natCast,List.take_length]
   ·intro i e f;have:=(g _ (AW e f)).names;rw [AL e f,bs,JC (by unfold BY; omega),bs,CS (by rw [d5]; simp; unfold BY; omega),F1 e f];rfl
 ·simp only [h,ne_eq,not_false_eq_true,if_true,decide_false,Bool.not_false]
end Go.Sf.Sc
namespace Go.Sf.Sc
open Go Go.Sf
def NC (t:AD):Nat->Int->Ne
 | 0,_=>[]
 | n+1,a=>if a<0 then [] else a::NC t n (par t a)
theorem XJ (t:AD):∀ (n:Nat) (a:Int),(NC t n a).length<=n
 | 0,_=>by simp [NC]
 | n+1,a=>by
  rw [NC];split
  ·simp
  ·have:=XJ t n (par t a); simp; omega
def JL (t:AD) (a b:Int):Bool:=(NC t (a+1).toNat a).any fun x=>decide (b=x)
theorem Wr {t:AD} (c:t.Nodes.length<=12) (g:GN t t.Nodes.length):∀ (n:Nat) (a:Int) (l:Ne),a<t.Nodes.length->a<n->l.length+n<=1000 ->
  ∃ x,Mb (ρ:=Ne) (fun (b:Int × Ne)=>
 if (decide (0<=b.1))=true then
 (B9 b.2 [b.1]).bind fun d=>
 (AK t.Nodes b.1).bind fun e=>
 some (.next (e.Parent,d))
 else
 some (.brk (b.1,b.2))) (a,l) (.inl (x,l++NC t n a))
 | 0,a,l,f,j,_=>by
  refine ⟨a,.brk ?_⟩;rw [d2 (by simp; omega)];simp [NC]
 | n+1,a,l,f,j,m=>by
  by_cases h:a<0
  ·refine ⟨a,.brk ?_⟩;rw [d2 (by simp; omega)];simp [NC,h]
  ·have k:=g a (by omega) f;obtain ⟨x,i⟩:=Wr c g n (par t a) (l++[a]) (by omega) (by omega) (by simp; omega);refine ⟨x,.next (s':=(par t a,l++[a])) ?_ ?_⟩
   ·rw [d1 (by simp; omega),CS (by simp; unfold BY; omega),bs,AL (by omega) f]; rfl
   ·rw [NC,d2 h,show l++a::NC t n (par t a)=(l++[a])++NC t n (par t a) by simp];exact i
theorem ar {t:AD} (h:Hx t) {a b:Int} (f:0<=a) (c:a<t.Nodes.length):JI t a b=some (JL t a b):=by
 have d:=h.nodes;obtain ⟨x,e⟩:=Wr d h.par (a+1).toNat a [] c (by omega) (by simp; omega);have g:=XJ t (a+1).toNat a;unfold JI Jy;rw [e.eq,EI];simp only [List.nil_append];unfold slices_Reverse_int;rw [d1 (by unfold BY; omega)];simp only [bs];rw [SE,bs];unfold JL;rw [List.any_reverse]
theorem Rx {t:AD} (d:GN t t.Nodes.length) {b:Int} (h:0<=b):∀ (n m:Nat) (a:Int),-1<=a->a<t.Nodes.length->a+1<n->a<m->G9 n t a b=some ((NC t m a).any fun x=>decide (b=x))
 | 0,_,_,_,_,_,_=>by omega
 | n+1,m,a,j,g,k,l=>by
  rw [G9];by_cases f:a<0
  ·rw [d2 (by simp; omega),d2 (by simp; omega)];cases m <;> simp [NC,f]
  ·cases m with
   | zero=>omega
   | succ m=>
    have i:=d a (by omega) g;rw [NC,d2 f,List.any_cons,d1 (show decide (0<=a)=true by simp; omega),AL (by omega) g];simp only [bs];rw [show (AB t.Nodes a).Parent=par t a from rfl,Rx d h n m (par t a) (by omega) (by omega) (by omega) (by omega)];by_cases c:a=b
    ·simp [c]
    ·have:¬ b=a:=fun e=>c e.symm;simp [c,this]
theorem eO {t:AD} (h:Hx t) {a b:Int} (e:0<=a) (c:a<t.Nodes.length) (d:0<=b):Kk t a b=some (JL t a b):=
 GJ (a+2).toNat fun n f=>Rx h.par d n (a+1).toNat a (by omega) c (by omega) (by omega)
def SL (t:AD) (e f g:Int):Bool:=
 decide ((BM t).2=0)&&(JK t f&&JK t g)&&(decide (0<=e)&&decide (e<t.Edges.length))&&(JL t f (AB t.Edges e).From&&JL t g (AB t.Edges e).To)
theorem gW {t:AD} (c:CC t) (e f g:Int):I7 t e f g=some (SL t e f g):=by
 unfold I7 SL;rw [TM c,bs,show [f,g].all (JK t)=(JK t f&&JK t g) by simp];by_cases h:(BM t).2=0
 ·simp only [h,ne_eq,not_true_eq_false,if_false];have a:=Ik h;cases hi:(JK t f&&JK t g)
  ·rfl
  ·rw [zzZ,Nf,Nf] at hi;by_cases b:0<=e∧e<t.Edges.length
   ·rw [d2 (by simp; omega),AL b.1 b.2];simp only [bs,ar a hi.1.1 hi.1.2,ar a hi.2.1 hi.2.2,b.1,b.2,decide_true,Bool.true_and];cases JL t f (AB t.Edges e).From <;> rfl
   ·rw [d1 (by simp; omega)];have:(decide (0<=e)&&decide (e<t.Edges.length))=false:=by rw [Bool.eq_false_iff]; simpa using b
    rw [this]; simp
 ·simp [h]
def MQ (n:Int) (x:Term):Bool:=(((decide ((-1)<=x.Var))&&(decide (x.Var<n)))&&(decide ((-1000000)<=x.Add)))&&(decide (x.Add<=1000000))
def LZ (n:Int) (x:Test):Int:=if ¬ x.Kind=1∧¬ x.Kind=2 then 1 else if (MQ n x.Left&&MQ n x.Right)=true then 0 else 6
def I5 (n:Int) (l:List Test):Int:=if n<0∨12<n then 6 else if 40<l.length then 3 else (fst (fun i=>nz (LZ n (AB l i))) 0 l.length).getD 0
theorem gm (n:Int) (x:Test):JV n x=some (LZ n x):=by
 unfold JV LZ;simp only [show ∀ n x,It n x=some (MQ n x) from fun _ _=>rfl,bs];generalize MQ n x.Left=b1;generalize MQ n x.Right=b2;cases b1 <;> cases b2
 all_goals
  simp only [bs,zzX,Bool.or_eq_true,zzZ,Bool.not_eq_true',decide_eq_false_iff_not,Bool.not_eq_false',Bool.or_eq_false_iff,Bool.and_eq_false_iff,ne_eq]
  repeat' (first | rfl | (exfalso; omega; done) | split)
  all_goals (first | rfl | (exfalso; omega) | omega | simp_all | (simp_all; omega))
theorem bB (n:Int) (x:Term):Jb n x=some (if MQ n x=true then 0 else 6):=by
 unfold Jb MQ;simp only [bs,zzX,Bool.or_eq_true,zzZ,Bool.not_eq_true',decide_eq_false_iff_not,Bool.not_eq_false',Bool.or_eq_false_iff,Bool.and_eq_false_iff,ne_eq]
 repeat' (first | rfl | (exfalso; omega; done) | split)
 all_goals (first | rfl | (exfalso; omega) | omega | simp_all | (simp_all; omega))
theorem g6 (n:Int) (x:Test):M8 n x=some (LZ n x):=by
 unfold M8 LZ;simp only [bB,bs];generalize MQ n x.Left=b1;generalize MQ n x.Right=b2;cases b1 <;> cases b2
 all_goals
  simp only [bs,zzX,Bool.or_eq_true,zzZ,Bool.not_eq_true',decide_eq_false_iff_not,Bool.not_eq_false',Bool.or_eq_false_iff,Bool.and_eq_false_iff,ne_eq]
  repeat' (first | rfl | (exfalso; omega; done) | split)
  all_goals (first | rfl | (exfalso; omega) | omega | simp_all | (simp_all; omega))
theorem eG (n:Int) (l:List Test):IS n l=some (I5 n l):=by
 unfold IS I5;rw [DI (fun i=>nz (LZ n (AB l i))),G7]
 ·simp only [bs,zzX,Bool.or_eq_true,zzZ,Bool.not_eq_true',decide_eq_false_iff_not,Bool.not_eq_false',Bool.or_eq_false_iff,Bool.and_eq_false_iff,ne_eq]
  repeat' (first | rfl | (exfalso; omega; done) | split)
  all_goals (first | rfl | (exfalso; omega) | omega | simp_all | (simp_all; omega))
 ·intro i a b _;rw [AL a b,bs,gm,bs,Oz]
theorem eV (n:Int) (l:List Test):LG n l=some (I5 n l):=by
 unfold LG I5;rw [DI (fun i=>nz (LZ n (AB l i))),G7]
 ·simp only [bs,zzX,Bool.or_eq_true,zzZ,Bool.not_eq_true',decide_eq_false_iff_not,Bool.not_eq_false',Bool.or_eq_false_iff,Bool.and_eq_false_iff,ne_eq]
  repeat' (first | rfl | (exfalso; omega; done) | split)
  all_goals (first | rfl | (exfalso; omega) | omega | simp_all | (simp_all; omega))
 ·intro i a b _;rw [AL a b,bs,g6,bs,Oz]
def OE (t:AD) (p:Pattern) (node ix:Int):Attr × Bool:=
 if node<0∨p.Graph.Nodes.length<=node then (default,false) else
 let l:=(Iq t (AB p.Graph.Nodes node)).1
 if ix<0∨l.length<=ix then (default,false) else (AB l ix,true)
theorem R9 {t:AD} (c:CC t) (a:Int):(Iq t a).1.length<=600∧((Iq t a).2≠0->(Iq t a).1=[]):=by
 unfold Iq;split
 ·simp
 ·rename_i h;have b:=Ik (t:=t) (by omega);split
  ·rename_i hi;exact ⟨L5 c (Int.le_refl _) b.par (Nf.1 hi).2,by simp⟩
  ·simp
theorem d8 {t:AD} (a:CC t) {p:Pattern} (c:KB p.Graph) (s:EG):GE t p s=some (OE t p s.Node s.Attr):=by
 have d:=c.nodes;unfold GE OE DU;dsimp only;rw [BD (by omega) (by omega),bs];by_cases h:s.Node<0∨p.Graph.Nodes.length<=s.Node
 ·rw [d1 (by simp; omega),d1 h]; rfl
 ·rw [d2 (by simp; omega),d2 h,AL (by omega) (by omega),bs,Wv a,bs];have e:=(R9 a (AB p.Graph.Nodes s.Node)).1;rw [BD (by omega) (by omega),bs];by_cases b:s.Attr<0∨(Iq t (AB p.Graph.Nodes s.Node)).1.length<=s.Attr
  ·rw [d1 (by simp; omega),d1 b]; rfl
  ·rw [d2 (by simp; omega),d2 b,AL (by omega) (by omega)]; rfl
theorem eM {t:AD} (c:CC t) {p:Pattern} (node a:Int):MK t p node a=some (OE t p node a):=by
 unfold MK OE;dsimp only;by_cases h:node<0∨p.Graph.Nodes.length<=node
 ·rw [d1 (by simp; omega),d1 h]; rfl
 ·rw [d2 (by simp; omega),d2 h,AL (by omega) (by omega),bs,eK c,bs];have e:=(R9 c (AB p.Graph.Nodes node)).2;by_cases b:a<0∨(Iq t (AB p.Graph.Nodes node)).1.length<=a
  ·rw [d1 (by simp; omega),d1 b]; rfl
  ·by_cases d:(Iq t (AB p.Graph.Nodes node)).2=0
   ·rw [d2 (by simp [d]; omega),d2 b,AL (by omega) (by omega)]; rfl
   ·rw [e d] at b; simp at b; omega
end Go.Sf.Sc
namespace Go.Sf
variable {σ ρ:Type}
def ia (s:σ) (o:Option ρ):C7 σ ρ:=match o with
 | none=>.next s
 | some r=>.ret r
def cq (s:σ) (o:Option ρ):σ ⊕ ρ:=match o with
 | none=>.inl s
 | some r=>.inr r
theorem U6 {f:Int->σ->Option (C7 σ ρ)} (g:Int->σ) (c:Int->Option ρ):∀ (n:Nat) (a:Int),
  (∀ i,a<=i->i<a+n->(∀ j,a<=j->j<i->c j=none)->f i (g i)=some (ia (g (i+1)) (c i)))->forGo f n a (g a)=some (cq (g (a+n)) (ES c n a))
 | 0,a,_=>by simp [forGo,ES,cq]
 | n+1,a,h=>by
  have l:=h a (Int.le_refl _) (by omega) (fun j b d=>by omega);rw [HN,l,ES];cases m:c a with
  | some r=>rfl
  | none=>
   simp only [ia];rw [show a+((n+1:Nat):Int)=a+1+n by omega];refine U6 g c n (a+1) (fun i b d e=>h i (by omega) (by omega) (fun j p k=>?_));by_cases o:j=a
   ·subst o; exact m
   ·exact e j (by omega) k
theorem RE {f:Int->σ->Option (C7 σ ρ)} (g:Int->σ) (c:Int->Option ρ) {a b:Int} {s:σ} (d:a<=b) (e:s=g a) (h:∀ i,a<=i->i<b->(∀ j,a<=j->j<i->c j=none)->f i (g i)=some (ia (g (i+1)) (c i))):forR f a b s=some (cq (g b) (fst c a b)):=by
 subst e;unfold forR fst;have:=U6 g c (b - a).toNat a (fun i k m l=>h i k (by omega) l)
 rwa [show a+((b - a).toNat:Int)=b by omega] at this
variable {α:Type}
theorem JJ {e:Int} {X:dD} {Y:Int} (h:e=0->X=some Y):(if (!decide (e=0))=true then some e else X)=some (if e≠0 then e else Y):=by
 by_cases a:e=0
 ·simp [a,h a]
 ·simp [a]
theorem NK {e:Int} {v:α} {X:Option α} {Y:α} (h:e=0->X=some Y):(if (!decide (e=0))=true then some v else X)=some (if e≠0 then v else Y):=by
 by_cases a:e=0
 ·simp [a,h a]
 ·simp [a]
theorem Ok {P:Prop} [Decidable P] {b:Bool} {v:α} {X:Option α} {Y:α} (c:b=true↔P) (h:¬ P->X=some Y):(if b=true then some v else X)=some (if P then v else Y):=by
 by_cases a:P
 ·rw [d1 (c.2 a),d1 a]
 ·rw [d2 (fun h=>a (c.1 h)),d2 a,h a]
theorem We {b:Bool} {v:α} {X:Option α} {Y:α} (h:b=true->X=some Y):(if (!b)=true then some v else X)=some (if b=false then v else Y):=by
 cases b
 ·rfl
 ·simpa using h rfl
theorem rp {b:Bool} {v:α} {X:Option α} {Y:α} (h:b=false->X=some Y):(if b=true then some v else X)=some (if b=true then v else Y):=by
 cases b
 ·simpa using h rfl
 ·rfl
end Go.Sf
namespace Go.Sf.Sc
open Go Go.Sf
def PE (t:AD) (p:Pattern) (s:EG):Bool:=!(OE t p s.Node s.Attr).2||decide (s.Term.Var < -1)||decide (p.Vars<=s.Term.Var)||(decide (s.Term.Add < -1000000)||decide (1000000<s.Term.Add))
def Kg (p:Pattern) (v:Int):Bool:=p.Slots.any fun s=>decide (s.Term.Var=v)
def Ja (t:AD) (p:Pattern):Int:=
 if (BM t).2≠0 then (BM t).2 else if CR p.Graph≠0 then CR p.Graph else if EU t p.Graph=false then 13 else
 if p.Vars<0∨12<p.Vars then 6 else if 10<p.Slots.length∨10<p.Tests.length then 3 else
 if (p.Slots.any (PE t p))=true then 6 else if I5 p.Vars p.Tests≠0 then I5 p.Vars p.Tests else
 if anyR (fun v=>!Kg p v) 0 p.Vars=true then 9 else 0
def Jz (p:Pattern) (i:Int):d0:=(List.range p.Vars.toNat).map fun (v:Nat)=>(p.Slots.take i.toNat).any fun s=>decide (s.Term.Var=(v:Int))
theorem YR {p:Pattern}:Jz p 0=List.replicate p.Vars.toNat false:=by
 unfold Jz;refine List.ext_getElem (by simp) (fun n a b=>by simp)
theorem Zv (p:Pattern) (i:Int):(Jz p i).length=p.Vars.toNat:=by simp [Jz]
theorem Zw {p:Pattern} {i:Int} (b:0<=i) (c:i<p.Slots.length) (hv:0<=(AB p.Slots i).Term.Var):CU (Jz p i) (AB p.Slots i).Term.Var true=Jz p (i+1):=by
 unfold CU;refine List.ext_getElem (by simp [Jz]) (fun n d e=>?_);simp only [Jz,List.getElem_set,List.getElem_map,List.getElem_range,F1 b c,List.any_append,List.any_cons,List.any_nil,Bool.or_false];by_cases a:(AB p.Slots i).Term.Var.toNat=n
 ·rw [d1 a,decide_eq_true (show (AB p.Slots i).Term.Var=(n:Int) by omega),Bool.or_true]
 ·rw [d2 a,decide_eq_false (show ¬ (AB p.Slots i).Term.Var=(n:Int) by omega),Bool.or_false]
theorem YQ {p:Pattern} {i:Int} (a:0<=i) (b:i<p.Slots.length) (hv:(AB p.Slots i).Term.Var<0):Jz p i=Jz p (i+1):=by
 refine List.ext_getElem (by simp [Jz]) (fun n c d=>?_);simp only [Jz,List.getElem_map,List.getElem_range,F1 a b,List.any_append,List.any_cons,List.any_nil,Bool.or_false];rw [decide_eq_false (show ¬ (AB p.Slots i).Term.Var=(n:Int) by omega),Bool.or_false]
theorem Zu (p:Pattern):((Jz p p.Slots.length).any fun x=>false==x)=anyR (fun v=>!Kg p v) 0 p.Vars:=by
 rw [Bool.eq_iff_iff,List.any_eq_true,H6];simp only [Jz,Int.toNat_natCast,List.take_length,List.mem_map,List.mem_range];constructor
 ·rintro ⟨x,⟨v,hv,rfl⟩,a⟩;refine ⟨v,by omega,by omega,?_⟩;unfold Kg;revert a;cases p.Slots.any fun s=>decide (s.Term.Var=(v:Int)) <;> simp
 ·rintro ⟨v,b,c,a⟩;refine ⟨_,⟨v.toNat,by omega,rfl⟩,?_⟩;rw [Int.toNat_of_nonneg b];unfold Kg at a;revert a;cases p.Slots.any fun s=>decide (s.Term.Var=v) <;> simp
theorem dc {α ρ:Type} [Inhabited α] {l:List α} {q:α->Bool} {v:ρ}:fst (fun i=>if q (AB l i)=true then some v else none) 0 l.length=if l.any q=true then some v else none:=by
 rw [ON,J4]
theorem Ue {t:AD} (r:CC t) (p:Pattern):ED t p=some (Ja t p):=by
 unfold ED Ja;rw [RK r,bs,Nh,bs];refine JJ fun x=>JJ fun u=>?_;have k:=FA u;have e:((BW p.Graph.Nodes (fun a=>H8 a t)).bind fun f=>
   (if f=true then some true else ((B8 p.Graph.Edges (fun a=>H9 a t)).bind fun g=>some (g))))=some (!EU t p.Graph):=by
  unfold EU;rw [show (fun a=>H8 a t)=(fun (n:Int)=>some (decide (t.Nodes.length<=n))) from rfl,Yk,show (fun a=>H9 a t)=(fun (e:DG)=>some (decide (t.Edges.length<=e.Type'))) from rfl,dQ];simp only [bs];cases p.Graph.Nodes.any fun n=>decide (t.Nodes.length<=n) <;> simp
 rw [←Option.bind_assoc,e,bs];refine We fun w=>?_;unfold DU;simp only [bs];refine Ok (by simp; try omega) fun hv=>Ok (by simp; try omega) fun y=>?_;unfold Ls;rw [d1 (by omega),bs,←YR,BD (show -9223372036854775808<=p.Vars - 1 by omega) (by omega),RE (Jz p) (fun i=>if PE t p (AB p.Slots i)=true then some 6 else none) (by omega) rfl,dc]
 ·cases b:p.Slots.any (PE t p)
  ·simp only [Bool.false_eq_true,if_false,cq,EI,eG,bs,dU,Zu];by_cases c:I5 p.Vars p.Tests=0
   ·simp only [c];cases anyR (fun v=>!Kg p v) 0 p.Vars <;> rfl
   ·simp [c]
  ·rfl
 ·intro i h j _;rw [AL h j,bs,d8 r k,bs];unfold PE;by_cases b:(OE t p (AB p.Slots i).Node (AB p.Slots i).Attr).2=true
  ·by_cases s:(AB p.Slots i).Term.Var < -1∨p.Vars<=(AB p.Slots i).Term.Var
   ·have l:(decide (-1<=(AB p.Slots i).Term.Var)&&decide ((AB p.Slots i).Term.Var<=p.Vars - 1))=false:=by rw [Bool.eq_false_iff]; simp; omega
    have m:(decide ((AB p.Slots i).Term.Var < -1)||decide (p.Vars<=(AB p.Slots i).Term.Var))=true:=by simp; omega
    rw [b,l,Bool.or_assoc (!true),m]; rfl
   ·have l:(decide (-1<=(AB p.Slots i).Term.Var)&&decide ((AB p.Slots i).Term.Var<=p.Vars - 1))=true:=by simp; omega
    have m:(decide ((AB p.Slots i).Term.Var < -1)||decide (p.Vars<=(AB p.Slots i).Term.Var))=false:=by rw [Bool.eq_false_iff]; simp; omega
    rw [b,l,Bool.or_assoc (!true),m];by_cases z:(AB p.Slots i).Term.Add < -1000000∨1000000<(AB p.Slots i).Term.Add
    ·have o:(decide (-1000000<=(AB p.Slots i).Term.Add)&&decide ((AB p.Slots i).Term.Add<=1000000))=false:=by rw [Bool.eq_false_iff]; simp; omega
     have q:(decide ((AB p.Slots i).Term.Add < -1000000)||decide (1000000<(AB p.Slots i).Term.Add))=true:=by simp; omega
     rw [o,q]; rfl
    ·have o:(decide (-1000000<=(AB p.Slots i).Term.Add)&&decide ((AB p.Slots i).Term.Add<=1000000))=true:=by simp; omega
     have q:(decide ((AB p.Slots i).Term.Add < -1000000)||decide (1000000<(AB p.Slots i).Term.Add))=false:=by rw [Bool.eq_false_iff]; simp; omega
     rw [o,q];by_cases d:0<=(AB p.Slots i).Term.Var
     ·simp only [Bool.not_true,Bool.false_eq_true,if_false,bs,d,decide_true,if_true,Bool.or_false];rw [AL d (by rw [Zv]; omega),bs,Zw h j d]; rfl
     ·simp only [Bool.not_true,Bool.false_eq_true,if_false,bs,d,decide_false,Bool.or_false];rw [YQ h j (by omega)]; rfl
  ·rw [Bool.not_eq_true] at b;rw [b]; rfl
theorem cZ (p:Pattern) (v:Int):Kn p v=some (Kg p v):=by
 unfold Kn Kg;rw [C4 (fun i=>decide ((AB p.Slots i).Term.Var=v)) true,J4]
 ·cases anyR (fun i=>decide ((AB p.Slots i).Term.Var=v)) 0 p.Slots.length <;> rfl
 ·intro i a b _;rw [AL a b,bs,Kc]
theorem cb {t:AD} (c:CC t) (p:Pattern):KG t p=some (Ja t p):=by
 unfold KG Ja;rw [TN c,bs,Nj,bs];refine JJ fun j=>JJ fun g=>?_;have b:=FA g;rw [TO b,bs];refine We fun h=>Ok (by simp; try omega) fun hv=>Ok (by simp; try omega) fun k=>?_;rw [C4 (fun i=>PE t p (AB p.Slots i)) 6,←J4]
 ·cases l:p.Slots.any (PE t p)
  ·simp only [Bool.false_eq_true,if_false,EI,eV,bs];by_cases a:I5 p.Vars p.Tests=0
   ·simp only [a];rw [C4 (fun v=>!Kg p v) 9]
    ·cases anyR (fun v=>!Kg p v) 0 p.Vars <;> rfl
    ·intro i d f _;rw [cZ,bs,Kc]
   ·simp [a]
  ·rfl
 ·intro i d f _;rw [AL d f,bs,eM c,bs];unfold PE LV;simp only [bs];have e:(!(decide (-1000000<=(AB p.Slots i).Term.Add)&&decide ((AB p.Slots i).Term.Add<=1000000)))=(decide ((AB p.Slots i).Term.Add < -1000000)||decide (1000000<(AB p.Slots i).Term.Add)):=by
   rw [Bool.not_and,←decide_not,←decide_not];congr 1 <;> rw [decide_eq_decide] <;> omega
  rw [e];cases (!(OE t p (AB p.Slots i).Node (AB p.Slots i).Attr).2||decide ((AB p.Slots i).Term.Var < -1)||decide (p.Vars<=(AB p.Slots i).Term.Var))
  ·simp only [Bool.false_eq_true,if_false,bs,Bool.false_or,Kc]
  ·rfl
end Go.Sf.Sc
namespace Go.Sf
theorem RY {l:Ne} {R:Int->Int->Prop} (h:l.Pairwise R) {i j:Int} (a:0<=i) (b:i<j) (c:j<l.length):R (AB l i) (AB l j):=by
 have:=(List.pairwise_iff_getElem.1 h) i.toNat j.toNat (by omega) (by omega) (by omega);unfold AB;rw [List.getD_eq_getElem?_getD,List.getD_eq_getElem?_getD,List.getElem?_eq_getElem (by omega),List.getElem?_eq_getElem (by omega)];exact this
theorem V8 {l:Ne} {R:Int->Int->Prop} (h:∀ i j:Int,0<=i->i<j->j<l.length->R (AB l i) (AB l j)):l.Pairwise R:=by
 refine List.pairwise_iff_getElem.2 (fun i j a b c=>?_);have:=h i j (by omega) (by omega) (by omega);unfold AB at this;rw [List.getD_eq_getElem?_getD,List.getD_eq_getElem?_getD,Int.toNat_natCast,Int.toNat_natCast,List.getElem?_eq_getElem a,List.getElem?_eq_getElem b] at this;exact this
end Go.Sf
namespace Go.Sf.Sc
open Go Go.Sf
def hasB (l:Ne) (v:Int):Bool:=l.any fun x=>decide (v=x)
theorem PV {l:Ne} {v:Int}:hasB l v=true↔v∈l:=by
 unfold hasB;rw [List.any_eq_true];simp
theorem Tr {c:Int->dD} {a b:Int} (e:∀ i,c i≠some 0) (h:(fst c a b).getD 0=0):∀ i,a<=i->i<b->c i=none:=by
 have:fst c a b=none:=by
  cases d:fst c a b with
  | none=>rfl
  | some r=>
   rw [d] at h;simp only [Option.getD] at h;subst h;obtain ⟨i,_,_,f,_⟩:=DJ d;exact (e i f).elim
 exact CZ.1 this
end Go.Sf.Sc
namespace Go.Sf.Sc
open Go Go.Sf
def J7 (a b:Graph) (m:Morphism) (i:Int):dD:=
 if AB m.Nodes i<0∨b.Nodes.length<=AB m.Nodes i then some 6 else if AB b.Nodes (AB m.Nodes i)≠AB a.Nodes i then some 13 else none
def GK (a b:Graph) (m:Morphism) (i:Int):dD:=
 if AB m.Edges i<0∨b.Edges.length<=AB m.Edges i then some 6 else
 if (AB a.Edges i).Type'≠(AB b.Edges (AB m.Edges i)).Type' then some 13 else
 if AB m.Nodes (AB a.Edges i).From≠(AB b.Edges (AB m.Edges i)).From∨AB m.Nodes (AB a.Edges i).To≠(AB b.Edges (AB m.Edges i)).To then some 11 else none
def Lf (a b:Graph) (m:Morphism):Int:=
 if CR a≠0 then CR a else if CR b≠0 then CR b else if m.Nodes.length≠a.Nodes.length∨m.Edges.length≠a.Edges.length then 20 else
 match fst (J7 a b m) 0 m.Nodes.length with
 | some e=>e
 | none=>(fst (GK a b m) 0 m.Edges.length).getD 0
structure cG (a b:Graph) (m:Morphism):Prop where
 ga:KB a
 gb:KB b
 nlen:m.Nodes.length=a.Nodes.length
 elen:m.Edges.length=a.Edges.length
 node:∀ i:Int,0<=i->i<m.Nodes.length->(0<=AB m.Nodes i∧AB m.Nodes i<b.Nodes.length)∧AB b.Nodes (AB m.Nodes i)=AB a.Nodes i
 edge:∀ i:Int,0<=i->i<m.Edges.length->(0<=AB m.Edges i∧AB m.Edges i<b.Edges.length)∧(AB a.Edges i).Type'=(AB b.Edges (AB m.Edges i)).Type' ∧
  AB m.Nodes (AB a.Edges i).From=(AB b.Edges (AB m.Edges i)).From∧AB m.Nodes (AB a.Edges i).To=(AB b.Edges (AB m.Edges i)).To
theorem cR {a b:Graph} {m:Morphism} (h:Lf a b m=0):cG a b m:=by
 unfold Lf at h;split at h
 ·omega
 split at h
 ·omega
 split at h
 ·cases h
 rename_i j l n;have e:fst (J7 a b m) 0 m.Nodes.length=none:=by
  split at h
  ·rename_i r f;obtain ⟨i,_,_,k,_⟩:=DJ f;subst h;unfold J7 at k;split at k
   ·cases k
   ·split at k <;> cases k
  ·assumption
 rw [e] at h;have g:=Tr (fun i=>by
  unfold GK;split
  ·simp
  ·split
   ·simp
   ·split <;> simp) h
 refine ⟨FA (by omega),FA (by omega),by omega,by omega,fun i c d=>?_,fun i c d=>?_⟩
 ·have:=CZ.1 e i c d;unfold J7 at this;split at this
  ·cases this
  ·split at this
   ·cases this
   ·rename_i x y;exact ⟨by omega,Classical.not_not.1 y⟩
 ·have:=g i c d;unfold GK at this;split at this
  ·cases this
  ·split at this
   ·cases this
   ·split at this
    ·cases this
    ·rename_i x y z;exact ⟨by omega,Classical.not_not.1 y,Classical.not_not.1 (fun h=>z (.inl h)),Classical.not_not.1 (fun h=>z (.inr h))⟩
theorem cT (a b:Graph) (m:Morphism):FB a b m=some (Lf a b m):=by
 unfold FB Lf;rw [Nh,bs,Nh,bs];refine JJ fun k=>JJ fun n=>Ok (by simp; try omega) fun q=>?_;have ga:=FA k;have gb:=FA n;rw [DI (J7 a b m),IG]
 ·cases o:fst (J7 a b m) 0 m.Nodes.length with
  | some e=>rfl
  | none=>
   have p:=CZ.1 o;dsimp only;rw [DI (GK a b m),G7];intro i f j _;unfold GK;rw [AL f j,bs];by_cases c:AB m.Edges i<0∨b.Edges.length<=AB m.Edges i
   ·rw [d1 (by simpa using c),d1 c]; rfl
   ·have r:=ga.fit _ (AW (l:=a.Edges) f (by omega));rw [d2 (by simpa using c),d2 c,AL f (by omega),bs,AL (by omega) (by omega),bs];by_cases d:(AB a.Edges i).Type'=(AB b.Edges (AB m.Edges i)).Type'
    ·rw [d2 (by simpa using d),d2 (by simpa using d),AL (by omega) (by omega),bs];by_cases g:AB m.Nodes (AB a.Edges i).From=(AB b.Edges (AB m.Edges i)).From
     ·rw [d2 (by simpa using g),AL (by omega) (by omega),bs,bs];by_cases h:AB m.Nodes (AB a.Edges i).To=(AB b.Edges (AB m.Edges i)).To
      ·rw [d2 (by simpa using h),d2 (by simp [g,h])]; rfl
      ·rw [d1 (by simpa using h),d1 (.inr h)]; rfl
     ·rw [d1 (by simpa using g),bs,d1 rfl,d1 (.inl g)]; rfl
    ·rw [d1 (by simpa using d),d1 d]; rfl
 ·intro i f j _;unfold J7;rw [AL f j,bs];by_cases c:AB m.Nodes i<0∨b.Nodes.length<=AB m.Nodes i
  ·rw [d1 (by simpa using c),d1 c]; rfl
  ·rw [d2 (by simpa using c),d2 c,AL (by omega) (by omega),bs,AL f (by omega),bs];by_cases d:AB b.Nodes (AB m.Nodes i)=AB a.Nodes i
   ·rw [d2 (by simpa using d),d2 (by simpa using d)]; rfl
   ·rw [d1 (by simpa using d),d1 d]; rfl
theorem VU {x y:Prop} [Decidable x] [Decidable y]:(if decide x=true then some true else some (decide y))=some (decide (x∨y)):=by
 by_cases a:x <;> simp [a]
theorem cX (a b:Graph) (m:Morphism):KE a b m=some (Lf a b m):=by
 unfold KE Lf;rw [Nj,bs,Nj,bs];refine JJ fun k=>JJ fun n=>Ok (by simp; try omega) fun q=>?_;have ga:=FA k;have gb:=FA n;rw [show (a.Nodes.length:Int)=m.Nodes.length by omega,show (a.Edges.length:Int)=m.Edges.length by omega,DI (J7 a b m),IG]
 ·cases o:fst (J7 a b m) 0 m.Nodes.length with
  | some e=>rfl
  | none=>
   have p:=CZ.1 o;dsimp only;rw [DI (GK a b m),G7];intro i f j _;unfold GK;rw [AL f j];simp only [bs,VU];by_cases c:AB m.Edges i<0∨b.Edges.length<=AB m.Edges i
   ·rw [d1 (by simpa using c),d1 c]; rfl
   ·have r:=ga.fit _ (AW (l:=a.Edges) f (by omega));rw [d2 (by simpa using c),d2 c,AL f (by omega),bs,AL (by omega) (by omega),bs];by_cases d:(AB a.Edges i).Type'=(AB b.Edges (AB m.Edges i)).Type'
    ·rw [d2 (by simpa using d),d2 (by simpa using d),AL (by omega) (by omega),bs];by_cases g:AB m.Nodes (AB a.Edges i).From=(AB b.Edges (AB m.Edges i)).From
     ·rw [d2 (by simpa using g),AL (by omega) (by omega),bs,bs];by_cases h:AB m.Nodes (AB a.Edges i).To=(AB b.Edges (AB m.Edges i)).To
      ·rw [d2 (by simpa using h),d2 (by simp [g,h])]; rfl
      ·rw [d1 (by simpa using h),d1 (.inr h)]; rfl
     ·rw [d1 (by simpa using g),bs,d1 rfl,d1 (.inl g)]; rfl
    ·rw [d1 (by simpa using d),d1 d]; rfl
 ·intro i f j _;unfold J7;rw [AL f j];simp only [bs,VU];by_cases c:AB m.Nodes i<0∨b.Nodes.length<=AB m.Nodes i
  ·rw [d1 (by simpa using c),d1 c]; rfl
  ·rw [d2 (by simpa using c),d2 c,AL (by omega) (by omega),bs,AL f (by omega),bs];by_cases d:AB b.Nodes (AB m.Nodes i)=AB a.Nodes i
   ·rw [d2 (by simpa using d),d2 (by simpa using d)]; rfl
   ·rw [d1 (by simpa using d),d1 d]; rfl
def Me (l:Ne):Bool:=!anyR (fun i=>anyR (fun j=>decide (AB l i=AB l j)) 0 i) 0 l.length
theorem Mf {l:Ne}:Me l=true↔l.Nodup:=by
 unfold Me;rw [Bool.not_eq_true',EK];constructor
 ·intro h;refine V8 (fun i j a b c=>?_);have:=h j (by omega) c;rw [EK] at this;have:=this i a b;rw [decide_eq_false_iff_not] at this;exact fun e=>this e.symm
 ·intro h i k d;rw [EK];intro j f g;rw [decide_eq_false_iff_not];exact fun e=>RY h f g d e.symm
theorem cW (l:Ne):IR l=some (Me l):=by
 unfold IR Me;rw [C4 (fun i=>anyR (fun j=>decide (AB l i=AB l j)) 0 i) false]
 ·cases anyR (fun i=>anyR (fun j=>decide (AB l i=AB l j)) 0 i) 0 l.length <;> rfl
 ·intro i a b _;rw [C4 (fun j=>decide (AB l i=AB l j)) false]
  ·cases anyR (fun j=>decide (AB l i=AB l j)) 0 i <;> rfl
  ·intro j c d _;rw [AL a b,bs,AL c (by omega),bs,Kc]
theorem VX {l:Ne} (b:l.length<=1000):∃ k,H3 l=some k∧decide (k=(l.length:Int))=Me l:=by
 have a:(OP l).length=l.length:=(Na l).length_eq;refine ⟨((Go.Lib.compact (OP l)).length:Int),?_,?_⟩
 ·unfold H3 slices_Clone_int slices_Sort_int slices_Compact_int;rw [JC (by unfold BY; omega),bs,d1 (by unfold BY; omega),bs,d1 (by rw [a]; unfold BY; omega),bs]
 ·rw [Bool.eq_iff_iff,Mf,zzX,←(Na l).nodup_iff,←P1 (Ny l),a];omega
def Lc (m:Morphism):Bool:=Me m.Nodes&&Me m.Edges
theorem oD {a b:Graph} {m:Morphism} (h:Lf a b m=0):EH a b m=some (Lc m):=by
 have ho:=cR h;have:=ho.ga.nodes;have:=ho.ga.edges;have:=ho.nlen;have:=ho.elen;obtain ⟨k,c,d⟩:=VX (l:=m.Nodes) (by omega);obtain ⟨j,e,f⟩:=VX (l:=m.Edges) (by omega);unfold EH Lc;rw [cT,h,bs,d1 (decide_eq_true rfl),c];simp only [bs,e,d,f];cases Me m.Nodes <;> rfl
theorem oH {a b:Graph} {m:Morphism} (h:Lf a b m=0):I3 a b m=some (Lc m):=by
 unfold I3 Lc;rw [cX,h,bs,d1 (decide_eq_true rfl),cW];simp only [bs,cW];cases Me m.Nodes <;> rfl
def Rm (t:AD) (g:Graph) (i:Int):Bool:=SL t (AB g.Edges i).Type' (AB g.Nodes (AB g.Edges i).From) (AB g.Nodes (AB g.Edges i).To)
end Go.Sf.Sc
namespace Go.Sf.Sc
open Go Go.Sf
structure O8 (p:Pattern):Prop where
 nodes:p.Graph.Nodes.length<=45
 edges:p.Graph.Edges.length<=90
 slots:p.Slots.length<=15
 tests:p.Tests.length<=15
structure Z8 (m:Morphism):Prop where
 nodes:m.Nodes.length<=140
 edges:m.Edges.length<=140
inductive EF:AA->Prop where
 | mk (c:AA) (hq:O8 c.Pattern) (hm:Z8 c.Map) (hk:∀ k∈c.Kids,EF k):EF c
theorem EF.q {c:AA} (h:EF c):O8 c.Pattern:=by cases h; assumption
theorem EF.m {c:AA} (h:EF c):Z8 c.Map:=by cases h; assumption
theorem EF.k {c:AA} (h:EF c):∀ k∈c.Kids,EF k:=by cases h; assumption
theorem FL {c k:AA} (h:k∈c.Kids):SizeOf.sizeOf k<SizeOf.sizeOf c:=by
 have:=List.sizeOf_lt_of_mem h;cases c;simp only [AA.mk.sizeOf_spec] at *;omega
theorem EQ (c:AA):0<SizeOf.sizeOf c:=by
 cases c;simp only [AA.mk.sizeOf_spec];omega
def NX (c:AA):Bool:=decide (c.Map.Nodes.length=0∧c.Map.Edges.length=0∧c.Pattern.Graph.Nodes.length=0∧c.Pattern.Graph.Edges.length=0∧c.Pattern.Slots.length=0∧c.Pattern.Tests.length=0∧c.Pattern.Vars=0)
theorem gX {c:AA} (b:EF c):GF c=some (NX c):=by
 have a:=b.q;have d:=b.m;have:=a.nodes;have:=a.edges;have:=a.slots;have:=a.tests;have:=d.nodes;have:=d.edges;unfold GF NX;rw [BD (n:=(c.Map.Nodes.length:Int)+c.Map.Edges.length) (by omega) (by omega),BD (n:=(c.Map.Nodes.length:Int)+c.Map.Edges.length+c.Pattern.Graph.Nodes.length) (by omega) (by omega),
  BD (n:=(c.Map.Nodes.length:Int)+c.Map.Edges.length+c.Pattern.Graph.Nodes.length+c.Pattern.Graph.Edges.length) (by omega) (by omega),
  BD (n:=(c.Map.Nodes.length:Int)+c.Map.Edges.length+c.Pattern.Graph.Nodes.length+c.Pattern.Graph.Edges.length+c.Pattern.Slots.length) (by omega) (by omega),
  BD (n:=(c.Map.Nodes.length:Int)+c.Map.Edges.length+c.Pattern.Graph.Nodes.length+c.Pattern.Graph.Edges.length+c.Pattern.Slots.length+c.Pattern.Tests.length) (by omega) (by omega)]
 congr 1;rw [Bool.eq_iff_iff];simp only [zzZ,zzX];omega
theorem bA {c:AA} (b:EF c):IW c=some (NX c):=by
 have a:=b.q;have d:=b.m;have:=a.nodes;have:=a.edges;have:=a.slots;have:=a.tests;have:=d.nodes;have:=d.edges;unfold IW NX;rw [BD (n:=(c.Map.Nodes.length:Int)+c.Map.Edges.length) (by omega) (by omega),BD (n:=(c.Map.Nodes.length:Int)+c.Map.Edges.length+c.Pattern.Graph.Nodes.length) (by omega) (by omega),
  BD (n:=(c.Map.Nodes.length:Int)+c.Map.Edges.length+c.Pattern.Graph.Nodes.length+c.Pattern.Graph.Edges.length) (by omega) (by omega),
  BD (n:=(c.Pattern.Slots.length:Int)+c.Pattern.Tests.length) (by omega) (by omega)]
 congr 1;rw [Bool.eq_iff_iff];simp only [zzZ,zzX];omega
def PW (c:AA):Bool:=
 if c.Kind=1 then decide (c.Kids.length=0)&&NX c else if c.Kind=2 then decide (c.Kids.length=1)&&NX c else
 if c.Kind=3∨c.Kind=4 then decide (1<=c.Kids.length)&&NX c else if c.Kind=5 then decide (c.Kids.length=1) else false
def O6:Nat->AA->Bool
 | 0,_=>false
 | n+1,c=>PW c&&c.Kids.all (O6 n)
theorem gu:∀ (N:Nat) (c:AA),SizeOf.sizeOf c<=N->EF c->∀ n,2*N<=n->BZ n c=some (O6 N c)
 | 0,c,h,_,_,_=>by have:=EQ c; omega
 | N+1,c,h,l,n,s=>by
  obtain ⟨n,rfl⟩:∃ m,n=m+2:=⟨n - 2,by omega⟩;rw [BZ,O6,gX l];have d:BX c.Kids (B5 (n+1))=some (!c.Kids.all (O6 N)):=by
   rw [Ur (p:=fun k=>!O6 N k) (fun k d=>by
    have:=FL d;rw [B5,gu N k (by omega) (l.k k d) n (by omega)]; rfl),List.all_eq_not_any_not,Bool.not_not]
  rw [d];unfold PW;simp only [bs,zzX];generalize NX c=b;generalize c.Kids.all (O6 N)=w;have o:decide ((c.Kids.length:Int)=0)=decide (c.Kids.length=0):=by rw [decide_eq_decide]; omega
  have q:decide ((c.Kids.length:Int)=1)=decide (c.Kids.length=1):=by rw [decide_eq_decide]; omega
  have r:decide (1<=(c.Kids.length:Int))=decide (1<=c.Kids.length):=by rw [decide_eq_decide]; omega
  simp only [show ((c.Kids.length:Int)=0)↔c.Kids.length=0 by omega,show ((c.Kids.length:Int)=1)↔c.Kids.length=1 by omega,show (1<=(c.Kids.length:Int))↔1<=c.Kids.length by omega];by_cases e:c.Kind=1
  ·rw [d1 e,d1 e];by_cases a:c.Kids.length=0 <;> cases b <;> cases w <;> simp [a]
  ·rw [d2 e,d2 e];by_cases f:c.Kind=2
   ·rw [d1 f,d1 f];by_cases a:c.Kids.length=1 <;> cases b <;> cases w <;> simp [a]
   ·rw [d2 f,d2 f];by_cases i:c.Kind=3
    ·simp only [i,if_true,true_or];by_cases a:1<=c.Kids.length <;> cases b <;> cases w <;> simp [a]
    ·by_cases j:c.Kind=4
     ·simp only [j,if_true,or_true,show ¬ (4:Int)=3 by decide,if_false];by_cases a:1<=c.Kids.length <;> cases b <;> cases w <;> simp [a]
     ·simp only [i,j,if_false,or_false];by_cases g:c.Kind=5
      ·rw [d1 g,d1 g];by_cases a:c.Kids.length=1 <;> cases w <;> simp [a]
      ·rw [d2 g,d2 g];cases w <;> rfl
theorem gz {c:AA} (i:EF c):LQ c=some (PW c):=by
 unfold LQ PW;rw [bA i];simp only [bs,zzX];generalize NX c=b;simp only [show ((c.Kids.length:Int)=0)↔c.Kids.length=0 by omega,show ((c.Kids.length:Int)=1)↔c.Kids.length=1 by omega,show (0<(c.Kids.length:Int))↔1<=c.Kids.length by omega];by_cases d:c.Kind=1
 ·rw [d1 d,d1 d];by_cases a:c.Kids.length=0 <;> cases b <;> simp [a]
 ·rw [d2 d,d2 d];by_cases e:c.Kind=2
  ·rw [d1 e,d1 e];by_cases a:c.Kids.length=1 <;> cases b <;> simp [a]
  ·rw [d2 e,d2 e];by_cases g:c.Kind=3
   ·simp only [g,if_true,true_or,decide_true,bs];by_cases a:1<=c.Kids.length <;> cases b <;> simp [a]
   ·by_cases h:c.Kind=4
    ·simp only [h,if_true,or_true,show ¬ (4:Int)=3 by decide,if_false,decide_true,bs];by_cases a:1<=c.Kids.length <;> cases b <;> simp [a]
    ·simp only [g,h,if_false,or_false,decide_false,bs,Bool.false_eq_true];by_cases f:c.Kind=5
     ·rw [d1 f,d1 f]
     ·rw [d2 f,d2 f]
theorem ft {α:Type} [Inhabited α] {l:List α} {p:α->Bool}:l.all p=!anyR (fun i=>!p (AB l i)) 0 l.length:=by
 rw [List.all_eq_not_any_not,J4]
theorem cV:∀ (N:Nat) (c:AA),SizeOf.sizeOf c<=N->EF c->∀ n,N<=n->FW n c=some (O6 N c)
 | 0,c,h,_,_,_=>by have:=EQ c; omega
 | N+1,c,h,e,n,f=>by
  obtain ⟨n,rfl⟩:∃ m,n=m+1:=⟨n - 1,by omega⟩;rw [FW,O6,gz e,bs,ft,C4 (fun i=>!O6 N (AB c.Kids i)) false]
  ·cases PW c
   ·rfl
   ·cases anyR (fun i=>!O6 N (AB c.Kids i)) 0 c.Kids.length <;> rfl
  ·intro i a b _;have d:=AW (l:=c.Kids) a b;have:=FL d;rw [AL a b,bs,cV N _ (by omega) (e.k _ d) n (by omega),bs,Kc]
noncomputable def Z2 (c:AA):Bool:=O6 (SizeOf.sizeOf c) c
theorem oF {c:AA} (a:EF c):GZ c=some (Z2 c):=GJ (2*SizeOf.sizeOf c) fun n b=>gu _ c (d3 _) a n b
theorem oL {c:AA} (a:EF c):Mm c=some (Z2 c):=GJ (SizeOf.sizeOf c) fun n b=>cV _ c (d3 _) a n b
def Jt:Nat->AA->Int × Int
 | 0,_=>(0,0)
 | n+1,c=>
  let s:=c.Kids.foldl (fun s k=>(A6 (s.1+(Jt n k).1),max s.2 (Jt n k).2)) ((1,0):Int × Int)
  (s.1,if c.Kind=5 then A6 (s.2+1) else s.2)
theorem T4 {α σ:Type} [Inhabited α] {l:List α} {g:σ->α->σ} {s:σ} {f:Int->σ->Option σ} (h:∀ (i:Int) s,0<=i->i<l.length->f i s=some (g s (AB l i))):forA f 0 l.length s=some (l.foldl g s):=by
 rw [EY (fun i=>(l.take i.toNat).foldl g s) (by omega) (by simp)]
 ·rw [Int.toNat_natCast,List.take_length]
 ·intro i a b;rw [h i _ a b,F1 a b,List.foldl_append]; rfl
theorem ZA:∀ (N:Nat) (c:AA),SizeOf.sizeOf c<=N->∀ n,N<=n->DB n c=some (Jt N c)
 | 0,c,h,_,_=>by have:=EQ c; omega
 | N+1,c,h,n,e=>by
  obtain ⟨n,rfl⟩:∃ m,n=m+1:=⟨n - 1,by omega⟩;rw [DB,Jt,T4 (g:=fun s k=>(A6 (s.1+(Jt N k).1),max s.2 (Jt N k).2))]
  ·simp only [bs,zzX];by_cases a:c.Kind=5
   ·rw [d1 a,d1 a]; rfl
   ·rw [d2 a,d2 a]; rfl
  ·intro i s b d;have:=FL (AW (l:=c.Kids) b d);rw [AL b d,bs,ZA N _ (by omega) n (by omega)]; rfl
theorem ZL:∀ (N:Nat) (c:AA),SizeOf.sizeOf c<=N->∀ n,N<=n->GL n c=some (Jt N c)
 | 0,c,h,_,_=>by have:=EQ c; omega
 | N+1,c,h,n,e=>by
  obtain ⟨n,rfl⟩:∃ m,n=m+1:=⟨n - 1,by omega⟩;rw [GL,Jt,T4 (g:=fun s k=>(A6 (s.1+(Jt N k).1),max s.2 (Jt N k).2))]
  ·simp only [bs,zzX];by_cases a:c.Kind=5
   ·rw [d1 a,d1 a]; rfl
   ·rw [d2 a,d2 a]; rfl
  ·intro i s b d;have:=FL (AW (l:=c.Kids) b d);rw [AL b d,bs,ZL N _ (by omega) n (by omega)]; rfl
noncomputable def Pb (c:AA):Int × Int:=Jt (SizeOf.sizeOf c) c
noncomputable def Ko (c:AA):Int:=if Z2 c=false then 1 else if 12<(Pb c).1∨3<(Pb c).2 then 3 else 0
theorem eE {c:AA} (a:EF c):FT c=some (Ko c):=by
 unfold FT Ko;rw [oF a,bs,show IA c=some (Pb c) from GJ (SizeOf.sizeOf c) fun n b=>ZA _ c (d3 _) n b,bs];exact We fun _=>Ok (by simp) fun _=>rfl
theorem eU {c:AA} (a:EF c):LN c=some (Ko c):=by
 unfold LN Ko;rw [oL a,bs,show NT c=some (Pb c) from GJ (SizeOf.sizeOf c) fun n b=>ZL _ c (d3 _) n b,bs];exact We fun _=>Ok (by simp) fun _=>rfl
theorem ST (g:Graph):CR g≠9:=by
 unfold CR;split
 ·decide
 ·split
  ·decide
  ·split <;> decide
theorem Pl {t:AD} {p:Pattern} (a:(BM t).2=0) (h:Ja t p=0∨Ja t p=9):0<=p.Vars∧p.Vars<=12:=by
 have b:=ST p.Graph;unfold Ja at h;rw [d2 (by simp [a])] at h;split at h
 ·omega
 ·split at h
  ·omega
  ·split at h
   ·omega
   ·omega
def Ld (t:AD) (q:Pattern) (v:Int):Int:=if Ja t q≠9 then Ja t q else if anyR (fun i=>!Kg q i) v q.Vars=true then 9 else 0
theorem pR {α:Type} {P:Prop} [Decidable P] {v:α} {X:Option α} {Y:α} (h:P->X=some Y):(if (!decide P)=true then some v else X)=some (if ¬ P then v else Y):=by
 by_cases a:P
 ·simp [a,h a]
 ·simp [a]
theorem oE {t:AD} (e:CC t) (f:(BM t).2=0) {q:Pattern} {v:Int} (k:0<=v) (g:v<=q.Vars):EP t q v=some (Ld t q v):=by
 unfold EP Ld;rw [Ue e,bs];refine pR fun d=>?_;have hv:=Pl f (.inr d);rw [O7 (c:=fun i=>(if (!Kg q i)=true then some () else none).map fun _=>.inr 9) (a:=v) (b:=q.Vars) g]
 ·rw [Ow,ON];cases anyR (fun i=>!Kg q i) v q.Vars <;> rfl
 ·intro i l j _;rw [d1 (by simpa using j),show (fun h=>Ib h i)=(fun y=>some (decide (y.Term.Var=i))) from rfl,dR,bs,show (q.Slots.any fun y=>decide (y.Term.Var=i))=Kg q i from rfl,d,BD (by omega) (by omega)];cases Kg q i <;> rfl
 ·rw [d2 (by simp)]
theorem eT (p:Pattern) (v:Int):ML p v=some (Kg p v):=cZ p v
theorem oI {t:AD} (a:CC t) (q:Pattern) (v:Int):LP t v q=some (if q.Vars<v then 20 else Ld t q v):=by
 unfold LP Ld;refine Ok (by simp) fun _=>?_;rw [cb a,bs];refine pR fun b=>?_;rw [b,C4 (fun i=>!Kg q i) 9]
 ·cases anyR (fun i=>!Kg q i) v q.Vars <;> rfl
 ·intro i c d _;rw [eT,bs,Kc]
def GO:Nat->AD->Pattern->AA->Int
 | 0,_,_,_=>0
 | N+1,t,p,c=>
  if c.Kind=5 then
   if c.Pattern.Vars<p.Vars then 20 else if Ld t c.Pattern p.Vars≠0 then Ld t c.Pattern p.Vars else
   if Lf p.Graph c.Pattern.Graph c.Map≠0 then Lf p.Graph c.Pattern.Graph c.Map else if Lc c.Map=false then 1 else
   (fst (fun i=>nz (GO N t c.Pattern (AB c.Kids i))) 0 c.Kids.length).getD 0
  else (fst (fun i=>nz (GO N t p (AB c.Kids i))) 0 c.Kids.length).getD 0
theorem aT {t:AD} (a:(BM t).2=0) {q:Pattern} {v:Int} (h:Ld t q v=0):0<=q.Vars:=by
 unfold Ld at h;split at h
 ·exact (Pl a (.inl h)).1
 ·rename_i b;exact (Pl a (.inr (Classical.not_not.1 b))).1
theorem ZC {t:AD} (g:CC t) (e:(BM t).2=0):∀ (N:Nat) (c:AA) (p:Pattern),0<=p.Vars->SizeOf.sizeOf c<=N->∀ n,N<=n->CT n t p c=some (GO N t p c)
 | 0,c,p,_,h,_,_=>by have:=EQ c; omega
 | N+1,c,p,o,h,n,w=>by
  obtain ⟨n,rfl⟩:∃ m,n=m+1:=⟨n - 1,by omega⟩;rw [CT,GO];have a:∀ q:Pattern,0<=q.Vars->(thenR (forR (ρ:=Int) (fun (r:Int) (_:Unit)=>
    (AK c.Kids r).bind fun f=>
    (CT n t q f).bind fun b=>
    if (!decide (b=0))=true then
    some (.ret b)
    else
    some (.next ())) 0 (c.Kids.length:Int) ()) (fun _=>
    some 0) (fun s=>some s))=some ((fst (fun i=>nz (GO N t q (AB c.Kids i))) 0 c.Kids.length).getD 0):=by
   intro q v;rw [DI (fun i=>nz (GO N t q (AB c.Kids i))),G7];intro i j k _;have:=FL (AW (l:=c.Kids) j k);rw [AL j k,bs,ZC g e N _ q v (by omega) n (by omega),bs,Oz]
  by_cases d:c.Kind=5
  ·rw [d1 (by simpa using d),d1 d];refine Ok (by simp) fun hv=>?_;rw [oE g e o (by omega),bs];refine JJ fun hi=>?_;rw [cT,bs];refine JJ fun u=>?_;rw [oD u,bs];exact We fun _=>a _ (aT e hi)
  ·rw [d2 (by simpa using d),d2 d];exact a p o
theorem ZM {t:AD} (f:CC t):∀ (N:Nat) (c:AA) (p:Pattern),SizeOf.sizeOf c<=N->∀ n,N<=n->GT n t p c=some (GO N t p c)
 | 0,c,p,h,_,_=>by have:=EQ c; omega
 | N+1,c,p,h,n,s=>by
  obtain ⟨n,rfl⟩:∃ m,n=m+1:=⟨n - 1,by omega⟩;rw [GT,GO];have a:∀ q:Pattern,(thenR (forR (ρ:=Int) (fun (k:Int) (_:Unit)=>
    (AK c.Kids k).bind fun e=>
    (GT n t q e).bind fun b=>
    if (!decide (b=0))=true then
    some (.ret b)
    else
    some (.next ())) 0 (c.Kids.length:Int) ()) (fun _=>
    some 0) (fun o=>some o))=some ((fst (fun i=>nz (GO N t q (AB c.Kids i))) 0 c.Kids.length).getD 0):=by
   intro q;rw [DI (fun i=>nz (GO N t q (AB c.Kids i))),G7];intro i g j _;have:=FL (AW (l:=c.Kids) g j);rw [AL g j,bs,ZM f N _ q (by omega) n (by omega),bs,Oz]
  by_cases d:c.Kind=5
  ·rw [d1 (by simpa using d),d1 d,oI f,bs];by_cases hv:c.Pattern.Vars<p.Vars
   ·simp [hv]
   ·simp only [d2 hv];refine JJ fun hi=>?_;rw [cX,bs];refine JJ fun r=>?_;rw [oH r,bs];exact We fun _=>a _
  ·rw [d2 (by simpa using d),d2 d];exact a p
noncomputable def HK (t:AD) (p:Pattern) (c:AA):Int:=if Ja t p≠0 then Ja t p else if Ko c≠0 then Ko c else GO (SizeOf.sizeOf c) t p c
theorem gY {t:AD} (a:CC t) (b:(BM t).2=0) (p:Pattern) {c:AA} (d:EF c):EE t p c=some (HK t p c):=by
 unfold EE HK;rw [Ue a,bs];refine JJ fun h=>?_;rw [eE d,bs,Option.bind_fun_some];exact JJ fun _=>GJ (SizeOf.sizeOf c) fun n e=>ZC a b _ c p (Pl b (.inl h)).1 (d3 _) n e
theorem ZJ {t:AD} (a:CC t) (p:Pattern) {c:AA} (b:EF c):LO t p c=some (HK t p c):=by
 unfold LO HK;rw [cb a,bs];refine JJ fun h=>?_;rw [eU b,bs,Option.bind_fun_some];exact JJ fun _=>GJ (SizeOf.sizeOf c) fun n d=>ZM a _ c p (d3 _) n d
end Go.Sf.Sc
namespace Go.Sf.Sc
open Go Go.Sf
def leafB (t:AD) (l:Ne):Bool:=!(l.any fun k=>t.Nodes.any fun n=>decide (n.Parent=k))
end Go.Sf.Sc
namespace Go.Sf
theorem RO {ρ:Type} {f:Int->Option (C7 Int ρ)} (p:Int->Bool) (v:ρ) {a b:Int} (d:a<=b) (h:∀ i,a<=i->i<b->f i=some (if p i=true then .ret v else .next (i+1))) (e:f b=some (.brk b)):If f a=some (if anyR p a b=true then .inr v else .inl b):=by
 rw [O7 (c:=fun i=>(if p i=true then some () else none).map fun _=>.inr v) d]
 ·rw [Ow,ON];cases anyR p a b <;> rfl
 ·intro i g j _;rw [h i g j];cases p i <;> rfl
 ·exact e
theorem Ng {α:Type} {e:α->TV} {n:Nat} {l:List α} (h:TV.Sm (.list n (l.map e))):(l.length:Int)<=140737488351232∧∀ x∈l,(e x).Sm:=by
 simp only [TV.Sm,d7] at h;refine ⟨by have:=h.1; unfold reachBytes at this; omega,fun x a=>O2.1 h.2 _ (List.mem_map.2 ⟨x,a,rfl⟩)⟩
end Go.Sf
namespace Go.Sf.Sc
open Go Go.Sf
def Up (a:Attr):Bool:=(decide (40<(a.Name.size:Int))||decide (25<(a.Names.length:Int)))||anyR (fun i=>decide (40<((AB a.Names i).size:Int))) 0 a.Names.length
theorem aG {a:Attr} (h:Up a=false):QY a:=by
 unfold Up at h;simp only [Bool.or_eq_false_iff,decide_eq_false_iff_not,EK] at h;refine ⟨by omega,by omega,fun x b=>?_⟩;obtain ⟨i,c,d,rfl⟩:=EB b;have:=h.2 i c d;omega
theorem Th {t:AD} (Q:(At t).Sm):∃ b,Lw t=some b∧(b=true->CC t):=by
 have G:TV.Sms [_,_]:=Q;obtain ⟨o,K⟩:=Ng (e:=FV) G.1;unfold Lw;by_cases hl:20<t.Nodes.length∨30<t.Edges.length
 ·rw [d1 (by simp; omega)];exact ⟨false,rfl,fun h=>by cases h⟩
 rw [d2 (by simp; omega)];rcases U7 (f:=(fun (w:Int) (N:Int)=>
 (AK t.Nodes w).bind fun u=>
 (if (decide (30<(A6 (N+(u.Attrs.length:Int)))))=true then some true else ((AK t.Nodes w).bind fun B=>
 some (decide (40<(B.Name.size:Int))))).bind fun C=>
 if C=true then
 some (C7.ret false)
 else
 thenR (If (ρ:=Bool) (fun (p:Int)=>
 (AK t.Nodes w).bind fun D=>
 if (decide (p<(D.Attrs.length:Int)))=true then
 (AK t.Nodes w).bind fun E=>
 (AK E.Attrs p).bind fun m=>
 if ((decide (40<(m.Name.size:Int)))||(decide (25<(m.Names.length:Int))))=true then
 some (.ret false)
 else
 thenR (If (ρ:=Bool) (fun (q:Int)=>
 if (decide (q<(m.Names.length:Int)))=true then
 (AK m.Names q).bind fun F=>
 if (decide (40<(F.size:Int)))=true then
 some (.ret false)
 else
 some (.next (A6 (q+1)))
 else
 some (.brk q)) 0) (fun q=>
 some (.next (A6 (p+1)))) (fun R=>some (.ret R))
 else
 some (.brk p)) 0) (fun p=>
 some (.next (A6 (N+(u.Attrs.length:Int))))) (fun S=>some (.ret S))))
  (fun i s=>0<=s∧s<=30∧∀ j,0<=j->j<i->((AB t.Nodes j).Name.size:Int)<=40∧(AB t.Nodes j).Attrs.length<=30∧∀ a∈(AB t.Nodes j).Attrs,QY a) (fun _=>False) (fun r=>r=false) (a:=0) (b:=t.Nodes.length) (s:=0) (by omega) ⟨by omega,by omega,fun j v g=>by omega⟩ (fun i s x y T=>by
   have V:=K _ (AW (l:=t.Nodes) x y);have H:TV.Sms [_,_,_,_]:=V;obtain ⟨O,L⟩:=Ng (e:=IB) H.2.2.2.1;obtain ⟨Z,hI2,M⟩:=T;have W:A6 (s+(AB t.Nodes i).Attrs.length)=s+(AB t.Nodes i).Attrs.length:=BD (by omega) (by omega);simp only [AL x y,bs,W,VU];by_cases P:30<s+(AB t.Nodes i).Attrs.length∨40<((AB t.Nodes i).Name.size:Int)
   ·rw [d1 (by simpa using P)];exact .inr (.inr ⟨_,rfl,rfl⟩)
   rw [d2 (by simpa using P)];rw [RO (fun j=>Up (AB (AB t.Nodes i).Attrs j)) false (b:=(AB t.Nodes i).Attrs.length) (by omega)]
   ·cases I:anyR (fun j=>Up (AB (AB t.Nodes i).Attrs j)) 0 (AB t.Nodes i).Attrs.length
    ·refine .inl ⟨_,rfl,by omega,by omega,fun j z A=>?_⟩;by_cases X:j=i
     ·subst X;refine ⟨by omega,by omega,fun a O=>?_⟩;obtain ⟨k,d,c,rfl⟩:=EB O;exact aG (EK.1 I k d c)
     ·exact M j z (by omega)
    ·exact .inr (.inr ⟨_,rfl,rfl⟩)
   ·intro j z A;rw [d1 (by simpa using A),AL z A,bs];have Y:=L _ (AW (l:=(AB t.Nodes i).Attrs) z A);have J:TV.Sms [_,_,_,_]:=Y;obtain ⟨hm,_⟩:=Ng (e:=eS) J.2.2.2.1;unfold Up;cases v:(decide (40<((AB (AB t.Nodes i).Attrs j).Name.size:Int))||decide (25<((AB (AB t.Nodes i).Attrs j).Names.length:Int)))
    ·rw [d2 (by decide),RO (fun k=>decide (40<((AB (AB (AB t.Nodes i).Attrs j).Names k).size:Int))) false (b:=(AB (AB t.Nodes i).Attrs j).Names.length) (by omega)]
     ·cases anyR (fun k=>decide (40<((AB (AB (AB t.Nodes i).Attrs j).Names k).size:Int))) 0 (AB (AB t.Nodes i).Attrs j).Names.length
      ·rw [Bool.or_false,BD (show -9223372036854775808<=j+1 by omega) (by omega)]; rfl
      ·rfl
     ·intro k d c;rw [d1 (by simpa using c),AL d c,bs,BD (show -9223372036854775808<=k+1 by omega) (by omega),Kc]
     ·rw [d2 (by simp)]
    ·rfl
   ·rw [d2 (by simp)]) with ⟨s',v,g⟩ | ⟨r,v,g⟩
 ·rw [v];rcases g with g | g
  ·rw [EI,C4 (fun i=>decide (40<((AB t.Edges i).Name.size:Int))) false]
   ·cases I:anyR (fun i=>decide (40<((AB t.Edges i).Name.size:Int))) 0 t.Edges.length
    ·refine ⟨true,rfl,fun _=>⟨by omega,by omega,fun n o=>?_,fun n o=>?_,fun n o=>?_,fun e U=>?_⟩⟩
     ·obtain ⟨k,d,c,rfl⟩:=EB o;exact (g.2.2 k d c).1
     ·obtain ⟨k,d,c,rfl⟩:=EB o;exact (g.2.2 k d c).2.1
     ·obtain ⟨k,d,c,rfl⟩:=EB o;exact (g.2.2 k d c).2.2
     ·obtain ⟨k,d,c,rfl⟩:=EB U;have:=EK.1 I k d c;simpa using this
    ·exact ⟨false,rfl,fun h=>by cases h⟩
   ·intro i x y _;rw [AL x y,bs,Kc]
  ·exact g.elim
 ·rw [v];subst g;exact ⟨false,rfl,fun h=>by cases h⟩
theorem TD (p:Pattern):∃ b,Ly p=some b∧(b=true->O8 p):=by
 refine ⟨_,rfl,fun h=>?_⟩;simp only [zzZ,zzX] at h;exact ⟨by omega,by omega,by omega,by omega⟩
theorem da {a b:Int} (e:0<=a) (c:a<=140737488351232) (f:0<=b) (d:b<=140737488351232):A6 (a+b)=a+b:=BD (by omega) (by omega)
theorem dZ {m:Morphism} (c:(CD m).Sm):∃ b,OY m 140=some b∧(b=true->Z8 m):=by
 have a:TV.Sms [_,_]:=c;have d:=(Ng (e:=eI) a.1).1;have f:=(Ng (e:=eI) a.2.1).1;refine ⟨_,rfl,fun h=>?_⟩;rw [da (by omega) d (by omega) f] at h;simp only [zzX] at h;exact ⟨by omega,by omega⟩
theorem dT {c:AA} (h:(AF c).Sm):(CD c.Map).Sm∧(c.Kids.length:Int)<=140737488351232∧∀ k∈c.Kids,(AF k).Sm:=by
 have b:TV.Sms [_,_,_,_,_,_,_,_,_]:=h;obtain ⟨_,a,d,e,_⟩:=b;rw [KN] at a;obtain ⟨f,g⟩:=Ng a;exact ⟨⟨d,e,trivial⟩,f,g⟩
end Go.Sf.Sc
