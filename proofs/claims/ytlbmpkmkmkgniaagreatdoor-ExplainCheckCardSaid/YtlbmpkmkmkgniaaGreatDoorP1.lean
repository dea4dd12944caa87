/- Plain lemmas: what the functions of the program and of the reference compute. -/
import Derived.Test.YtlbmpkmkmkgniaaGreatDoorSfRead
import Derived.Test.YtlbmpkmkmkgniaaGreatDoorFns
import Derived.Test.YtlbmpkmkmkgniaaGreatDoorSfPl
set_option linter.all false
set_option maxRecDepth 100000
namespace Go.Sf
theorem VE {ρ τ:Type} {d:Int->Option ρ} {g:ρ->τ}:∀ (n:Nat) (a:Int),HC (fun i=>(d i).map g) n a=(HC d n a).map g
 | 0,_=>rfl
 | n+1,a=>by
  rw [HC,HC];cases d a with
  | some r=>rfl
  | none=>exact VE n (a+1)
theorem Od {ρ τ:Type} {d:Int->Option ρ} {g:ρ->τ} {a b:Int}:fst (fun i=>(d i).map g) a b=(fst d a b).map g:=VE _ _
theorem Tv {ρ:Type} {d:Int->Option ρ} {r:ρ}:∀ {n:Nat} {a:Int},HC d n a=some r->∃ i,a<=i∧i<a+n∧d i=some r∧∀ j,a<=j->j<i->d j=none
 | 0,_,h=>by cases h
 | n+1,a,h=>by
  rw [HC] at h;cases b:d a with
  | some o=>
   rw [b] at h;exact ⟨a,Int.le_refl _,by omega,by rw [b]; exact h,fun j c e=>by omega⟩
  | none=>
   rw [b] at h;obtain ⟨i,c,e,k,l⟩:=Tv h;refine ⟨i,by omega,by omega,k,fun j m f=>?_⟩;by_cases g:j=a
   ·subst g; exact b
   ·exact l j (by omega) f
theorem DZ {ρ:Type} {d:Int->Option ρ} {r:ρ} {a b:Int} (h:fst d a b=some r):∃ i,a<=i∧i<b∧d i=some r∧∀ j,a<=j->j<i->d j=none:=by
 obtain ⟨i,c,g,e,f⟩:=Tv h;exact ⟨i,c,by omega,e,f⟩
def Ll (p:Int->Bool) (s:ByteArray):Int:=(fst (fun i=>if p (bt s i) then none else some i) 0 s.size).getD s.size
theorem Rt (p:Int->Bool) (s:ByteArray):0<=Ll p s∧Ll p s<=s.size∧(∀ j,0<=j->j<Ll p s->p (bt s j)=true)∧(Ll p s<s.size->p (bt s (Ll p s))=false):=by
 unfold Ll;cases h:fst (fun i=>if p (bt s i) then none else some i) 0 s.size with
 | none=>
  rw [D9] at h;simp only [Option.getD];refine ⟨by omega,by omega,fun j b c=>?_,fun b=>by omega⟩;have:=h j b c;cases a:p (bt s j)
  ·simp [a] at this
  ·rfl
 | some r=>
  obtain ⟨i,b,c,d,g⟩:=DZ h;have hi:p (bt s i)=false∧i=r:=by
   cases a:p (bt s i) <;> simp [a] at d;exact ⟨rfl,d⟩
  obtain ⟨hi,rfl⟩:=hi;simp only [Option.getD];refine ⟨b,by omega,fun j e f=>?_,fun _=>hi⟩;have:=g j e f;cases a:p (bt s j)
  ·simp [a] at this
  ·rfl
theorem XL {s:ByteArray} (h:s≠⟨#[]⟩):0<s.size:=by
 rcases Nat.eq_zero_or_pos s.size with a | a
 ·exfalso; apply h;cases s with | mk d=>congr 1; exact Array.eq_empty_of_size_eq_zero a
 ·exact a
end Go.Sf
namespace Go.Sf.Sc
open Go Go.Sf
def Hs (c:Int):Bool:=((decide (97<=c))&&(decide (c<=122)))||((decide (65<=c))&&(decide (c<=90)))
def digitB (c:Int):Bool:=(decide (48<=c))&&(decide (c<=57))
def Ph (c:Int):Bool:=Hs c||digitB c||decide (c=95)
theorem Ww (c:Int):LP c=some (Hs c):=rfl
theorem Uk (c:Int):Ku c=some (digitB c):=rfl
theorem W8 (c:Int):LF c=some (Hs c):=rfl
theorem Ya (c:Int):Ji c=some (digitB c):=rfl
theorem jT (c:Int):NJ c=some (Ph c):=by
 unfold NJ Ph;rw [Ww,bs,Uk];cases Hs c <;> cases digitB c <;> rfl
theorem ZT {s:ByteArray} (f:(s.size:Int)<=4611686018427387904) {ok:Int->QQ} {p:Int->Bool} (h:∀ c,ok c=some (p c)):Ip s ok=some (Ll p s):=by
 unfold Ip;rw [QI (c:=fun i=>(if p (bt s i) then none else some i).map .inl) (a:=0) (b:=s.size) (by omega)]
 ·rw [Od];unfold Ll;cases fst (fun i=>if p (bt s i)=true then none else some i) 0 s.size <;> rfl
 ·intro i e d _;simp only [d,decide_true,if_true,Ok e d,bs,h];cases p (bt s i)
  ·simp [cnt]
  ·simp [cnt,BG (show -9223372036854775808<=i+1 by omega) (by omega)]
 ·simp
def HQ (s:ByteArray):Bool:=decide (0<s.size)&&Hs (bt s 0)&&decide (s.size<=20)&&decide (Ll Ph s=s.size)
theorem Uj (l:List ByteArray) (v:ByteArray):∃ k,slices_Index_string l v=some k∧(0<=k↔v∈l):=by
 unfold slices_Index_string;rw [C7 (fun i=>if (v==AB l i)=true then some i else none)]
 ·cases h:fst (fun i=>if (v==AB l i)=true then some i else none) 0 l.length with
  | none=>
   rw [D9] at h;refine ⟨-1,rfl,by omega,fun e=>?_⟩;obtain ⟨i,a,c,b⟩:=EH e;have:=h i a c;rw [b,d0 (beq_self_eq_true v)] at this;cases this
  | some k=>
   obtain ⟨i,a,c,b,_⟩:=DZ h;have d:(v==AB l i)=true∧i=k:=by
    by_cases hv:(v==AB l i)=true
    ·rw [d0 hv] at b; exact ⟨hv,by simpa using b⟩
    ·rw [d1 hv] at b; cases b
   obtain ⟨d,rfl⟩:=d;refine ⟨i,rfl,fun _=>?_,fun _=>a⟩;rw [eq_of_beq d]; exact AQ a c
 ·intro i a c _;simp only [AI a c,bs];split <;> rfl
theorem OP (l:List ByteArray) (v:ByteArray):slices_Contains_string l v=some (l.contains v):=by
 unfold slices_Contains_string;obtain ⟨k,a,b⟩:=Uj l v;rw [a,bs];congr 1;rw [Bool.eq_iff_iff,zzX,b,List.contains_iff_mem]
theorem jR {s:ByteArray} (t:0<s.size) (m:(s.size:Int)<=4611686018427387904):∃ k n e,Jb s=some (k,n,e)∧(((decide (e=0))&&(decide (k=1)))&&(decide (n=(s.size:Int))))=HQ s:=by
 have z:=Rt Ph s;unfold Jb HQ;simp only [Ok (Int.le_refl 0) (show (0:Int)<s.size by omega),bs,Ww,Uk,ZT m jT,ZT m Uk,t,decide_true,Bool.true_and];by_cases d:Hs (bt s 0)=true
 ·rw [d0 d];by_cases f:20<Ll Ph s
  ·refine ⟨0,0,3,by simp [f],?_⟩;simp [d];intro y g;omega
  ·refine ⟨1,_,0,by rw [d1 (by simpa using f)],?_⟩;simp only [d,decide_true,Bool.true_and];rw [Bool.eq_iff_iff];simp only [zzX,zzZ];omega
 ·rw [d1 d];have h:Hs (bt s 0)=false:=by simpa using d
  rw [h,Bool.false_and,Bool.false_and];by_cases o:digitB (bt s 0)=true
  ·rw [d0 o];by_cases p:9<Ll digitB s
   ·exact ⟨0,0,3,by simp [p],by simp⟩
   ·exact ⟨2,_,0,by rw [d1 (by simpa using p)],by simp⟩
  ·rw [d1 o];by_cases q:bt s 0=34
   ·have u:=Vs (s:=s) (a:=1) (b:=s.size) (by omega) (by omega) (by omega);have i:∀ c,Lc c=some (((decide (32<=c))&&(decide (c<=126)))&&(!decide (c=34))):=fun _=>rfl;have v:=Rt (fun c=>((decide (32<=c))&&(decide (c<=126)))&&(!decide (c=34))) (s.extract (1:Int).toNat (s.size:Int).toNat);have j:∃ n e,IM s=some (n,e):=by
     unfold IM;rw [Mi (by omega) (by omega) (by omega),bs,ZT (by omega) i,bs];rw [BG (by omega) (by omega)];by_cases r:1+Ll (fun c=>((decide (32<=c))&&(decide (c<=126)))&&(!decide (c=34))) (s.extract (1:Int).toNat (s.size:Int).toNat)=s.size
     ·refine ⟨0,2,?_⟩;simp only [r,decide_true,if_true,bs]
     ·simp only [r,decide_false,Bool.false_eq_true,if_false];rw [Ok (by omega) (by omega)];simp only [bs];split
      ·exact ⟨_,_,rfl⟩
      ·split
       ·exact ⟨_,_,rfl⟩
       ·exact ⟨_,_,rfl⟩
    obtain ⟨n,e,l⟩:=j;refine ⟨3,n,e,by rw [d0 (by simpa using q),l]; rfl,by simp⟩
   ·rw [d1 (by simpa using q)];have w:∃ b,NI s=some b:=by
     unfold NI;by_cases g:2<=(s.size:Int)
     ·rw [d0 (by simpa using g),Mi (by omega) (by omega) g];simp only [bs,OP];exact ⟨_,rfl⟩
     ·rw [d1 (by simpa using g)];exact ⟨_,rfl⟩
    obtain ⟨b,x⟩:=w;rw [x,bs];cases b
    ·simp only [Bool.false_eq_true,if_false,strings_IndexByte,bs];split
     ·exact ⟨_,_,_,rfl,rfl⟩
     ·exact ⟨_,_,_,rfl,rfl⟩
    ·exact ⟨_,_,_,rfl,rfl⟩
theorem Qo {s:ByteArray} (b:(s.size:Int)<=4611686018427387904):FL s=some (HQ s):=by
 unfold FL Jn;simp only [show decide ((1:Int)=3)=false from rfl,Bool.false_eq_true,if_false,bs];by_cases a:s=⟨#[]⟩
 ·subst a; rfl
 ·rw [d1 (by simpa using a)];obtain ⟨k,n,e,c,d⟩:=jR (XL a) b;rw [c];simp only [bs];rw [d]
theorem jf {s:ByteArray} (k:(s.size:Int)<=4611686018427387904) (d:Bool):∃ n,N5 s 0 d=some n∧0<=n∧n<=s.size∧(d=false->n=Ll Ph s):=by
 have g:=Rt (fun c=>digitB c||(!d&&(Hs c||decide (c=95)))) s;refine ⟨Ll (fun c=>digitB c||(!d&&(Hs c||decide (c=95)))) s,?_,g.1,g.2.1,fun h=>?_⟩
 ·unfold N5;rw [QI (c:=fun i=>(if (digitB (bt s i)||(!d&&(Hs (bt s i)||decide (bt s i=95)))) then none else some i).map .inl) (a:=0) (b:=s.size) (by omega)]
  ·rw [Od];unfold Ll;cases fst (fun i=>if (digitB (bt s i)||(!d&&(Hs (bt s i)||decide (bt s i=95))))=true then none else some i) 0 s.size <;> rfl
  ·intro i j f _;have e:A4 (0+i)=i:=by rw [BG (by omega) (by omega)]; omega
   simp only [e,f,decide_true,if_true,Ok j f,bs,Ya,W8];cases digitB (bt s i) <;> cases d <;> cases Hs (bt s i) <;> cases (decide (bt s i=95)) <;> simp [cnt,BG (show -9223372036854775808<=i+1 by omega) (by omega)]
  ·have e:A4 (0+(s.size:Int))=s.size:=by rw [BG (by omega) (by omega)]; omega
   simp only [e,Int.lt_irrefl,decide_false,Bool.false_eq_true,if_false,bs]
 ·subst h;congr 1;funext c;unfold Ph;cases Hs c <;> cases digitB c <;> cases decide (c=95) <;> rfl
theorem cy {s:ByteArray} (j:0<s.size) (k:(s.size:Int)<=4611686018427387904):∃ n,LG s 0=some n∧(n=0∨(2<=n∧n<=s.size)):=by
 unfold LG;rw [QI (c:=fun i=>if decide (bt s i=34)=true then some (Sum.inr (i+1):Int ⊕ Int) else if (decide (bt s i<32)||decide (126<bt s i))=true then some (Sum.inr 0) else none) (a:=1) (b:=s.size) (by omega)]
 ·cases h:fst (fun i=>if decide (bt s i=34)=true then some (Sum.inr (i+1):Int ⊕ Int) else if (decide (bt s i<32)||decide (126<bt s i))=true then some (Sum.inr 0) else none) 1 s.size with
  | none=>exact ⟨0,rfl,.inl rfl⟩
  | some r=>
   obtain ⟨i,g,e,d,_⟩:=DZ h;split at d
   ·cases d; exact ⟨_,rfl,.inr (by omega)⟩
   ·split at d
    ·cases d; exact ⟨_,rfl,.inl rfl⟩
    ·cases d
 ·intro i g e _;have f:A4 (0+i)=i:=by rw [BG (by omega) (by omega)]; omega
  simp only [f,e,decide_true,if_true,Ok (show 0<=i by omega) e,bs,BG (show -9223372036854775808<=i+1 by omega) (by omega)];split
  ·rfl
  ·split <;> rfl
 ·have f:A4 (0+(s.size:Int))=s.size:=by rw [BG (by omega) (by omega)]; omega
  simp only [f,Int.lt_irrefl,decide_false,Bool.false_eq_true,if_false]
theorem qR {s:ByteArray} (I:0<s.size) (J:(s.size:Int)<=4611686018427387904):∃ t n e,N4 s 0=some (t,n,e)∧(((decide (e=0))&&(decide (n=(s.size:Int))))&&(decide (t.Kind=1)))=HQ s:=by
 obtain ⟨m,G,l,o,H⟩:=jf J (digitB (bt s 0));unfold N4 HQ;simp only [Ok (Int.le_refl 0) (show (0:Int)<s.size by omega),bs,W8,Ya,I,decide_true,Bool.true_and,G];have K:A4 (0+m)=m:=by rw [BG (by omega) (by omega)]; omega
 by_cases u:Hs (bt s 0)=true
 ·have j:digitB (bt s 0)=false:=by
   unfold Hs at u; unfold digitB;simp only [Bool.or_eq_true,zzZ,zzX] at u;rw [Bool.and_eq_false_iff];simp only [decide_eq_false_iff_not];omega
  have P:=H j;subst P;simp only [u,if_true,j,Bool.false_eq_true,if_false,bs,K];by_cases k:20<Ll Ph s
  ·refine ⟨_,_,_,by rw [d0 (by simpa using k)],?_⟩;rw [Bool.eq_iff_iff];simp only [zzX,zzZ];omega
  ·rw [d1 (by simpa using k),Mi (Int.le_refl _) l o];refine ⟨_,_,_,rfl,?_⟩;rw [Bool.eq_iff_iff];simp only [zzX,zzZ,true_and,and_true];omega
 ·have B:Hs (bt s 0)=false:=by simpa using u
  simp only [B,Bool.false_eq_true,if_false,bs,Bool.false_and,K];by_cases j:digitB (bt s 0)=true
  ·simp only [j,if_true,bs];by_cases M:9<m
   ·exact ⟨_,_,_,by rw [d0 (by simpa using M)],by simp⟩
   ·rw [d1 (by simpa using M),Mi (Int.le_refl _) l o];exact ⟨_,_,_,rfl,by simp⟩
  ·have C:digitB (bt s 0)=false:=by simpa using j
   simp only [C,Bool.false_eq_true,if_false,bs];by_cases N:bt s 0=34
   ·obtain ⟨n,T,p⟩:=cy I J;rw [d0 (by simpa using N),T,bs];rcases p with rfl | p
    ·exact ⟨_,_,_,rfl,by simp⟩
    ·rw [d1 (by simp; omega)];split
     ·exact ⟨_,_,_,rfl,by simp⟩
     ·have Q:A4 (0+1)=1:=by decide
      have R:A4 (0+n)=n:=by rw [BG (by omega) (by omega)]; omega
      rw [Q,R,BG (show -9223372036854775808<=n - 1 by omega) (by omega),Mi (by omega) (by omega) (by omega)];exact ⟨_,_,_,rfl,by simp⟩
   ·rw [d1 (by simpa using N)];unfold Nu;rw [bs];generalize S:([(⟨#[45,62]⟩:ByteArray),(⟨#[60,61]⟩:ByteArray),(⟨#[62,61]⟩:ByteArray),(⟨#[61,61]⟩:ByteArray),(⟨#[33,61]⟩:ByteArray),(⟨#[123]⟩:ByteArray),(⟨#[125]⟩:ByteArray),(⟨#[40]⟩:ByteArray),(⟨#[41]⟩:ByteArray),(⟨#[91]⟩:ByteArray),(⟨#[93]⟩:ByteArray),(⟨#[44]⟩:ByteArray),(⟨#[59]⟩:ByteArray),(⟨#[58]⟩:ByteArray),(⟨#[61]⟩:ByteArray),(⟨#[43]⟩:ByteArray),(⟨#[45]⟩:ByteArray),(⟨#[42]⟩:ByteArray),(⟨#[60]⟩:ByteArray),(⟨#[62]⟩:ByteArray),(⟨#[33]⟩:ByteArray),(⟨#[38]⟩:ByteArray),(⟨#[124]⟩:ByteArray),(⟨#[46]⟩:ByteArray),(⟨#[63]⟩:ByteArray)]:List ByteArray)=L;have D:∀ x∈L,x.size<=2:=by subst S; decide
    rcases WX (f:=(fun (d:Int) (O:GM)=>
      (AM L d).bind fun v=>
      (if (decide ((A4 (0+(v.size:Int)))<=(s.size:Int)))=true then ((AM L d).bind fun w=>
      (sslc s 0 (A4 (0+(w.size:Int)))).bind fun y=>
      (AM L d).bind fun z=>
      some (y==z)) else some false).bind fun A=>
      if A=true then
      (AM L d).bind fun g=>
      (AM L d).bind fun h=>
      some (CY.ret (GM.mk 4 g 0,(h.size:Int),(0:Int)))
      else
      some (CY.next O))) (fun _ s=>True) (fun _=>True) (fun r=>r.1.Kind=4) (a:=0) (b:=L.length) (s:=GM.mk 0 (⟨#[]⟩:ByteArray) 0) (by omega) trivial (fun i t c q _=>by
      have U:=D _ (AQ c q);have E:A4 (0+((AB L i).size:Int))=(AB L i).size:=by rw [BG (by omega) (by omega)]; omega
      simp only [AI c q,bs,E];by_cases F:((AB L i).size:Int)<=s.size
      ·rw [d0 (by simpa using F),Mi (by omega) (by omega) F];simp only [bs];split
       ·exact .inr (.inr ⟨_,rfl,rfl⟩)
       ·exact .inl ⟨_,rfl,trivial⟩
      ·rw [d1 (by simpa using F)];simp only [bs];exact .inl ⟨_,rfl,trivial⟩) with ⟨s',c,_⟩ | ⟨r,c,q⟩
    ·rw [c]; exact ⟨_,_,_,rfl,by simp⟩
    ·rw [c]; exact ⟨_,_,_,rfl,by simp [q]⟩
theorem Qr {s:ByteArray} (b:(s.size:Int)<=4611686018427387904):IF s=some (HQ s):=by
 unfold IF Nt OX;simp only [show decide ((1:Int)=3)=false from rfl,Bool.false_eq_true,if_false,bs];by_cases a:s=⟨#[]⟩
 ·subst a; rfl
 ·rw [d1 (by simpa using a)];obtain ⟨t,n,e,c,d⟩:=qR (XL a) b;rw [c];simp only [bs];rw [d]
end Go.Sf.Sc
namespace Go.Sf
variable {ρ β:Type}
def nz (e:Int):ci:=if e=0 then none else some e
theorem P8 (e:Int):(if (!decide (e=0))=true then some (CY.ret e) else some (CY.next ()))=some (Pq (nz e)):=by
 unfold nz;by_cases h:e=0 <;> simp [h,Pq]
theorem iZ (b:Bool) (r:ρ):(if b=true then some (CY.ret r) else some (CY.next ()))=some (Pq (if b=true then some r else none)):=by
 cases b <;> rfl
theorem DT {σ:Type} {s:σ} {k:σ->Option β} {a:ρ->Option β}:thenR (some (.inl s)) k a=k s:=rfl
theorem Vk {σ:Type} {r:ρ} {k:σ->Option β} {a:ρ->Option β}:thenR (some (.inr r)) k a=a r:=rfl
theorem F8 (o:Option ρ) (k:Unit->Option β) (a:ρ->Option β):thenR (some (eC o)) k a=match o with | none=>k () | some r=>a r:=by
 cases o <;> rfl
theorem Hq (o:ci):thenR (some (eC o)) (fun _=>some 0) (fun v=>some v)=some (o.getD 0):=by
 cases o <;> rfl
theorem Tw {c:Int->Int} {a b:Int} (h:(fst (fun i=>nz (c i)) a b).getD 0=0):∀ i,a<=i->i<b->c i=0:=by
 have:fst (fun i=>nz (c i)) a b=none:=by
  cases e:fst (fun i=>nz (c i)) a b with
  | none=>rfl
  | some r=>
   rw [e] at h;simp only [Option.getD] at h;subst h;obtain ⟨i,_,_,d,_⟩:=DZ e;unfold nz at d;split at d
   ·cases d
   ·rename_i f; simp at d; exact (f d).elim
 rw [D9] at this;intro i g j;have:=this i g j;unfold nz at this;split at this
 ·assumption
 ·cases this
theorem Og {e:Int}:nz e=none↔e=0:=by
 unfold nz;by_cases h:e=0 <;> simp [h]
theorem Wb {α:Type} [Inhabited α] {l:List α} {f:α->QQ} {p:α->Bool} (h:∀ x∈l,f x=some (p x)) :
  (thenR (forR (ρ:=Int) (fun (c:Int) (_:Unit)=>(AM l c).bind fun a=>(f a).bind fun b=>if b=true then some (.ret c) else some (.next ())) 0 (l.length:Int) ()) (fun _=>some (-1)) (fun g=>some g)) =
   some ((fst (fun i=>if p (AB l i)=true then some i else none) 0 l.length).getD (-1)):=by
 rw [C7 (fun i=>if p (AB l i)=true then some i else none)]
 ·rw [F8]; cases fst (fun i=>if p (AB l i)=true then some i else none) 0 l.length <;> rfl
 ·intro i d e _;rw [AI d e,bs,h _ (AQ d e),bs,iZ]
theorem VM {α:Type} [Inhabited α] {l:List α} {p:α->Bool}:decide (0<=(fst (fun i=>if p (AB l i)=true then some i else none) 0 l.length).getD (-1))=l.any p:=by
 rw [Kc,anyR];cases h:fst (fun i=>if p (AB l i)=true then some i else none) 0 l.length with
 | none=>
  rw [D9] at h;symm;show Option.isSome _=false;rw [Option.isSome_eq_false_iff,Option.isNone_iff_eq_none,D9];intro i b c;have:=h i b c;by_cases d:p (AB l i)=true
  ·rw [d0 d] at this; cases this
  ·rw [d1 d]
 | some k=>
  obtain ⟨i,b,c,a,_⟩:=DZ h;have f:p (AB l i)=true∧i=k:=by
   by_cases hv:p (AB l i)=true
   ·rw [d0 hv] at a; exact ⟨hv,by simpa using a⟩
   ·rw [d1 hv] at a; cases a
  simp only [Option.getD];rw [decide_eq_true (show (0:Int)<=k by omega)];symm;show Option.isSome _=true;rw [Option.isSome_iff_ne_none,ne_eq,D9];intro e;have:=e i b c;rw [d0 f.1] at this;cases this
theorem GD {α:Type} [Inhabited α] {l:List α} {f:α->QQ} {p:α->Bool} (h:∀ x∈l,f x=some (p x)) :
  ((thenR (forR (ρ:=Int) (fun (c:Int) (_:Unit)=>(AM l c).bind fun a=>(f a).bind fun b=>if b=true then some (.ret c) else some (.next ())) 0 (l.length:Int) ()) (fun _=>some (-1)) (fun d=>some d)).bind fun e=>some (decide (0<=e)))=some (l.any p):=by
 rw [Wb h,bs,VM]
end Go.Sf
namespace Go.Sf.Sc
open Go Go.Sf
instance:Inhabited Attr:=⟨⟨⟨#[]⟩,0,0,[]⟩⟩
instance:Inhabited CW:=⟨⟨⟨#[]⟩,0,false,[]⟩⟩
instance:Inhabited DE:=⟨⟨⟨#[]⟩,0,0,0,0,0,0⟩⟩
instance:Inhabited DU:=⟨⟨0,0,0⟩⟩
instance:Inhabited EJ:=⟨⟨0,0,⟨0,0⟩⟩⟩
instance:Inhabited Test:=⟨⟨0,⟨0,0⟩,⟨0,0⟩⟩⟩
instance:Inhabited AA:=⟨⟨0,[],⟨[],[]⟩,⟨⟨[],[]⟩,[],0,[]⟩⟩⟩
theorem WG {l:IO} {f:Int->QQ} {p:Int->Bool} (h:∀ x∈l,f x=some (p x)):B4 l f=some (l.any p):=GD h
theorem X8 {l:List DU} {f:DU->QQ} {p:DU->Bool} (h:∀ x∈l,f x=some (p x)):CI l f=some (l.any p):=GD h
theorem Ow {l:List AA} {f:AA->QQ} {p:AA->Bool} (h:∀ x∈l,f x=some (p x)):B6 l f=some (l.any p):=GD h
theorem Xg {l:List CW} {p:CW->Bool}:C9 l (fun x=>some (p x))=some (l.any p):=GD (fun _ _=>rfl)
theorem Xf {l:List DE} {p:DE->Bool}:C8 l (fun x=>some (p x))=some (l.any p):=GD (fun _ _=>rfl)
theorem fM {l:List Attr} {p:Attr->Bool}:D0 l (fun x=>some (p x))=some (l.any p):=GD (fun _ _=>rfl)
theorem aF {l:IO} {p:Int->Bool}:B4 l (fun x=>some (p x))=some (l.any p):=GD (fun _ _=>rfl)
theorem fN {l:List DU} {p:DU->Bool}:CI l (fun x=>some (p x))=some (l.any p):=GD (fun _ _=>rfl)
theorem fO {l:List EJ} {p:EJ->Bool}:D1 l (fun x=>some (p x))=some (l.any p):=GD (fun _ _=>rfl)
theorem iw (l:IO) (v:Int):slices_Index_int l v=some ((fst (fun i=>if decide (v=AB l i)=true then some i else none) 0 l.length).getD (-1)):=by
 have:=Wb (l:=l) (f:=fun x=>some (decide (v=x))) (p:=fun x=>decide (v=x)) (fun _ _=>rfl);unfold slices_Index_int;simpa only [bs] using this
theorem Tg (l:IO) (v:Int):slices_Contains_int l v=some (l.any fun x=>decide (v=x)):=by
 unfold slices_Contains_int;rw [iw,bs,VM (p:=fun x=>decide (v=x))]
theorem fR (l:dD) (v:Bool):HZ l v=some (l.any fun x=>v==x):=by
 have:=GD (l:=l) (f:=fun x=>some (v==x)) (p:=fun x=>v==x) (fun _ _=>rfl);unfold HZ Js;simpa only [bs] using this
structure RC (a:Attr):Prop where
 name:(a.Name.size:Int)<=40
 names:a.Names.length<=25
 each:∀ x∈a.Names,(x.size:Int)<=40
structure BX (t:AC):Prop where
 nodes:t.Nodes.length<=20
 edges:t.Edges.length<=30
 name:∀ n∈t.Nodes,(n.Name.size:Int)<=40
 attrs:∀ n∈t.Nodes,n.Attrs.length<=30
 each:∀ n∈t.Nodes,∀ a∈n.Attrs,RC a
 ename:∀ e∈t.Edges,(e.Name.size:Int)<=40
def par (t:AC) (i:Int):Int:=(AB t.Nodes i).Parent
def G9 (t:AC) (k:Int):Prop:=∀ i,0<=i->i<k->-1<=par t i∧par t i<i
def C2 (t:AC):Nat->Int->List Attr
 | 0,_=>[]
 | n+1,a=>if a<0 then [] else C2 t n (par t a)++(AB t.Nodes a).Attrs
def BT (t:AC) (a:Int):List Attr:=C2 t (a+1).toNat a
theorem JM {t:AC} {n:Nat} {a:Int} (h:a<0):C2 t n a=[]:=by
 cases n with
 | zero=>rfl
 | succ n=>rw [C2,d0 h]
theorem MY {t:AC} {k:Int} (c:G9 t k):∀ (n m:Nat) (a:Int),a<k->a<n->a<m->C2 t n a=C2 t m a
 | n,m,a,d,e,f=>by
  by_cases b:a<0
  ·rw [JM b,JM b]
  ·cases n with
   | zero=>omega
   | succ n=>
    cases m with
    | zero=>omega
    | succ m=>
     rw [C2,C2,d1 b,d1 b];have:=c a (by omega) d;rw [MY c n m (par t a) (by omega) (by omega) (by omega)]
theorem Mp {t:AC} (b:BX t) {k:Int} (d:k<=t.Nodes.length) (c:G9 t k):∀ (n:Nat) (a:Int),a<k->((C2 t n a).length:Int)<=30*n
 | 0,_,_=>by simp [C2]
 | n+1,a,e=>by
  rw [C2];split
  ·simp; omega
  ·rename_i f;have g:=c a (by omega) e;have h:=Mp b d c n (par t a) (by omega);have i:=b.attrs _ (AQ (l:=t.Nodes) (show 0<=a by omega) (by omega));rw [d3];omega
theorem TZ {t:AC} (c:BX t) {k:Int} (e:k<=t.Nodes.length) (d:G9 t k):∀ (n:Nat) (a:Int),a<k->∀ x∈C2 t n a,RC x
 | 0,_,_=>by simp [C2]
 | n+1,a,f=>by
  rw [C2];split
  ·simp
  ·rename_i g;have h:=d a (by omega) f;intro x b;rcases List.mem_append.1 b with b | b
   ·exact TZ c e d n (par t a) (by omega) x b
   ·exact c.each _ (AQ (l:=t.Nodes) (show 0<=a by omega) (by omega)) x b
theorem Mr {t:AC} (b:BX t) {k a:Int} (c:k<=t.Nodes.length) (d:G9 t k) (e:a<k):(BT t a).length<=600:=by
 have:=Mp b c d (a+1).toNat a e;have:=b.nodes;unfold BT;omega
theorem Mq {t:AC} (b:BX t) {k a:Int} (c:k<=t.Nodes.length) (d:G9 t k) (e:a<k):∀ x∈BT t a,RC x:=TZ b c d _ a e
theorem Ws {t:AC} (d:BX t) {k:Int} (g:k<=t.Nodes.length) (f:G9 t k):∀ (n:Nat) (a:Int),0<=a->a<k->a<n->EQ n t a=some (C2 t n a)
 | 0,_,_,_,_=>by omega
 | n+1,a,i,q,v=>by
  have r:=f a (by omega) q;have j:=Mp d g f n (par t a) (by omega);have s:=d.attrs _ (AQ (l:=t.Nodes) i (by omega));have u:=d.nodes;rw [EQ,C2,d1 (by omega),AI i (by omega)];simp only [bs];show ((if decide (0<=par t a)=true then (EQ n t (par t a)).bind fun c=>some c else some []).bind _)=_;have e:(if decide (0<=par t a)=true then (EQ n t (par t a)).bind fun c=>some c else some [])=some (C2 t n (par t a)):=by
   by_cases h:0<=par t a
   ·rw [d0 (by simpa using h),Ws d g f n (par t a) h (by omega) (by omega)]; rfl
   ·rw [d1 (by simpa using h),JM (by omega)]
  have m:(C2 t n (par t a)).length+(AB t.Nodes a).Attrs.length<=BN:=by
   unfold BN;have:((C2 t n (par t a)).length:Int)<=30*n:=j;have o:C2 t n (par t a)=C2 t 20 (par t a):=by
    by_cases b:par t a<0
    ·rw [JM b,JM b]
    ·exact MY f n 20 (par t a) (by omega) (by omega) (by omega)
   have p:=Mp d g f 20 (par t a) (by omega);rw [←o] at p;omega
  rw [e,bs,CF m];rfl
theorem YS {t:AC} (d:BX t) {k:Int} (e:k<=t.Nodes.length) (b:G9 t k) {a:Int} (f:0<=a) (c:a<k):Kv t a=some (BT t a):=
 FJ (a+1).toNat fun n g=>by
  rw [Ws d e b n a f c (by omega),BT,MY b n (a+1).toNat a c (by omega) (by omega)]
theorem Wz {t:AC} (c:BX t) {k:Int} (e:k<=t.Nodes.length) (d:G9 t k):∀ (n:Nat) (a:Int),-1<=a->a<k->a+1<n->IH n t a=some (C2 t n a)
 | 0,_,_,_,_=>by omega
 | n+1,a,p,i,q=>by
  rw [IH,C2];by_cases b:a<0
  ·rw [d0 (by simpa using b),d0 b]
  ·have j:=d a (by omega) i;have m:=c.attrs _ (AQ (l:=t.Nodes) (show 0<=a by omega) (by omega));have o:=c.nodes;rw [d1 (by simpa using b),d1 b,AI (by omega) (by omega)];simp only [bs];have f:C2 t n (par t a)=C2 t 20 (par t a):=by
    by_cases b:par t a<0
    ·rw [JM b,JM b]
    ·exact MY d n 20 (par t a) (by omega) (by omega) (by omega)
   have g:=Mp c e d 20 (par t a) (by omega);rw [←f] at g;have h:(C2 t n (par t a)).length+(AB t.Nodes a).Attrs.length<=BN:=by unfold BN; omega
   rw [show (AB t.Nodes a).Parent=par t a from rfl,Wz c e d n (par t a) (by omega) (by omega) (by omega),bs,CF (by simp; unfold BN; omega)];simp only [bs,List.nil_append];rw [CF h]; rfl
theorem YY {t:AC} (d:BX t) {k:Int} (e:k<=t.Nodes.length) (b:G9 t k) {a:Int} (f:0<=a) (c:a<k):Nv t a=some (BT t a):=
 FJ (a+2).toNat fun n g=>by
  rw [Wz d e b n a (by omega) c (by omega),BT,MY b n (a+1).toNat a c (by omega) (by omega)]
end Go.Sf.Sc
namespace Go.Sf.Sc
open Go Go.Sf
def J5 (l:List ByteArray):Int:=
 if (20:Int)<l.length then 3 else (fst (fun i=>if HQ (AB l i)=false then some 2 else if anyR (fun j=>AB l j==AB l i) 0 i=true then some 5 else none) 0 l.length).getD 0
theorem WI {l:List ByteArray} {x:ByteArray} {b:Int} (a:0<=b) (c:b<=l.length):(l.take b.toNat).contains x=anyR (fun j=>AB l j==x) 0 b:=by
 rw [List.contains_eq_any_beq,QL a c];exact TY (fun i _ _=>by rw [Bool.beq_comm])
theorem fz {l:List ByteArray} (d:∀ x∈l,(x.size:Int)<=40):Ir l=some (J5 l):=by
 unfold Ir J5;by_cases a:(20:Int)<l.length
 ·rw [d0 (by simpa using a),d0 a]
 ·rw [d1 (by simpa using a),d1 a];rw [C7 (fun i=>if HQ (AB l i)=false then some 2 else if anyR (fun j=>AB l j==AB l i) 0 i=true then some 5 else none),Hq];intro i b c _;have e:=d _ (AQ b c);rw [AI b c,bs,Qo (by omega),bs,MU b (by omega)];simp only [bs,OP,WI b (show i<=l.length by omega)];cases HQ (AB l i) <;> cases anyR (fun j=>AB l j==AB l i) 0 i <;> rfl
theorem gL {l:List ByteArray} (d:∀ x∈l,(x.size:Int)<=40):Lz l=some (J5 l):=by
 unfold Lz J5;by_cases a:(20:Int)<l.length
 ·rw [d0 (by simpa using a),d0 a]
 ·rw [d1 (by simpa using a),d1 a];rw [C7 (fun i=>if HQ (AB l i)=false then some 2 else if anyR (fun j=>AB l j==AB l i) 0 i=true then some 5 else none),Hq];intro i b c _;have g:=d _ (AQ b c);rw [AI b c,bs,Qr (by omega),bs,CR (fun j=>AB l j==AB l i) 5]
  ·cases HQ (AB l i) <;> cases anyR (fun j=>AB l j==AB l i) 0 i <;> rfl
  ·intro j e f _;rw [AI e (by omega),bs,bs];split <;> rfl
def MC (all:List Attr) (k:Int):Int:=
 let x:=AB all k
 if HQ x.Name=false then 2 else if anyR (fun j=>(AB all j).Name==x.Name) 0 k=true then 5 else
 if x.Names.length=0 then (if -1000000<=x.Low∧x.Low<=x.High∧x.High<=1000000 then 0 else 6) else
 if J5 x.Names≠0 then J5 x.Names else if x.Low=0∧x.High=x.Names.length - 1 then 0 else 6
theorem Xs {a:List Attr} (f:∀ x∈a,RC x) {k:Int} (d:0<=k) (g:k<a.length):F9 (AB a k) (a.take k.toNat)=some (MC a k):=by
 have c:=f _ (AQ d g);have m:=c.name;unfold F9 MC;dsimp only;rw [Qo (by omega),bs,show (fun b=>Ju b (AB a k))=(fun b=>some (b.Name==(AB a k).Name)) from rfl,fM,bs,QL d (by omega),fz c.each,bs];have i:=c.names;have j:A4 ((AB a k).Names.length - 1)=(AB a k).Names.length - 1:=BG (by omega) (by omega);rw [j];have l:(AB a k).Names.length=0->J5 (AB a k).Names=0:=fun h=>by rw [List.eq_nil_of_length_eq_zero h]; rfl
 generalize J5 (AB a k).Names=e at l ⊢;simp only [bs,zzX,Bool.or_eq_true,zzZ,Bool.not_eq_true',decide_eq_false_iff_not,Bool.not_eq_false',Bool.or_eq_false_iff,Bool.and_eq_false_iff,ne_eq]
 repeat' (first | rfl | (exfalso; omega; done) | split)
 all_goals (first | rfl | (exfalso; omega) | omega | simp_all | (simp_all; omega))
theorem Xu {x:Attr} (a:RC x):JV x=some (
 if x.Names.length=0 then (if -1000000<=x.Low∧x.Low<=x.High∧x.High<=1000000 then 0 else 6) else
 if J5 x.Names≠0 then J5 x.Names else if x.Low=0∧x.High=x.Names.length - 1 then 0 else 6):=by
 have b:=a.names;have c:A4 (x.Names.length - 1)=x.Names.length - 1:=BG (by omega) (by omega);unfold JV E4;simp only [bs,c,gL a.each];generalize J5 x.Names=e;simp only [bs,zzX,Bool.or_eq_true,zzZ,Bool.not_eq_true',decide_eq_false_iff_not,Bool.not_eq_false',Bool.or_eq_false_iff,Bool.and_eq_false_iff,ne_eq]
 repeat' (first | rfl | (exfalso; omega; done) | split)
 all_goals (first | rfl | (exfalso; omega) | omega | simp_all | (simp_all; omega))
def JC (t:AC) (i:Int):Int:=
 let n:=AB t.Nodes i
 if HQ n.Name=false then 2 else if anyR (fun j=>(AB t.Nodes j).Name==n.Name) 0 i=true then 5 else
 if n.Parent < -1∨i<=n.Parent then 6 else if 4<n.Attrs.length∨8<(BT t i).length then 3 else
 (fst (fun k=>nz (MC (BT t i) k)) ((BT t i).length - n.Attrs.length) (BT t i).length).getD 0
theorem Tc {t:AC} {i:Int} (a:0<=i):(AB t.Nodes i).Attrs.length<=(BT t i).length:=by
 unfold BT;rw [show (i+1).toNat=i.toNat+1 by omega,C2,d1 (by omega),d3];omega
theorem G9.next {t:AC} {i:Int} (h:G9 t i) (a:-1<=par t i) (b:par t i<i):G9 t (i+1):=by
 intro j c e;by_cases d:j=i
 ·subst d; exact ⟨a,b⟩
 ·exact h j c (by omega)
theorem jS {t:AC} (f:BX t) {i:Int} (c:0<=i) (l:i<t.Nodes.length) (p:G9 t i):Je t i=some (JC t i):=by
 have r:=f.name _ (AQ c l);unfold Je JC;dsimp only;rw [AI c l,bs,Qo (by omega),bs,MU c (by omega),bs,show (fun g=>NL g (AB t.Nodes i))=(fun g=>some (g.Name==(AB t.Nodes i).Name)) from rfl,Xg,bs,QL c (by omega)];cases HQ (AB t.Nodes i).Name
 ·rfl
 ·cases anyR (fun j=>(AB t.Nodes j).Name==(AB t.Nodes i).Name) 0 i
  ·by_cases d:(AB t.Nodes i).Parent < -1∨i<=(AB t.Nodes i).Parent
   ·rcases d with d | d <;> simp [d]
   ·have b:G9 t (i+1):=p.next (by unfold par; omega) (by unfold par; omega)
    have h:(decide ((AB t.Nodes i).Parent < -1)||decide (i<=(AB t.Nodes i).Parent))=false:=by
     rw [Bool.eq_false_iff]; simpa using d
    rw [YS f (k:=i+1) (by omega) b c (by omega),bs];have n:=Mr f (k:=i+1) (a:=i) (by omega) b (by omega);have o:=Tc (t:=t) c;have e:=Mq f (k:=i+1) (a:=i) (by omega) b (by omega);rw [BG (by omega) (by omega),C7 (fun k=>nz (MC (BT t i) k)),Hq]
    ·simp only [h,d,Bool.not_true,Bool.false_eq_true,if_false];simp only [bs,zzX,Bool.or_eq_true,zzZ,Bool.not_eq_true',decide_eq_false_iff_not,Bool.not_eq_false',Bool.or_eq_false_iff,Bool.and_eq_false_iff,ne_eq]
     repeat' (first | rfl | (exfalso; omega; done) | split)
     all_goals (first | rfl | (exfalso; omega) | omega | simp_all | (simp_all; omega))
    ·intro k q m _;rw [AI (by omega) m,bs,MU (by omega) (by omega),bs,Xs e (by omega) m,bs,P8]
  ·rfl
theorem je {t:AC} (c:BX t) {i:Int} (e:0<=i) (g:i<t.Nodes.length) (p:G9 t i):NA t i=some (JC t i):=by
 have u:=c.name _ (AQ e g);have v:=c.nodes;unfold NA JC E4;dsimp only;rw [AI e g,bs,Qr (by omega),bs,CR (fun j=>(AB t.Nodes j).Name==(AB t.Nodes i).Name) 5]
 ·cases HQ (AB t.Nodes i).Name
  ·rfl
  ·cases anyR (fun j=>(AB t.Nodes j).Name==(AB t.Nodes i).Name) 0 i
   ·simp only [Bool.not_true,Bool.false_eq_true,if_false,DT,bs];rw [BG (by omega) (by omega)];by_cases l:(AB t.Nodes i).Parent < -1∨i<=(AB t.Nodes i).Parent
    ·rw [d0,d1 (by decide),d0 l];simp; omega
    ·have b:G9 t (i+1):=p.next (by unfold par; omega) (by unfold par; omega)
     rw [d1 (by simp; omega),d1 (by decide),d1 l];rw [YY c (k:=i+1) (by omega) b e (by omega),bs];have m:=Mr c (k:=i+1) (a:=i) (by omega) b (by omega);have n:=Tc (t:=t) e;have d:=Mq c (k:=i+1) (a:=i) (by omega) b (by omega);rw [BG (by omega) (by omega)];rw [C7 (fun k=>nz (MC (BT t i) k)),Hq]
     ·simp only [bs,zzX,Bool.or_eq_true,zzZ,Bool.not_eq_true',decide_eq_false_iff_not,Bool.not_eq_false',Bool.or_eq_false_iff,Bool.and_eq_false_iff,ne_eq]
      repeat' (first | rfl | (exfalso; omega; done) | split)
      all_goals (first | rfl | (exfalso; omega) | omega | simp_all | (simp_all; omega))
     ·intro k h f _;have o:=d _ (AQ (show 0<=k by omega) f);have r:=o.name;simp only [AI (show 0<=k by omega) f,bs];rw [Qr (by omega),bs,CR (fun j=>(AB (BT t i) j).Name==(AB (BT t i) k).Name) 5]
      ·rw [Xu o];simp only [bs,P8];unfold MC;dsimp only;cases HQ (AB (BT t i) k).Name
       ·rfl
       ·cases anyR (fun j=>(AB (BT t i) j).Name==(AB (BT t i) k).Name) 0 k <;> rfl
      ·intro j q s _;rw [AI q (by omega),bs];split <;> rfl
   ·rfl
 ·intro j h f _;rw [AI h (by omega),bs];split <;> rfl
def Ms (low high:Int):Bool:=((decide (0<=low))&&(decide (low<=40)))&&((decide (high=(-1)))||((decide (low<=high))&&(decide (high<=40))))
theorem gH (low high:Int):Km low high=some (Ms low high):=by
 unfold Km Ms E4;simp only [bs];cases (decide (0<=low)&&decide (low<=40)) <;> cases decide (high=-1) <;> rfl
def Jr (t:AC) (i:Int):Int:=
 let x:=AB t.Edges i
 if HQ x.Name=false then 2 else if anyR (fun j=>(AB t.Edges j).Name==x.Name) 0 i=true then 5 else
 if (0<=x.From∧x.From<t.Nodes.length)∧(0<=x.To∧x.To<t.Nodes.length)∧Ms x.OutLow x.OutHigh=true∧Ms x.InLow x.InHigh=true then 0 else 6
theorem jN {t:AC} (h:BX t) {i:Int} (c:0<=i) (g:i<t.Edges.length):Jd t i=some (Jr t i):=by
 have k:=h.ename _ (AQ c g);unfold Jd Jr LQ;dsimp only;rw [AI c g,bs,Qo (by omega),bs,MU c (by omega),bs,show (fun e=>NK e (AB t.Edges i))=(fun e=>some (e.Name==(AB t.Edges i).Name)) from rfl,Xf,bs,QL c (by omega)];simp only [show ∀ a b,Kg a b=some (Ms a b) from fun _ _=>rfl,bs];generalize HQ (AB t.Edges i).Name=b1;generalize anyR (fun j=>(AB t.Edges j).Name==(AB t.Edges i).Name) 0 i=b2;generalize Ms (AB t.Edges i).OutLow (AB t.Edges i).OutHigh=b3;generalize Ms (AB t.Edges i).InLow (AB t.Edges i).InHigh=b4;cases b1
 ·rfl
 ·cases b2
  ·cases b3 <;> cases b4
   all_goals
    by_cases d:0<=(AB t.Edges i).From∧(AB t.Edges i).From<t.Nodes.length
    ·by_cases f:0<=(AB t.Edges i).To∧(AB t.Edges i).To<t.Nodes.length
     ·simp [d,f]
     ·have:(decide (0<=(AB t.Edges i).To)&&decide ((AB t.Edges i).To<t.Nodes.length))=false:=by rw [Bool.eq_false_iff]; simpa using f
      simp [d,f,this]
    ·have:(decide (0<=(AB t.Edges i).From)&&decide ((AB t.Edges i).From<t.Nodes.length))=false:=by rw [Bool.eq_false_iff]; simpa using d
     simp [d,this]
  ·rfl
theorem jZ {t:AC} (d:BX t) {i:Int} (e:0<=i) (f:i<t.Edges.length):M9 t i=some (Jr t i):=by
 have l:=d.ename _ (AQ e f);have m:=d.nodes;unfold M9 Jr E4;dsimp only;rw [AI e f,bs,Qr (by omega),bs,CR (fun j=>(AB t.Edges j).Name==(AB t.Edges i).Name) 5]
 ·simp only [BG (show -9223372036854775808<=(t.Nodes.length:Int) - 1 by omega) (by omega),gH,bs];generalize HQ (AB t.Edges i).Name=b1;generalize anyR (fun j=>(AB t.Edges j).Name==(AB t.Edges i).Name) 0 i=b2;generalize Ms (AB t.Edges i).OutLow (AB t.Edges i).OutHigh=b3;generalize Ms (AB t.Edges i).InLow (AB t.Edges i).InHigh=b4;cases b1
  ·rfl
  ·cases b2
   ·cases b3 <;> cases b4
    all_goals
     by_cases b:0<=(AB t.Edges i).From∧(AB t.Edges i).From<t.Nodes.length
     ·have a:(AB t.Edges i).From<=(t.Nodes.length:Int) - 1:=by omega
      by_cases g:0<=(AB t.Edges i).To∧(AB t.Edges i).To<t.Nodes.length
      ·have c:(AB t.Edges i).To<=(t.Nodes.length:Int) - 1:=by omega
       simp [b,g,a,c,DT]
      ·have:(decide (0<=(AB t.Edges i).To)&&decide ((AB t.Edges i).To<=(t.Nodes.length:Int) - 1))=false:=by rw [Bool.eq_false_iff]; simp; omega
       simp [b,g,a,this,DT]
     ·have:(decide (0<=(AB t.Edges i).From)&&decide ((AB t.Edges i).From<=(t.Nodes.length:Int) - 1))=false:=by rw [Bool.eq_false_iff]; simp; omega
      simp [b,this,DT]
   ·rfl
 ·intro j h k _;rw [AI h (by omega),bs];split <;> rfl
def BF (t:AC):ByteArray × Int:=
 if t.Nodes.length=0 then (⟨#[]⟩,7) else if 12<t.Nodes.length∨20<t.Edges.length then (⟨#[]⟩,3) else
 match fst (fun i=>(nz (JC t i)).map fun e=>((AB t.Nodes i).Name,e)) 0 t.Nodes.length with
 | some r=>r
 | none=>(fst (fun i=>(nz (Jr t i)).map fun e=>((AB t.Edges i).Name,e)) 0 t.Edges.length).getD (⟨#[]⟩,0)
theorem aX {t:AC} {i:Int} (h:JC t i=0):-1<=par t i∧par t i<i:=by
 unfold JC at h;dsimp only at h;unfold par;by_cases a:(AB t.Nodes i).Parent < -1∨i<=(AB t.Nodes i).Parent
 ·rw [d0 a] at h;split at h
  ·cases h
  ·split at h <;> cases h
 ·omega
theorem Nc {α β:Type} {o:Option α} {g:α->β}:o.map g=none↔o=none:=by cases o <;> simp
theorem TH {t:AC} {i:Int} (h:∀ j,0<=j->j<i->JC t j=0):G9 t i:=fun j a b=>aX (h j a b)
theorem R4 {ρ:Type} (e:Int) (n:ByteArray):(if (!decide (e=0))=true then some (CY.ret (n,e)) else some (CY.next ()))=some (Pq ((nz e).map fun e=>(n,e))):=by
 unfold nz;by_cases h:e=0 <;> simp [h,Pq]
theorem R8 {t:AC} (c:BX t):GL t=some (BF t):=by
 unfold GL BF;rw [C7 (fun i=>(nz (JC t i)).map fun e=>((AB t.Nodes i).Name,e)),F8]
 ·rw [C7 (fun i=>(nz (Jr t i)).map fun e=>((AB t.Edges i).Name,e)),F8]
  ·cases fst (fun i=>(nz (JC t i)).map fun e=>((AB t.Nodes i).Name,e)) 0 t.Nodes.length <;> cases fst (fun i=>(nz (Jr t i)).map fun e=>((AB t.Edges i).Name,e)) 0 t.Edges.length
   all_goals dsimp only
   all_goals try simp only [Option.getD]
   all_goals
    simp only [bs,zzX,Bool.or_eq_true,zzZ,Bool.not_eq_true',decide_eq_false_iff_not,Bool.not_eq_false',Bool.or_eq_false_iff,Bool.and_eq_false_iff,ne_eq]
    repeat' (first | rfl | (exfalso; omega; done) | split)
    all_goals (first | rfl | (exfalso; omega) | omega | simp_all | (simp_all; omega))
  ·intro i a b _;rw [AI a b,bs,jN c a b,bs];exact R4 (ρ:=Unit) _ _
 ·intro i a b g;have h:G9 t i:=TH fun j d f=>Og.1 (Nc.1 (g j d f));rw [AI a b,bs,jS c a b h,bs];exact R4 (ρ:=Unit) _ _
theorem SA {t:AC} (c:BX t):Im t=some (BF t):=by
 unfold Im BF;rw [C7 (fun i=>(nz (JC t i)).map fun e=>((AB t.Nodes i).Name,e)),F8]
 ·rw [C7 (fun i=>(nz (Jr t i)).map fun e=>((AB t.Edges i).Name,e)),F8]
  ·cases fst (fun i=>(nz (JC t i)).map fun e=>((AB t.Nodes i).Name,e)) 0 t.Nodes.length <;> cases fst (fun i=>(nz (Jr t i)).map fun e=>((AB t.Edges i).Name,e)) 0 t.Edges.length
   all_goals dsimp only
   all_goals try simp only [Option.getD]
   all_goals
    simp only [bs,zzX,Bool.or_eq_true,zzZ,Bool.not_eq_true',decide_eq_false_iff_not,Bool.not_eq_false',Bool.or_eq_false_iff,Bool.and_eq_false_iff,ne_eq]
    repeat' (first | rfl | (exfalso; omega; done) | split)
    all_goals (first | rfl | (exfalso; omega) | omega | simp_all | (simp_all; omega))
  ·intro i a b _;simp only [jZ c a b,AI a b,bs];exact R4 (ρ:=Unit) _ _
 ·intro i a b g;have h:G9 t i:=TH fun j d f=>Og.1 (Nc.1 (g j d f));simp only [je c a b h,AI a b,bs];exact R4 (ρ:=Unit) _ _
end Go.Sf.Sc
namespace Go.Sf.Sc
open Go Go.Sf
theorem J4 {α:Type} {c:Bool} {a b:α}:(if c=true then some a else some b)=some (if c=true then a else b):=by cases c <;> rfl
def LV (n:Int):Bool:=(decide (0<=n))&&(decide (n<=99))
def QU (e:DU) (n:Int):Bool:=LV e.Type'&&(decide (0<=e.From)&&decide (e.From<n))&&(decide (0<=e.To)&&decide (e.To<n))
def DJ (g:Graph):Int:=
 if 40<g.Nodes.length∨80<g.Edges.length then 3 else if (g.Nodes.any fun n=>!LV n)=true then 6 else if (g.Edges.any fun e=>!QU e g.Nodes.length)=true then 6 else 0
structure Ki (g:Graph):Prop where
 nodes:g.Nodes.length<=40
 edges:g.Edges.length<=80
 kind:∀ n∈g.Nodes,0<=n∧n<=99
 fit:∀ e∈g.Edges,(0<=e.Type'∧e.Type'<=99)∧(0<=e.From∧e.From<g.Nodes.length)∧(0<=e.To∧e.To<g.Nodes.length)
theorem GA {g:Graph} (h:DJ g=0):Ki g:=by
 unfold DJ at h;split at h
 ·cases h
 ·split at h
  ·cases h
  ·split at h
   ·cases h
   ·rename_i f a b;refine ⟨by omega,by omega,fun n c=>?_,fun e d=>?_⟩
    ·rw [Bool.not_eq_true,List.any_eq_false] at a;have:=a n c;simp [LV] at this;exact this
    ·rw [Bool.not_eq_true,List.any_eq_false] at b;have:=b e d;simp only [QU,LV,Bool.not_eq_true',Bool.not_eq_false,zzZ,zzX] at this;omega
theorem jQ {e:DU} {n:Nat} (h:n<=40):M1 e n=some (QU e n):=by
 unfold M1 I2 QU LV;simp only [bs,BG (show -9223372036854775808<=(n:Int) - 1 by omega) (by omega)];have a:decide (e.From<=(n:Int) - 1)=decide (e.From<n):=by rw [decide_eq_decide]; omega
 have b:decide (e.To<=(n:Int) - 1)=decide (e.To<n):=by rw [decide_eq_decide]; omega
 rw [a,b];generalize (decide (0<=e.Type')&&decide (e.Type'<=99))=b1;generalize (decide (0<=e.From)&&decide (e.From<n))=b2;cases b1 <;> cases b2 <;> simp
theorem Oh (g:Graph):EZ g=some (DJ g):=by
 unfold EZ DJ;by_cases h:40<g.Nodes.length∨80<g.Edges.length
 ·rw [d0 (by simp; omega),d0 h]
 ·rw [d1 (by simp; omega),d1 h,show MF=(fun n=>some (!LV n)) from rfl,aF,X8 (p:=fun e=>!QU e g.Nodes.length) (fun e _=>by
   unfold MG;rw [jQ (by omega)]; rfl)]
  simp only [bs];cases g.Nodes.any fun n=>!LV n
  ·cases g.Edges.any fun e=>!QU e g.Nodes.length <;> rfl
  ·rfl
theorem Oj (g:Graph):HF g=some (DJ g):=by
 unfold HF DJ;by_cases h:40<g.Nodes.length∨80<g.Edges.length
 ·rw [d0 (by simp; omega),d0 h]
 ·rw [d1 (by simp; omega),d1 h,Kc,Kc,CR (fun i=>!LV (AB g.Nodes i)) 6]
  ·rw [CR (fun i=>!QU (AB g.Edges i) g.Nodes.length) 6]
   ·cases anyR (fun i=>!LV (AB g.Nodes i)) 0 g.Nodes.length
    ·cases anyR (fun i=>!QU (AB g.Edges i) g.Nodes.length) 0 g.Edges.length <;> rfl
    ·rfl
   ·intro i a b _;rw [AI a b,bs];unfold Nw QU;simp only [show ∀ n,LZ n=some (LV n) from fun _=>rfl,bs];generalize LV (AB g.Edges i).Type'=b1;cases b1 <;> cases decide (0<=(AB g.Edges i).From) <;> cases decide ((AB g.Edges i).From<g.Nodes.length) <;> cases decide (0<=(AB g.Edges i).To) <;> cases decide ((AB g.Edges i).To<g.Nodes.length) <;> rfl
  ·intro i a b _;rw [AI a b,bs,show LZ (AB g.Nodes i)=some (LV (AB g.Nodes i)) from rfl,bs];cases LV (AB g.Nodes i) <;> rfl
def GK (t:AC) (g:Graph):Bool:=!(g.Nodes.any fun n=>decide (t.Nodes.length<=n))&&!(g.Edges.any fun e=>decide (t.Edges.length<=e.Type'))
theorem Nj {t:AC} {g:Graph} (a:Ki g) (h:GK t g=true):(∀ n∈g.Nodes,0<=n∧n<t.Nodes.length)∧∀ e∈g.Edges,0<=e.Type'∧e.Type'<t.Edges.length:=by
 unfold GK at h;simp only [zzZ,Bool.not_eq_true',List.any_eq_false,zzX] at h;refine ⟨fun n b=>?_,fun e c=>?_⟩
 ·have:=h.1 n b;have:=a.kind n b;omega
 ·have:=h.2 e c;have:=a.fit e c;omega
theorem Um {t:AC} {g:Graph} (c:Ki g):Jj t g=some (GK t g):=by
 unfold Jj GK;rw [Kc,Kc,CR (fun i=>decide (t.Nodes.length<=AB g.Nodes i)) false]
 ·rw [CR (fun i=>decide (t.Edges.length<=(AB g.Edges i).Type')) false]
  ·cases anyR (fun i=>decide (t.Nodes.length<=AB g.Nodes i)) 0 g.Nodes.length
   ·cases anyR (fun i=>decide (t.Edges.length<=(AB g.Edges i).Type')) 0 g.Edges.length <;> rfl
   ·rfl
  ·intro i a b _;have:=(c.fit _ (AQ a b)).1.1;simp only [AI a b,bs];rw [d1 (by simp; omega),bs,J4]
 ·intro i a b _;have:=(c.kind _ (AQ a b)).1;simp only [AI a b,bs];rw [d1 (by simp; omega),bs,J4]
structure IP (t:AC):Prop where
 nodes:t.Nodes.length<=12
 edges:t.Edges.length<=20
 node:∀ i:Int,0<=i->i<t.Nodes.length->JC t i=0
 edge:∀ i:Int,0<=i->i<t.Edges.length->Jr t i=0
theorem G8 {t:AC} (h:(BF t).2=0):IP t:=by
 unfold BF at h;split at h
 ·cases h
 ·split at h
  ·cases h
  ·rename_i k l;have g:∀ i:Int,0<=i->i<t.Nodes.length->JC t i=0:=by
    split at h
    ·rename_i r b;obtain ⟨i,_,_,a,_⟩:=DZ b;unfold nz at a;split at a
     ·cases a
     ·rename_i c;cases a; exact absurd h c
    ·rename_i b;intro i d f;exact Og.1 (Nc.1 (D9.1 b i d f))
   have j:∀ i:Int,0<=i->i<t.Edges.length->Jr t i=0:=by
    split at h
    ·rename_i r b;obtain ⟨i,d,f,a,_⟩:=DZ b;rw [g i d f] at a;cases a
    ·cases b:fst (fun i=>(nz (Jr t i)).map fun e=>((AB t.Edges i).Name,e)) 0 t.Edges.length with
     | some r=>
      rw [b] at h;obtain ⟨i,_,_,a,_⟩:=DZ b;unfold nz at a;split at a
      ·cases a
      ·rename_i c;cases a; exact absurd h c
     | none=>
      intro i d f;exact Og.1 (Nc.1 (D9.1 b i d f))
   exact ⟨by omega,by omega,g,j⟩
theorem IP.par {t:AC} (h:IP t):G9 t t.Nodes.length:=TH h.node
theorem IP.ends {t:AC} (h:IP t) {i:Int} (b:0<=i) (c:i<t.Edges.length):(0<=(AB t.Edges i).From∧(AB t.Edges i).From<t.Nodes.length)∧(0<=(AB t.Edges i).To∧(AB t.Edges i).To<t.Nodes.length):=by
 have:=h.edge i b c;unfold Jr at this;dsimp only at this;split at this
 ·cases this
 ·split at this
  ·cases this
  ·split at this
   ·rename_i a; exact ⟨a.1,a.2.1⟩
   ·cases this
def JG (t:AC) (a:Int):Bool:=decide (0<=a)&&decide (a<t.Nodes.length)
theorem MZ {t:AC} {a:Int}:JG t a=true↔0<=a∧a<t.Nodes.length:=by unfold JG; simp
theorem Ul {t:AC} (b:BX t) (l:IO):HI t l=some (if (BF t).2≠0 then (BF t).2 else if (l.all (JG t))=true then 0 else 6):=by
 unfold HI;rw [R8 b,bs,WG (p:=fun a=>!JG t a) (fun a _=>by unfold ML JG; rw [show decide (a<0)=!decide (0<=a) from by rw [←decide_not,decide_eq_decide]; omega,show decide ((t.Nodes.length:Int)<=a)=!decide (a<t.Nodes.length) from by rw [←decide_not,decide_eq_decide]; omega,Bool.not_and]),bs];rw [show (l.any fun a=>!JG t a)=!(l.all (JG t)) from by rw [List.all_eq_not_any_not,Bool.not_not]];cases l.all (JG t) <;> by_cases h:(BF t).2=0 <;> simp [h]
theorem Yc {t:AC} (d:BX t) (a b:Int):Kn t a b=some (if (BF t).2≠0 then (BF t).2 else if (JG t a&&JG t b)=true then 0 else 6):=by
 have f:=d.nodes;have e:∀ a,decide (a<=(t.Nodes.length:Int) - 1)=decide (a<(t.Nodes.length:Int)):=fun a=>by rw [decide_eq_decide]; omega
 unfold Kn E4;rw [SA d,bs];simp only [BG (show -9223372036854775808<=(t.Nodes.length:Int) - 1 by omega) (by omega),bs,e];change (if (!decide ((BF t).snd=0))=true then some (BF t).snd else (if (!JG t a)=true then some true else some (!JG t b)).bind fun c=>if c=true then some 6 else some 0)=_;cases JG t a <;> cases JG t b <;> by_cases h:(BF t).2=0 <;> simp [h]
theorem bN {α:Type} [Inhabited α] {l:List α} {i:Int} (a:0<=i) (b:i<l.length):BZ l i (AB l i)=l:=by
 unfold BZ AB;rw [List.getD_eq_getElem?_getD,List.getElem?_eq_getElem (by omega)];exact List.set_getElem_self _
theorem GJ {α:Type} [Inhabited α] {l:List α} {i:Int} (a:0<=i) (b:i<l.length):l.take (i+1).toNat=l.take i.toNat++[AB l i]:=by
 unfold AB;rw [show (i+1).toNat=i.toNat+1 by omega,List.take_add_one,List.getD_eq_getElem?_getD,List.getElem?_eq_getElem (by omega)];rfl
theorem FE {α:Type} {l:List α} (h:l.length<=BN):BV [] l=some l:=by rw [CF (by simpa using h)]; rfl
def JN (t:AC) (a:Int):List Attr × Int:=if (BF t).2≠0 then ([],(BF t).2) else if JG t a=true then (BT t a,0) else ([],6)
theorem YR {t:AC} (g:BX t) (a:Int):IA t a=some (JN t a):=by
 unfold IA JN;rw [Ul g,bs];by_cases h:(BF t).2=0
 ·have d:=G8 h;have e:[a].all (JG t)=JG t a:=by simp
  rw [e];simp only [h,ne_eq,not_true_eq_false,if_false];cases hi:JG t a
  ·rfl
  ·rw [d0 rfl,d0 rfl];have j:=MZ.1 hi;have v:=Mr g (Int.le_refl _) d.par j.2;have r:=Mq g (Int.le_refl _) d.par j.2;rw [d1 (by decide),YS g (Int.le_refl _) d.par j.1 j.2,bs];obtain ⟨s',u,rfl⟩:=WV (f:=(fun (k:Int) (l:List Attr)=>
 (AM l k).bind fun m=>
 (slices_Clone_string m.Names).bind fun n=>
 (AM l k).bind fun c=>
 some (BZ l k (Attr.mk c.Name c.Low c.High n)))) (fun _ s=>s=BT t a) (a:=0) (b:=(BT t a).length) (s:=BT t a) (by omega) rfl (fun i s o p q=>by
     subst q;have:=(r _ (AQ o p)).names;refine ⟨BT t a,?_,rfl⟩;unfold slices_Clone_string;rw [AI o p,bs,FE (by unfold BN; omega),bs,bs];congr 1;exact bN o p)
   rw [u]; rfl
 ·simp only [h,ne_eq,not_false_eq_true,if_true,decide_false,Bool.not_false]
theorem YX {t:AC} (c:BX t) (a:Int):Kl t a=some (JN t a):=by
 unfold Kl JN;rw [Yc c,bs];by_cases h:(BF t).2=0
 ·have b:=G8 h;rw [Bool.and_self];simp only [h,ne_eq,not_true_eq_false,if_false];cases hi:JG t a
  ·rfl
  ·rw [d0 rfl,d0 rfl];have d:=MZ.1 hi;have j:=Mr c (Int.le_refl _) b.par d.2;have g:=Mq c (Int.le_refl _) b.par d.2;rw [d1 (by decide),YY c (Int.le_refl _) b.par d.1 d.2,bs];rw [DO (fun i=>(BT t a).take i.toNat) (by omega) (by simp)]
   ·rw [bs,Int.toNat_natCast,List.take_length]
   ·intro i e f;have:=(g _ (AQ e f)).names;rw [AI e f,bs,FE (by unfold BN; omega),bs,CF (by rw [d4]; simp; unfold BN; omega),GJ e f];rfl
 ·simp only [h,ne_eq,not_false_eq_true,if_true,decide_false,Bool.not_false]
end Go.Sf.Sc
namespace Go.Sf.Sc
open Go Go.Sf
def OA (t:AC):Nat->Int->IO
 | 0,_=>[]
 | n+1,a=>if a<0 then [] else a::OA t n (par t a)
theorem Yo (t:AC):∀ (n:Nat) (a:Int),(OA t n a).length<=n
 | 0,_=>by simp [OA]
 | n+1,a=>by
  rw [OA];split
  ·simp
  ·have:=Yo t n (par t a); simp; omega
def JH (t:AC) (a b:Int):Bool:=(OA t (a+1).toNat a).any fun x=>decide (b=x)
theorem YM {t:AC} (c:t.Nodes.length<=12) (g:G9 t t.Nodes.length):∀ (n:Nat) (a:Int) (l:IO),a<t.Nodes.length->a<n->l.length+n<=1000 ->
  ∃ x,Mn (ρ:=IO) (fun (b:Int × IO)=>
 if (decide (0<=b.1))=true then
 (BV b.2 [b.1]).bind fun d=>
 (AM t.Nodes b.1).bind fun e=>
 some (.next (e.Parent,d))
 else
 some (.brk (b.1,b.2))) (a,l) (.inl (x,l++OA t n a))
 | 0,a,l,f,j,_=>by
  refine ⟨a,.brk ?_⟩;rw [d1 (by simp; omega)];simp [OA]
 | n+1,a,l,f,j,m=>by
  by_cases h:a<0
  ·refine ⟨a,.brk ?_⟩;rw [d1 (by simp; omega)];simp [OA,h]
  ·have k:=g a (by omega) f;obtain ⟨x,i⟩:=YM c g n (par t a) (l++[a]) (by omega) (by omega) (by simp; omega);refine ⟨x,.next (s':=(par t a,l++[a])) ?_ ?_⟩
   ·rw [d0 (by simp; omega),CF (by simp; unfold BN; omega),bs,AI (by omega) f]; rfl
   ·rw [OA,d1 h,show l++a::OA t n (par t a)=(l++[a])++OA t n (par t a) by simp];exact i
theorem cr {t:AC} (h:IP t) {a b:Int} (f:0<=a) (c:a<t.Nodes.length):Jo t a b=some (JH t a b):=by
 have d:=h.nodes;obtain ⟨x,e⟩:=YM d h.par (a+1).toNat a [] c (by omega) (by simp; omega);have g:=Yo t (a+1).toNat a;unfold Jo KW;rw [e.eq,DT];simp only [List.nil_append];unfold slices_Reverse_int;rw [d0 (by unfold BN; omega)];simp only [bs];rw [Tg,bs];unfold JH;rw [List.any_reverse]
theorem TL {t:AC} (d:G9 t t.Nodes.length) {b:Int} (h:0<=b):∀ (n m:Nat) (a:Int),-1<=a->a<t.Nodes.length->a+1<n->a<m->Hv n t a b=some ((OA t m a).any fun x=>decide (b=x))
 | 0,_,_,_,_,_,_=>by omega
 | n+1,m,a,j,g,k,l=>by
  rw [Hv];by_cases f:a<0
  ·rw [d1 (by simp; omega),d1 (by simp; omega)];cases m <;> simp [OA,f]
  ·cases m with
   | zero=>omega
   | succ m=>
    have i:=d a (by omega) g;rw [OA,d1 f,List.any_cons,d0 (show decide (0<=a)=true by simp; omega),AI (by omega) g];simp only [bs];rw [show (AB t.Nodes a).Parent=par t a from rfl,TL d h n m (par t a) (by omega) (by omega) (by omega) (by omega)];by_cases c:a=b
    ·simp [c]
    ·have:¬ b=a:=fun e=>c e.symm;simp [c,this]
theorem SB {t:AC} (h:IP t) {a b:Int} (e:0<=a) (c:a<t.Nodes.length) (d:0<=b):IG t a b=some (JH t a b):=
 FJ (a+2).toNat fun n f=>TL h.par d n (a+1).toNat a (by omega) c (by omega) (by omega)
def QV (t:AC) (e f g:Int):Bool:=
 decide ((BF t).2=0)&&(JG t f&&JG t g)&&(decide (0<=e)&&decide (e<t.Edges.length))&&(JH t f (AB t.Edges e).From&&JH t g (AB t.Edges e).To)
theorem jK {t:AC} (c:BX t) (e f g:Int):Jc t e f g=some (QV t e f g):=by
 unfold Jc QV;rw [Ul c,bs,show [f,g].all (JG t)=(JG t f&&JG t g) by simp];by_cases h:(BF t).2=0
 ·simp only [h,ne_eq,not_true_eq_false,if_false];have a:=G8 h;cases hi:(JG t f&&JG t g)
  ·rfl
  ·rw [zzZ,MZ,MZ] at hi;by_cases b:0<=e∧e<t.Edges.length
   ·rw [d1 (by simp; omega),AI b.1 b.2];simp only [bs,cr a hi.1.1 hi.1.2,cr a hi.2.1 hi.2.2,b.1,b.2,decide_true,Bool.true_and];cases JH t f (AB t.Edges e).From <;> rfl
   ·rw [d0 (by simp; omega)];have:(decide (0<=e)&&decide (e<t.Edges.length))=false:=by rw [Bool.eq_false_iff]; simpa using b
    rw [this]; simp
 ·simp [h]
theorem jX {t:AC} (i:BX t) (e f g:Int):M8 t e f g=some (QV t e f g):=by
 have k:=i.edges;unfold M8 QV E4;rw [Yc i,bs];by_cases h:(BF t).2=0
 ·simp only [h,ne_eq,not_true_eq_false,if_false];have b:=G8 h;cases hi:(JG t f&&JG t g)
  ·rfl
  ·rw [zzZ,MZ,MZ] at hi;rw [BG (by omega) (by omega)];simp only [bs];by_cases a:0<=e∧e<t.Edges.length
   ·have c:=b.ends a.1 a.2;have d:e<=(t.Edges.length:Int) - 1:=by omega
    rw [d1 (by simp),bs,d1 (by simp [a.1,d]),AI a.1 a.2];simp only [bs,SB b hi.1.1 hi.1.2 c.1.1,SB b hi.2.1 hi.2.2 c.2.1,a.1,a.2,decide_true,Bool.true_and];cases JH t f (AB t.Edges e).From <;> rfl
   ·have:(decide (0<=e)&&decide (e<t.Edges.length))=false:=by rw [Bool.eq_false_iff]; simpa using a
    have j:(decide (0<=e)&&decide (e<=(t.Edges.length:Int) - 1))=false:=by rw [Bool.eq_false_iff]; simp; omega
    rw [this,j]; simp
 ·simp [h]
def NH (n:Int) (x:Term):Bool:=(((decide ((-1)<=x.Var))&&(decide (x.Var<n)))&&(decide ((-1000000)<=x.Add)))&&(decide (x.Add<=1000000))
def MK (n:Int) (x:Test):Int:=if ¬ x.Kind=1∧¬ x.Kind=2 then 1 else if (NH n x.Left&&NH n x.Right)=true then 0 else 6
def Ja (n:Int) (l:List Test):Int:=if n<0∨12<n then 6 else if 40<l.length then 3 else (fst (fun i=>nz (MK n (AB l i))) 0 l.length).getD 0
theorem jU (n:Int) (x:Test):J0 n x=some (MK n x):=by
 unfold J0 MK;simp only [show ∀ n x,JP n x=some (NH n x) from fun _ _=>rfl,bs];generalize NH n x.Left=b1;generalize NH n x.Right=b2;cases b1 <;> cases b2
 all_goals
  simp only [bs,zzX,Bool.or_eq_true,zzZ,Bool.not_eq_true',decide_eq_false_iff_not,Bool.not_eq_false',Bool.or_eq_false_iff,Bool.and_eq_false_iff,ne_eq]
  repeat' (first | rfl | (exfalso; omega; done) | split)
  all_goals (first | rfl | (exfalso; omega) | omega | simp_all | (simp_all; omega))
theorem c7 (n:Int) (x:Term):J7 n x=some (if NH n x=true then 0 else 6):=by
 unfold J7 NH;simp only [bs,zzX,Bool.or_eq_true,zzZ,Bool.not_eq_true',decide_eq_false_iff_not,Bool.not_eq_false',Bool.or_eq_false_iff,Bool.and_eq_false_iff,ne_eq]
 repeat' (first | rfl | (exfalso; omega; done) | split)
 all_goals (first | rfl | (exfalso; omega) | omega | simp_all | (simp_all; omega))
theorem jg (n:Int) (x:Test):N6 n x=some (MK n x):=by
 unfold N6 MK;simp only [c7,bs];generalize NH n x.Left=b1;generalize NH n x.Right=b2;cases b1 <;> cases b2
 all_goals
  simp only [bs,zzX,Bool.or_eq_true,zzZ,Bool.not_eq_true',decide_eq_false_iff_not,Bool.not_eq_false',Bool.or_eq_false_iff,Bool.and_eq_false_iff,ne_eq]
  repeat' (first | rfl | (exfalso; omega; done) | split)
  all_goals (first | rfl | (exfalso; omega) | omega | simp_all | (simp_all; omega))
theorem gB (n:Int) (l:List Test):I0 n l=some (Ja n l):=by
 unfold I0 Ja;rw [C7 (fun i=>nz (MK n (AB l i))),Hq]
 ·simp only [bs,zzX,Bool.or_eq_true,zzZ,Bool.not_eq_true',decide_eq_false_iff_not,Bool.not_eq_false',Bool.or_eq_false_iff,Bool.and_eq_false_iff,ne_eq]
  repeat' (first | rfl | (exfalso; omega; done) | split)
  all_goals (first | rfl | (exfalso; omega) | omega | simp_all | (simp_all; omega))
 ·intro i a b _;rw [AI a b,bs,jU,bs,P8]
theorem gP (n:Int) (l:List Test):Ly n l=some (Ja n l):=by
 unfold Ly Ja;rw [C7 (fun i=>nz (MK n (AB l i))),Hq]
 ·simp only [bs,zzX,Bool.or_eq_true,zzZ,Bool.not_eq_true',decide_eq_false_iff_not,Bool.not_eq_false',Bool.or_eq_false_iff,Bool.and_eq_false_iff,ne_eq]
  repeat' (first | rfl | (exfalso; omega; done) | split)
  all_goals (first | rfl | (exfalso; omega) | omega | simp_all | (simp_all; omega))
 ·intro i a b _;rw [AI a b,bs,jg,bs,P8]
def PJ (t:AC) (p:Pattern) (node ix:Int):Attr × Bool:=
 if node<0∨p.Graph.Nodes.length<=node then (default,false) else
 let l:=(JN t (AB p.Graph.Nodes node)).1
 if ix<0∨l.length<=ix then (default,false) else (AB l ix,true)
theorem Tb {t:AC} (c:BX t) (a:Int):(JN t a).1.length<=600∧((JN t a).2≠0->(JN t a).1=[]):=by
 unfold JN;split
 ·simp
 ·rename_i h;have b:=G8 (t:=t) (by omega);split
  ·rename_i hi;exact ⟨Mr c (Int.le_refl _) b.par (MZ.1 hi).2,by simp⟩
  ·simp
theorem fv {t:AC} (a:BX t) {p:Pattern} (c:Ki p.Graph) (s:EJ):G0 t p s=some (PJ t p s.Node s.Attr):=by
 have d:=c.nodes;unfold G0 PJ DY;dsimp only;rw [BG (by omega) (by omega),bs];by_cases h:s.Node<0∨p.Graph.Nodes.length<=s.Node
 ·rw [d0 (by simp; omega),d0 h]; rfl
 ·rw [d1 (by simp; omega),d1 h,AI (by omega) (by omega),bs,YR a,bs];have e:=(Tb a (AB p.Graph.Nodes s.Node)).1;rw [BG (by omega) (by omega),bs];by_cases b:s.Attr<0∨(JN t (AB p.Graph.Nodes s.Node)).1.length<=s.Attr
  ·rw [d0 (by simp; omega),d0 b]; rfl
  ·rw [d1 (by simp; omega),d1 b,AI (by omega) (by omega)]; rfl
theorem gG {t:AC} (c:BX t) {p:Pattern} (node a:Int):NC t p node a=some (PJ t p node a):=by
 unfold NC PJ;dsimp only;by_cases h:node<0∨p.Graph.Nodes.length<=node
 ·rw [d0 (by simp; omega),d0 h]; rfl
 ·rw [d1 (by simp; omega),d1 h,AI (by omega) (by omega),bs,YX c,bs];have e:=(Tb c (AB p.Graph.Nodes node)).2;by_cases b:a<0∨(JN t (AB p.Graph.Nodes node)).1.length<=a
  ·rw [d0 (by simp; omega),d0 b]; rfl
  ·by_cases d:(JN t (AB p.Graph.Nodes node)).2=0
   ·rw [d1 (by simp [d]; omega),d1 b,AI (by omega) (by omega)]; rfl
   ·rw [e d] at b; simp at b; omega
end Go.Sf.Sc
namespace Go.Sf
variable {σ ρ:Type}
def kK (s:σ) (o:Option ρ):CY σ ρ:=match o with
 | none=>.next s
 | some r=>.ret r
def eh (s:σ) (o:Option ρ):σ ⊕ ρ:=match o with
 | none=>.inl s
 | some r=>.inr r
theorem WW {f:Int->σ->Option (CY σ ρ)} (g:Int->σ) (c:Int->Option ρ):∀ (n:Nat) (a:Int),
  (∀ i,a<=i->i<a+n->(∀ j,a<=j->j<i->c j=none)->f i (g i)=some (kK (g (i+1)) (c i)))->forGo f n a (g a)=some (eh (g (a+n)) (HC c n a))
 | 0,a,_=>by simp [forGo,HC,eh]
 | n+1,a,h=>by
  have l:=h a (Int.le_refl _) (by omega) (fun j b d=>by omega);rw [H4,l,HC];cases m:c a with
  | some r=>rfl
  | none=>
   simp only [kK];rw [show a+((n+1:Nat):Int)=a+1+n by omega];refine WW g c n (a+1) (fun i b d e=>h i (by omega) (by omega) (fun j p k=>?_));by_cases o:j=a
   ·subst o; exact m
   ·exact e j (by omega) k
theorem P4 {f:Int->σ->Option (CY σ ρ)} (g:Int->σ) (c:Int->Option ρ) {a b:Int} {s:σ} (d:a<=b) (e:s=g a) (h:∀ i,a<=i->i<b->(∀ j,a<=j->j<i->c j=none)->f i (g i)=some (kK (g (i+1)) (c i))):forR f a b s=some (eh (g b) (fst c a b)):=by
 subst e;unfold forR fst;have:=WW g c (b - a).toNat a (fun i k m l=>h i k (by omega) l)
 rwa [show a+((b - a).toNat:Int)=b by omega] at this
variable {α:Type}
theorem Ie {e:Int} {X:ci} {Y:Int} (h:e=0->X=some Y):(if (!decide (e=0))=true then some e else X)=some (if e≠0 then e else Y):=by
 by_cases a:e=0
 ·simp [a,h a]
 ·simp [a]
theorem K7 {e:Int} {v:α} {X:Option α} {Y:α} (h:e=0->X=some Y):(if (!decide (e=0))=true then some v else X)=some (if e≠0 then v else Y):=by
 by_cases a:e=0
 ·simp [a,h a]
 ·simp [a]
theorem P1 {P:Prop} [Decidable P] {b:Bool} {v:α} {X:Option α} {Y:α} (c:b=true↔P) (h:¬ P->X=some Y):(if b=true then some v else X)=some (if P then v else Y):=by
 by_cases a:P
 ·rw [d0 (c.2 a),d0 a]
 ·rw [d1 (fun h=>a (c.1 h)),d1 a,h a]
theorem X9 {b:Bool} {v:α} {X:Option α} {Y:α} (h:b=true->X=some Y):(if (!b)=true then some v else X)=some (if b=false then v else Y):=by
 cases b
 ·rfl
 ·simpa using h rfl
theorem rY {b:Bool} {v:α} {X:Option α} {Y:α} (h:b=false->X=some Y):(if b=true then some v else X)=some (if b=true then v else Y):=by
 cases b
 ·simpa using h rfl
 ·rfl
end Go.Sf
namespace Go.Sf.Sc
open Go Go.Sf
def QN (t:AC) (p:Pattern) (s:EJ):Bool:=!(PJ t p s.Node s.Attr).2||decide (s.Term.Var < -1)||decide (p.Vars<=s.Term.Var)||(decide (s.Term.Add < -1000000)||decide (1000000<s.Term.Add))
def LD (p:Pattern) (v:Int):Bool:=p.Slots.any fun s=>decide (s.Term.Var=v)
def J6 (t:AC) (p:Pattern):Int:=
 if (BF t).2≠0 then (BF t).2 else if DJ p.Graph≠0 then DJ p.Graph else if GK t p.Graph=false then 13 else
 if p.Vars<0∨12<p.Vars then 6 else if 10<p.Slots.length∨10<p.Tests.length then 3 else
 if (p.Slots.any (QN t p))=true then 6 else if Ja p.Vars p.Tests≠0 then Ja p.Vars p.Tests else
 if anyR (fun v=>!LD p v) 0 p.Vars=true then 9 else 0
def KX (p:Pattern) (i:Int):dD:=(List.range p.Vars.toNat).map fun (v:Nat)=>(p.Slots.take i.toNat).any fun s=>decide (s.Term.Var=(v:Int))
theorem Zy {p:Pattern}:KX p 0=List.replicate p.Vars.toNat false:=by
 unfold KX;refine List.ext_getElem (by simp) (fun n a b=>by simp)
theorem bh (p:Pattern) (i:Int):(KX p i).length=p.Vars.toNat:=by simp [KX]
theorem bi {p:Pattern} {i:Int} (b:0<=i) (c:i<p.Slots.length) (hv:0<=(AB p.Slots i).Term.Var):BZ (KX p i) (AB p.Slots i).Term.Var true=KX p (i+1):=by
 unfold BZ;refine List.ext_getElem (by simp [KX]) (fun n d e=>?_);simp only [KX,List.getElem_set,List.getElem_map,List.getElem_range,GJ b c,List.any_append,List.any_cons,List.any_nil,Bool.or_false];by_cases a:(AB p.Slots i).Term.Var.toNat=n
 ·rw [d0 a,decide_eq_true (show (AB p.Slots i).Term.Var=(n:Int) by omega),Bool.or_true]
 ·rw [d1 a,decide_eq_false (show ¬ (AB p.Slots i).Term.Var=(n:Int) by omega),Bool.or_false]
theorem Zx {p:Pattern} {i:Int} (a:0<=i) (b:i<p.Slots.length) (hv:(AB p.Slots i).Term.Var<0):KX p i=KX p (i+1):=by
 refine List.ext_getElem (by simp [KX]) (fun n c d=>?_);simp only [KX,List.getElem_map,List.getElem_range,GJ a b,List.any_append,List.any_cons,List.any_nil,Bool.or_false];rw [decide_eq_false (show ¬ (AB p.Slots i).Term.Var=(n:Int) by omega),Bool.or_false]
theorem bg (p:Pattern):((KX p p.Slots.length).any fun x=>false==x)=anyR (fun v=>!LD p v) 0 p.Vars:=by
 rw [Bool.eq_iff_iff,List.any_eq_true,IY];simp only [KX,Int.toNat_natCast,List.take_length,List.mem_map,List.mem_range];constructor
 ·rintro ⟨x,⟨v,hv,rfl⟩,a⟩;refine ⟨v,by omega,by omega,?_⟩;unfold LD;revert a;cases p.Slots.any fun s=>decide (s.Term.Var=(v:Int)) <;> simp
 ·rintro ⟨v,b,c,a⟩;refine ⟨_,⟨v.toNat,by omega,rfl⟩,?_⟩;rw [Int.toNat_of_nonneg b];unfold LD at a;revert a;cases p.Slots.any fun s=>decide (s.Term.Var=v) <;> simp
theorem fY {α ρ:Type} [Inhabited α] {l:List α} {q:α->Bool} {v:ρ}:fst (fun i=>if q (AB l i)=true then some v else none) 0 l.length=if l.any q=true then some v else none:=by
 rw [PU,Kc]
theorem Vz {t:AC} (r:BX t) (p:Pattern):ER t p=some (J6 t p):=by
 unfold ER J6;rw [R8 r,bs,Oh,bs];refine Ie fun x=>Ie fun u=>?_;have k:=GA u;have e:((B4 p.Graph.Nodes (fun a=>Ib a t)).bind fun f=>
   (if f=true then some true else ((CI p.Graph.Edges (fun a=>Ic a t)).bind fun g=>some (g))))=some (!GK t p.Graph):=by
  unfold GK;rw [show (fun a=>Ib a t)=(fun (n:Int)=>some (decide (t.Nodes.length<=n))) from rfl,aF,show (fun a=>Ic a t)=(fun (e:DU)=>some (decide (t.Edges.length<=e.Type'))) from rfl,fN];simp only [bs];cases p.Graph.Nodes.any fun n=>decide (t.Nodes.length<=n) <;> simp
 rw [←Option.bind_assoc,e,bs];refine X9 fun w=>?_;unfold DY;simp only [bs];refine P1 (by simp; try omega) fun hv=>P1 (by simp; try omega) fun y=>?_;unfold Jp;rw [d0 (by omega),bs,←Zy,BG (show -9223372036854775808<=p.Vars - 1 by omega) (by omega),P4 (KX p) (fun i=>if QN t p (AB p.Slots i)=true then some 6 else none) (by omega) rfl,fY]
 ·cases b:p.Slots.any (QN t p)
  ·simp only [Bool.false_eq_true,if_false,eh,DT,gB,bs,fR,bg];by_cases c:Ja p.Vars p.Tests=0
   ·simp only [c];cases anyR (fun v=>!LD p v) 0 p.Vars <;> rfl
   ·simp [c]
  ·rfl
 ·intro i h j _;rw [AI h j,bs,fv r k,bs];unfold QN;by_cases b:(PJ t p (AB p.Slots i).Node (AB p.Slots i).Attr).2=true
  ·by_cases s:(AB p.Slots i).Term.Var < -1∨p.Vars<=(AB p.Slots i).Term.Var
   ·have l:(decide (-1<=(AB p.Slots i).Term.Var)&&decide ((AB p.Slots i).Term.Var<=p.Vars - 1))=false:=by rw [Bool.eq_false_iff]; simp; omega
    have m:(decide ((AB p.Slots i).Term.Var < -1)||decide (p.Vars<=(AB p.Slots i).Term.Var))=true:=by simp; omega
    rw [b,l,Bool.or_assoc (!true),m]; rfl
   ·have l:(decide (-1<=(AB p.Slots i).Term.Var)&&decide ((AB p.Slots i).Term.Var<=p.Vars - 1))=true:=by simp; omega
    have m:(decide ((AB p.Slots i).Term.Var < -1)||decide (p.Vars<=(AB p.Slots i).Term.Var))=false:=by rw [Bool.eq_false_iff]; simp; omega
    rw [b,l,Bool.or_assoc (!true),m];by_cases z:(AB p.Slots i).Term.Add < -1000000∨1000000<(AB p.Slots i).Term.Add
    ·have o:(decide (-1000000<=(AB p.Slots i).Term.Add)&&decide ((AB p.Slots i).Term.Add<=1000000))=false:=by rw [Bool.eq_false_iff]; simp; omega
     have q:(decide ((AB p.Slots i).Term.Add < -1000000)||decide (1000000<(AB p.Slots i).Term.Add))=true:=by simp; omega
     rw [o,q]; rfl
    ·have o:(decide (-1000000<=(AB p.Slots i).Term.Add)&&decide ((AB p.Slots i).Term.Add<=1000000))=true:=by simp; omega
     have q:(decide ((AB p.Slots i).Term.Add < -1000000)||decide (1000000<(AB p.Slots i).Term.Add))=false:=by rw [Bool.eq_false_iff]; simp; omega
     rw [o,q];by_cases d:0<=(AB p.Slots i).Term.Var
     ·simp only [Bool.not_true,Bool.false_eq_true,if_false,bs,d,decide_true,if_true,Bool.or_false];rw [AI d (by rw [bh]; omega),bs,bi h j d]; rfl
     ·simp only [Bool.not_true,Bool.false_eq_true,if_false,bs,d,decide_false,Bool.or_false];rw [Zx h j (by omega)]; rfl
  ·rw [Bool.not_eq_true] at b;rw [b]; rfl
theorem eV (p:Pattern) (v:Int):LJ p v=some (LD p v):=by
 unfold LJ LD;rw [CR (fun i=>decide ((AB p.Slots i).Term.Var=v)) true,Kc]
 ·cases anyR (fun i=>decide ((AB p.Slots i).Term.Var=v)) 0 p.Slots.length <;> rfl
 ·intro i a b _;rw [AI a b,bs,J4]
theorem ZX {t:AC} (c:BX t) (p:Pattern):Jl t p=some (J6 t p):=by
 unfold Jl J6;rw [SA c,bs,Oj,bs];refine Ie fun j=>Ie fun g=>?_;have b:=GA g;rw [Um b,bs];refine X9 fun h=>P1 (by simp; try omega) fun hv=>P1 (by simp; try omega) fun k=>?_;rw [CR (fun i=>QN t p (AB p.Slots i)) 6,←Kc]
 ·cases l:p.Slots.any (QN t p)
  ·simp only [Bool.false_eq_true,if_false,DT,gP,bs];by_cases a:Ja p.Vars p.Tests=0
   ·simp only [a];rw [CR (fun v=>!LD p v) 9]
    ·cases anyR (fun v=>!LD p v) 0 p.Vars <;> rfl
    ·intro i d f _;rw [eV,bs,J4]
   ·simp [a]
  ·rfl
 ·intro i d f _;rw [AI d f,bs,gG c,bs];unfold QN MI;simp only [bs];have e:(!(decide (-1000000<=(AB p.Slots i).Term.Add)&&decide ((AB p.Slots i).Term.Add<=1000000)))=(decide ((AB p.Slots i).Term.Add < -1000000)||decide (1000000<(AB p.Slots i).Term.Add)):=by
   rw [Bool.not_and,←decide_not,←decide_not];congr 1 <;> rw [decide_eq_decide] <;> omega
  rw [e];cases (!(PJ t p (AB p.Slots i).Node (AB p.Slots i).Attr).2||decide ((AB p.Slots i).Term.Var < -1)||decide (p.Vars<=(AB p.Slots i).Term.Var))
  ·simp only [Bool.false_eq_true,if_false,bs,Bool.false_or,J4]
  ·rfl
end Go.Sf.Sc
namespace Go.Sf
theorem SS {l:IO} {R:Int->Int->Prop} (h:l.Pairwise R) {i j:Int} (a:0<=i) (b:i<j) (c:j<l.length):R (AB l i) (AB l j):=by
 have:=(List.pairwise_iff_getElem.1 h) i.toNat j.toNat (by omega) (by omega) (by omega);unfold AB;rw [List.getD_eq_getElem?_getD,List.getD_eq_getElem?_getD,List.getElem?_eq_getElem (by omega),List.getElem?_eq_getElem (by omega)];exact this
theorem Xd {l:IO} {R:Int->Int->Prop} (h:∀ i j:Int,0<=i->i<j->j<l.length->R (AB l i) (AB l j)):l.Pairwise R:=by
 refine List.pairwise_iff_getElem.2 (fun i j a b c=>?_);have:=h i j (by omega) (by omega) (by omega);unfold AB at this;rw [List.getD_eq_getElem?_getD,List.getD_eq_getElem?_getD,Int.toNat_natCast,Int.toNat_natCast,List.getElem?_eq_getElem a,List.getElem?_eq_getElem b] at this;exact this
end Go.Sf
namespace Go.Sf.Sc
open Go Go.Sf
def cR (l:IO) (v:Int):Bool:=l.any fun x=>decide (v=x)
theorem cT {l:IO} {v:Int}:cR l v=true↔v∈l:=by
 unfold cR;rw [List.any_eq_true];simp
theorem VF {c:Int->ci} {a b:Int} (e:∀ i,c i≠some 0) (h:(fst c a b).getD 0=0):∀ i,a<=i->i<b->c i=none:=by
 have:fst c a b=none:=by
  cases d:fst c a b with
  | none=>rfl
  | some r=>
   rw [d] at h;simp only [Option.getD] at h;subst h;obtain ⟨i,_,_,f,_⟩:=DZ d;exact (e i f).elim
 exact D9.1 this
end Go.Sf.Sc
namespace Go.Sf.Sc
open Go Go.Sf
def Ke (a b:Graph) (m:Morphism) (i:Int):ci:=
 if AB m.Nodes i<0∨b.Nodes.length<=AB m.Nodes i then some 6 else if AB b.Nodes (AB m.Nodes i)≠AB a.Nodes i then some 13 else none
def Hy (a b:Graph) (m:Morphism) (i:Int):ci:=
 if AB m.Edges i<0∨b.Edges.length<=AB m.Edges i then some 6 else
 if (AB a.Edges i).Type'≠(AB b.Edges (AB m.Edges i)).Type' then some 13 else
 if AB m.Nodes (AB a.Edges i).From≠(AB b.Edges (AB m.Edges i)).From∨AB m.Nodes (AB a.Edges i).To≠(AB b.Edges (AB m.Edges i)).To then some 11 else none
def MP (a b:Graph) (m:Morphism):Int:=
 if DJ a≠0 then DJ a else if DJ b≠0 then DJ b else if m.Nodes.length≠a.Nodes.length∨m.Edges.length≠a.Edges.length then 20 else
 match fst (Ke a b m) 0 m.Nodes.length with
 | some e=>e
 | none=>(fst (Hy a b m) 0 m.Edges.length).getD 0
structure d8 (a b:Graph) (m:Morphism):Prop where
 ga:Ki a
 gb:Ki b
 nlen:m.Nodes.length=a.Nodes.length
 elen:m.Edges.length=a.Edges.length
 node:∀ i:Int,0<=i->i<m.Nodes.length->(0<=AB m.Nodes i∧AB m.Nodes i<b.Nodes.length)∧AB b.Nodes (AB m.Nodes i)=AB a.Nodes i
 edge:∀ i:Int,0<=i->i<m.Edges.length->(0<=AB m.Edges i∧AB m.Edges i<b.Edges.length)∧(AB a.Edges i).Type'=(AB b.Edges (AB m.Edges i)).Type' ∧
  AB m.Nodes (AB a.Edges i).From=(AB b.Edges (AB m.Edges i)).From∧AB m.Nodes (AB a.Edges i).To=(AB b.Edges (AB m.Edges i)).To
theorem eM {a b:Graph} {m:Morphism} (h:MP a b m=0):d8 a b m:=by
 unfold MP at h;split at h
 ·omega
 split at h
 ·omega
 split at h
 ·cases h
 rename_i j l n;have e:fst (Ke a b m) 0 m.Nodes.length=none:=by
  split at h
  ·rename_i r f;obtain ⟨i,_,_,k,_⟩:=DZ f;subst h;unfold Ke at k;split at k
   ·cases k
   ·split at k <;> cases k
  ·assumption
 rw [e] at h;have g:=VF (fun i=>by
  unfold Hy;split
  ·simp
  ·split
   ·simp
   ·split <;> simp) h
 refine ⟨GA (by omega),GA (by omega),by omega,by omega,fun i c d=>?_,fun i c d=>?_⟩
 ·have:=D9.1 e i c d;unfold Ke at this;split at this
  ·cases this
  ·split at this
   ·cases this
   ·rename_i x y;exact ⟨by omega,Classical.not_not.1 y⟩
 ·have:=g i c d;unfold Hy at this;split at this
  ·cases this
  ·split at this
   ·cases this
   ·split at this
    ·cases this
    ·rename_i x y z;exact ⟨by omega,Classical.not_not.1 y,Classical.not_not.1 (fun h=>z (.inl h)),Classical.not_not.1 (fun h=>z (.inr h))⟩
theorem eO (a b:Graph) (m:Morphism):FN a b m=some (MP a b m):=by
 unfold FN MP;rw [Oh,bs,Oh,bs];refine Ie fun k=>Ie fun n=>P1 (by simp; try omega) fun q=>?_;have ga:=GA k;have gb:=GA n;rw [C7 (Ke a b m),F8]
 ·cases o:fst (Ke a b m) 0 m.Nodes.length with
  | some e=>rfl
  | none=>
   have p:=D9.1 o;dsimp only;rw [C7 (Hy a b m),Hq];intro i f j _;unfold Hy;rw [AI f j,bs];by_cases c:AB m.Edges i<0∨b.Edges.length<=AB m.Edges i
   ·rw [d0 (by simpa using c),d0 c]; rfl
   ·have r:=ga.fit _ (AQ (l:=a.Edges) f (by omega));rw [d1 (by simpa using c),d1 c,AI f (by omega),bs,AI (by omega) (by omega),bs];by_cases d:(AB a.Edges i).Type'=(AB b.Edges (AB m.Edges i)).Type'
    ·rw [d1 (by simpa using d),d1 (by simpa using d),AI (by omega) (by omega),bs];by_cases g:AB m.Nodes (AB a.Edges i).From=(AB b.Edges (AB m.Edges i)).From
     ·rw [d1 (by simpa using g),AI (by omega) (by omega),bs,bs];by_cases h:AB m.Nodes (AB a.Edges i).To=(AB b.Edges (AB m.Edges i)).To
      ·rw [d1 (by simpa using h),d1 (by simp [g,h])]; rfl
      ·rw [d0 (by simpa using h),d0 (.inr h)]; rfl
     ·rw [d0 (by simpa using g),bs,d0 rfl,d0 (.inl g)]; rfl
    ·rw [d0 (by simpa using d),d0 d]; rfl
 ·intro i f j _;unfold Ke;rw [AI f j,bs];by_cases c:AB m.Nodes i<0∨b.Nodes.length<=AB m.Nodes i
  ·rw [d0 (by simpa using c),d0 c]; rfl
  ·rw [d1 (by simpa using c),d1 c,AI (by omega) (by omega),bs,AI f (by omega),bs];by_cases d:AB b.Nodes (AB m.Nodes i)=AB a.Nodes i
   ·rw [d1 (by simpa using d),d1 (by simpa using d)]; rfl
   ·rw [d0 (by simpa using d),d0 d]; rfl
theorem Rm {x y:Prop} [Decidable x] [Decidable y]:(if decide x=true then some true else some (decide y))=some (decide (x∨y)):=by
 by_cases a:x <;> simp [a]
theorem eT (a b:Graph) (m:Morphism):Ko a b m=some (MP a b m):=by
 unfold Ko MP;rw [Oj,bs,Oj,bs];refine Ie fun k=>Ie fun n=>P1 (by simp; try omega) fun q=>?_;have ga:=GA k;have gb:=GA n;rw [show (a.Nodes.length:Int)=m.Nodes.length by omega,show (a.Edges.length:Int)=m.Edges.length by omega,C7 (Ke a b m),F8]
 ·cases o:fst (Ke a b m) 0 m.Nodes.length with
  | some e=>rfl
  | none=>
   have p:=D9.1 o;dsimp only;rw [C7 (Hy a b m),Hq];intro i f j _;unfold Hy;rw [AI f j];simp only [bs,Rm];by_cases c:AB m.Edges i<0∨b.Edges.length<=AB m.Edges i
   ·rw [d0 (by simpa using c),d0 c]; rfl
   ·have r:=ga.fit _ (AQ (l:=a.Edges) f (by omega));rw [d1 (by simpa using c),d1 c,AI f (by omega),bs,AI (by omega) (by omega),bs];by_cases d:(AB a.Edges i).Type'=(AB b.Edges (AB m.Edges i)).Type'
    ·rw [d1 (by simpa using d),d1 (by simpa using d),AI (by omega) (by omega),bs];by_cases g:AB m.Nodes (AB a.Edges i).From=(AB b.Edges (AB m.Edges i)).From
     ·rw [d1 (by simpa using g),AI (by omega) (by omega),bs,bs];by_cases h:AB m.Nodes (AB a.Edges i).To=(AB b.Edges (AB m.Edges i)).To
      ·rw [d1 (by simpa using h),d1 (by simp [g,h])]; rfl
      ·rw [d0 (by simpa using h),d0 (.inr h)]; rfl
     ·rw [d0 (by simpa using g),bs,d0 rfl,d0 (.inl g)]; rfl
    ·rw [d0 (by simpa using d),d0 d]; rfl
 ·intro i f j _;unfold Ke;rw [AI f j];simp only [bs,Rm];by_cases c:AB m.Nodes i<0∨b.Nodes.length<=AB m.Nodes i
  ·rw [d0 (by simpa using c),d0 c]; rfl
  ·rw [d1 (by simpa using c),d1 c,AI (by omega) (by omega),bs,AI f (by omega),bs];by_cases d:AB b.Nodes (AB m.Nodes i)=AB a.Nodes i
   ·rw [d1 (by simpa using d),d1 (by simpa using d)]; rfl
   ·rw [d0 (by simpa using d),d0 d]; rfl
def Lk (l:IO):Bool:=!anyR (fun i=>anyR (fun j=>decide (AB l i=AB l j)) 0 i) 0 l.length
theorem QR {l:IO}:Lk l=true↔l.Nodup:=by
 unfold Lk;rw [Bool.not_eq_true',E6];constructor
 ·intro h;refine Xd (fun i j a b c=>?_);have:=h j (by omega) c;rw [E6] at this;have:=this i a b;rw [decide_eq_false_iff_not] at this;exact fun e=>this e.symm
 ·intro h i k d;rw [E6];intro j f g;rw [decide_eq_false_iff_not];exact fun e=>SS h f g d e.symm
theorem ZW (l:IO):Iy l=some (Lk l):=by
 unfold Iy Lk;rw [CR (fun i=>anyR (fun j=>decide (AB l i=AB l j)) 0 i) false]
 ·cases anyR (fun i=>anyR (fun j=>decide (AB l i=AB l j)) 0 i) 0 l.length <;> rfl
 ·intro i a b _;rw [CR (fun j=>decide (AB l i=AB l j)) false]
  ·cases anyR (fun j=>decide (AB l i=AB l j)) 0 i <;> rfl
  ·intro j c d _;rw [AI a b,bs,AI c (by omega),bs,J4]
theorem Wv {l:IO} (b:l.length<=1000):∃ k,IU l=some k∧decide (k=(l.length:Int))=Lk l:=by
 have a:(Nl l).length=l.length:=(LU l).length_eq;refine ⟨((Go.Lib.compact (Nl l)).length:Int),?_,?_⟩
 ·unfold IU slices_Clone_int slices_Sort_int slices_Compact_int;rw [FE (by unfold BN; omega),bs,d0 (by unfold BN; omega),bs,d0 (by rw [a]; unfold BN; omega),bs]
 ·rw [Bool.eq_iff_iff,QR,zzX,←(LU l).nodup_iff,←Q6 (M3 l),a];omega
def Nb (m:Morphism):Bool:=Lk m.Nodes&&Lk m.Edges
theorem qM {a b:Graph} {m:Morphism} (h:MP a b m=0):EU a b m=some (Nb m):=by
 have ho:=eM h;have:=ho.ga.nodes;have:=ho.ga.edges;have:=ho.nlen;have:=ho.elen;obtain ⟨k,c,d⟩:=Wv (l:=m.Nodes) (by omega);obtain ⟨j,e,f⟩:=Wv (l:=m.Edges) (by omega);unfold EU Nb;rw [eO,h,bs,d0 (decide_eq_true rfl),c];simp only [bs,e,d,f];cases Lk m.Nodes <;> rfl
theorem qP {a b:Graph} {m:Morphism} (h:MP a b m=0):JW a b m=some (Nb m):=by
 unfold JW Nb;rw [eT,h,bs,d0 (decide_eq_true rfl),ZW];simp only [bs,ZW];cases Lk m.Nodes <;> rfl
def Sh (t:AC) (g:Graph) (i:Int):Bool:=QV t (AB g.Edges i).Type' (AB g.Nodes (AB g.Edges i).From) (AB g.Nodes (AB g.Edges i).To)
end Go.Sf.Sc
namespace Go.Sf.Sc
open Go Go.Sf
structure QJ (p:Pattern):Prop where
 nodes:p.Graph.Nodes.length<=45
 edges:p.Graph.Edges.length<=90
 slots:p.Slots.length<=15
 tests:p.Tests.length<=15
structure bu (m:Morphism):Prop where
 nodes:m.Nodes.length<=140
 edges:m.Edges.length<=140
inductive EI:AA->Prop where
 | mk (c:AA) (hq:QJ c.Pattern) (hm:bu c.Map) (hk:∀ k∈c.Kids,EI k):EI c
theorem EI.q {c:AA} (h:EI c):QJ c.Pattern:=by cases h; assumption
theorem EI.m {c:AA} (h:EI c):bu c.Map:=by cases h; assumption
theorem EI.k {c:AA} (h:EI c):∀ k∈c.Kids,EI k:=by cases h; assumption
theorem EP {c k:AA} (h:k∈c.Kids):SizeOf.sizeOf k<SizeOf.sizeOf c:=by
 have:=List.sizeOf_lt_of_mem h;cases c;simp only [AA.mk.sizeOf_spec] at *;omega
theorem D5 (c:AA):0<SizeOf.sizeOf c:=by
 cases c;simp only [AA.mk.sizeOf_spec];omega
def OT (c:AA):Bool:=decide (c.Map.Nodes.length=0∧c.Map.Edges.length=0∧c.Pattern.Graph.Nodes.length=0∧c.Pattern.Graph.Edges.length=0∧c.Pattern.Slots.length=0∧c.Pattern.Tests.length=0∧c.Pattern.Vars=0)
theorem jL {c:AA} (b:EI c):G1 c=some (OT c):=by
 have a:=b.q;have d:=b.m;have:=a.nodes;have:=a.edges;have:=a.slots;have:=a.tests;have:=d.nodes;have:=d.edges;unfold G1 OT;rw [BG (n:=(c.Map.Nodes.length:Int)+c.Map.Edges.length) (by omega) (by omega),BG (n:=(c.Map.Nodes.length:Int)+c.Map.Edges.length+c.Pattern.Graph.Nodes.length) (by omega) (by omega),
  BG (n:=(c.Map.Nodes.length:Int)+c.Map.Edges.length+c.Pattern.Graph.Nodes.length+c.Pattern.Graph.Edges.length) (by omega) (by omega),
  BG (n:=(c.Map.Nodes.length:Int)+c.Map.Edges.length+c.Pattern.Graph.Nodes.length+c.Pattern.Graph.Edges.length+c.Pattern.Slots.length) (by omega) (by omega),
  BG (n:=(c.Map.Nodes.length:Int)+c.Map.Edges.length+c.Pattern.Graph.Nodes.length+c.Pattern.Graph.Edges.length+c.Pattern.Slots.length+c.Pattern.Tests.length) (by omega) (by omega)]
 congr 1;rw [Bool.eq_iff_iff];simp only [zzZ,zzX];omega
theorem cz {c:AA} (b:EI c):I5 c=some (OT c):=by
 have a:=b.q;have d:=b.m;have:=a.nodes;have:=a.edges;have:=a.slots;have:=a.tests;have:=d.nodes;have:=d.edges;unfold I5 OT;rw [BG (n:=(c.Map.Nodes.length:Int)+c.Map.Edges.length) (by omega) (by omega),BG (n:=(c.Map.Nodes.length:Int)+c.Map.Edges.length+c.Pattern.Graph.Nodes.length) (by omega) (by omega),
  BG (n:=(c.Map.Nodes.length:Int)+c.Map.Edges.length+c.Pattern.Graph.Nodes.length+c.Pattern.Graph.Edges.length) (by omega) (by omega),
  BG (n:=(c.Pattern.Slots.length:Int)+c.Pattern.Tests.length) (by omega) (by omega)]
 congr 1;rw [Bool.eq_iff_iff];simp only [zzZ,zzX];omega
def Qb (c:AA):Bool:=
 if c.Kind=1 then decide (c.Kids.length=0)&&OT c else if c.Kind=2 then decide (c.Kids.length=1)&&OT c else
 if c.Kind=3∨c.Kind=4 then decide (1<=c.Kids.length)&&OT c else if c.Kind=5 then decide (c.Kids.length=1) else false
def QH:Nat->AA->Bool
 | 0,_=>false
 | n+1,c=>Qb c&&c.Kids.all (QH n)
theorem jW:∀ (N:Nat) (c:AA),SizeOf.sizeOf c<=N->EI c->∀ n,2*N<=n->B7 n c=some (QH N c)
 | 0,c,h,_,_,_=>by have:=D5 c; omega
 | N+1,c,h,l,n,s=>by
  obtain ⟨n,rfl⟩:∃ m,n=m+2:=⟨n - 2,by omega⟩;rw [B7,QH,jL l];have d:B6 c.Kids (CD (n+1))=some (!c.Kids.all (QH N)):=by
   rw [Ow (p:=fun k=>!QH N k) (fun k d=>by
    have:=EP d;rw [CD,jW N k (by omega) (l.k k d) n (by omega)]; rfl),List.all_eq_not_any_not,Bool.not_not]
  rw [d];unfold Qb;simp only [bs,zzX];generalize OT c=b;generalize c.Kids.all (QH N)=w;have o:decide ((c.Kids.length:Int)=0)=decide (c.Kids.length=0):=by rw [decide_eq_decide]; omega
  have q:decide ((c.Kids.length:Int)=1)=decide (c.Kids.length=1):=by rw [decide_eq_decide]; omega
  have r:decide (1<=(c.Kids.length:Int))=decide (1<=c.Kids.length):=by rw [decide_eq_decide]; omega
  simp only [show ((c.Kids.length:Int)=0)↔c.Kids.length=0 by omega,show ((c.Kids.length:Int)=1)↔c.Kids.length=1 by omega,show (1<=(c.Kids.length:Int))↔1<=c.Kids.length by omega];by_cases e:c.Kind=1
  ·rw [d0 e,d0 e];by_cases a:c.Kids.length=0 <;> cases b <;> cases w <;> simp [a]
  ·rw [d1 e,d1 e];by_cases f:c.Kind=2
   ·rw [d0 f,d0 f];by_cases a:c.Kids.length=1 <;> cases b <;> cases w <;> simp [a]
   ·rw [d1 f,d1 f];by_cases i:c.Kind=3
    ·simp only [i,if_true,true_or];by_cases a:1<=c.Kids.length <;> cases b <;> cases w <;> simp [a]
    ·by_cases j:c.Kind=4
     ·simp only [j,if_true,or_true,show ¬ (4:Int)=3 by decide,if_false];by_cases a:1<=c.Kids.length <;> cases b <;> cases w <;> simp [a]
     ·simp only [i,j,if_false,or_false];by_cases g:c.Kind=5
      ·rw [d0 g,d0 g];by_cases a:c.Kids.length=1 <;> cases w <;> simp [a]
      ·rw [d1 g,d1 g];cases w <;> rfl
theorem jc {c:AA} (i:EI c):MA c=some (Qb c):=by
 unfold MA Qb;rw [cz i];simp only [bs,zzX];generalize OT c=b;simp only [show ((c.Kids.length:Int)=0)↔c.Kids.length=0 by omega,show ((c.Kids.length:Int)=1)↔c.Kids.length=1 by omega,show (0<(c.Kids.length:Int))↔1<=c.Kids.length by omega];by_cases d:c.Kind=1
 ·rw [d0 d,d0 d];by_cases a:c.Kids.length=0 <;> cases b <;> simp [a]
 ·rw [d1 d,d1 d];by_cases e:c.Kind=2
  ·rw [d0 e,d0 e];by_cases a:c.Kids.length=1 <;> cases b <;> simp [a]
  ·rw [d1 e,d1 e];by_cases g:c.Kind=3
   ·simp only [g,if_true,true_or,decide_true,bs];by_cases a:1<=c.Kids.length <;> cases b <;> simp [a]
   ·by_cases h:c.Kind=4
    ·simp only [h,if_true,or_true,show ¬ (4:Int)=3 by decide,if_false,decide_true,bs];by_cases a:1<=c.Kids.length <;> cases b <;> simp [a]
    ·simp only [g,h,if_false,or_false,decide_false,bs,Bool.false_eq_true];by_cases f:c.Kind=5
     ·rw [d0 f,d0 f]
     ·rw [d1 f,d1 f]
theorem iY {α:Type} [Inhabited α] {l:List α} {p:α->Bool}:l.all p=!anyR (fun i=>!p (AB l i)) 0 l.length:=by
 rw [List.all_eq_not_any_not,Kc]
theorem eR:∀ (N:Nat) (c:AA),SizeOf.sizeOf c<=N->EI c->∀ n,N<=n->F7 n c=some (QH N c)
 | 0,c,h,_,_,_=>by have:=D5 c; omega
 | N+1,c,h,e,n,f=>by
  obtain ⟨n,rfl⟩:∃ m,n=m+1:=⟨n - 1,by omega⟩;rw [F7,QH,jc e,bs,iY,CR (fun i=>!QH N (AB c.Kids i)) false]
  ·cases Qb c
   ·rfl
   ·cases anyR (fun i=>!QH N (AB c.Kids i)) 0 c.Kids.length <;> rfl
  ·intro i a b _;have d:=AQ (l:=c.Kids) a b;have:=EP d;rw [AI a b,bs,eR N _ (by omega) (e.k _ d) n (by omega),bs,J4]
noncomputable def bl (c:AA):Bool:=QH (SizeOf.sizeOf c) c
theorem qO {c:AA} (a:EI c):HO c=some (bl c):=FJ (2*SizeOf.sizeOf c) fun n b=>jW _ c (d2 _) a n b
theorem qT {c:AA} (a:EI c):Nh c=some (bl c):=FJ (SizeOf.sizeOf c) fun n b=>eR _ c (d2 _) a n b
def KS:Nat->AA->Int × Int
 | 0,_=>(0,0)
 | n+1,c=>
  let s:=c.Kids.foldl (fun s k=>(A4 (s.1+(KS n k).1),max s.2 (KS n k).2)) ((1,0):Int × Int)
  (s.1,if c.Kind=5 then A4 (s.2+1) else s.2)
theorem VP {α σ:Type} [Inhabited α] {l:List α} {g:σ->α->σ} {s:σ} {f:Int->σ->Option σ} (h:∀ (i:Int) s,0<=i->i<l.length->f i s=some (g s (AB l i))):forA f 0 l.length s=some (l.foldl g s):=by
 rw [DO (fun i=>(l.take i.toNat).foldl g s) (by omega) (by simp)]
 ·rw [Int.toNat_natCast,List.take_length]
 ·intro i a b;rw [h i _ a b,GJ a b,List.foldl_append]; rfl
theorem ah:∀ (N:Nat) (c:AA),SizeOf.sizeOf c<=N->∀ n,N<=n->DF n c=some (KS N c)
 | 0,c,h,_,_=>by have:=D5 c; omega
 | N+1,c,h,n,e=>by
  obtain ⟨n,rfl⟩:∃ m,n=m+1:=⟨n - 1,by omega⟩;rw [DF,KS,VP (g:=fun s k=>(A4 (s.1+(KS N k).1),max s.2 (KS N k).2))]
  ·simp only [bs,zzX];by_cases a:c.Kind=5
   ·rw [d0 a,d0 a]; rfl
   ·rw [d1 a,d1 a]; rfl
  ·intro i s b d;have:=EP (AQ (l:=c.Kids) b d);rw [AI b d,bs,ah N _ (by omega) n (by omega)]; rfl
theorem a8:∀ (N:Nat) (c:AA),SizeOf.sizeOf c<=N->∀ n,N<=n->G6 n c=some (KS N c)
 | 0,c,h,_,_=>by have:=D5 c; omega
 | N+1,c,h,n,e=>by
  obtain ⟨n,rfl⟩:∃ m,n=m+1:=⟨n - 1,by omega⟩;rw [G6,KS,VP (g:=fun s k=>(A4 (s.1+(KS N k).1),max s.2 (KS N k).2))]
  ·simp only [bs,zzX];by_cases a:c.Kind=5
   ·rw [d0 a,d0 a]; rfl
   ·rw [d1 a,d1 a]; rfl
  ·intro i s b d;have:=EP (AQ (l:=c.Kids) b d);rw [AI b d,bs,a8 N _ (by omega) n (by omega)]; rfl
noncomputable def Qf (c:AA):Int × Int:=KS (SizeOf.sizeOf c) c
noncomputable def LN (c:AA):Int:=if bl c=false then 1 else if 12<(Qf c).1∨3<(Qf c).2 then 3 else 0
theorem f0 {c:AA} (a:EI c):F3 c=some (LN c):=by
 unfold F3 LN;rw [qO a,bs,show If c=some (Qf c) from FJ (SizeOf.sizeOf c) fun n b=>ah _ c (d2 _) n b,bs];exact X9 fun _=>P1 (by simp) fun _=>rfl
theorem gN {c:AA} (a:EI c):L7 c=some (LN c):=by
 unfold L7 LN;rw [qT a,bs,show ON c=some (Qf c) from FJ (SizeOf.sizeOf c) fun n b=>a8 _ c (d2 _) n b,bs];exact X9 fun _=>P1 (by simp) fun _=>rfl
theorem Ty (g:Graph):DJ g≠9:=by
 unfold DJ;split
 ·decide
 ·split
  ·decide
  ·split <;> decide
theorem Qq {t:AC} {p:Pattern} (a:(BF t).2=0) (h:J6 t p=0∨J6 t p=9):0<=p.Vars∧p.Vars<=12:=by
 have b:=Ty p.Graph;unfold J6 at h;rw [d1 (by simp [a])] at h;split at h
 ·omega
 ·split at h
  ·omega
  ·split at h
   ·omega
   ·omega
def MN (t:AC) (q:Pattern) (v:Int):Int:=if J6 t q≠9 then J6 t q else if anyR (fun i=>!LD q i) v q.Vars=true then 9 else 0
theorem rX {α:Type} {P:Prop} [Decidable P] {v:α} {X:Option α} {Y:α} (h:P->X=some Y):(if (!decide P)=true then some v else X)=some (if ¬ P then v else Y):=by
 by_cases a:P
 ·simp [a,h a]
 ·simp [a]
theorem qN {t:AC} (e:BX t) (f:(BF t).2=0) {q:Pattern} {v:Int} (k:0<=v) (g:v<=q.Vars):E2 t q v=some (MN t q v):=by
 unfold E2 MN;rw [Vz e,bs];refine rX fun d=>?_;have hv:=Qq f (.inr d);rw [QI (c:=fun i=>(if (!LD q i)=true then some () else none).map fun _=>.inr 9) (a:=v) (b:=q.Vars) g]
 ·rw [Od,PU];cases anyR (fun i=>!LD q i) v q.Vars <;> rfl
 ·intro i l j _;rw [d0 (by simpa using j),show (fun h=>JB h i)=(fun y=>some (decide (y.Term.Var=i))) from rfl,fO,bs,show (q.Slots.any fun y=>decide (y.Term.Var=i))=LD q i from rfl,d,BG (by omega) (by omega)];cases LD q i <;> rfl
 ·rw [d1 (by simp)]
theorem gM (p:Pattern) (v:Int):ND p v=some (LD p v):=eV p v
theorem qQ {t:AC} (a:BX t) (q:Pattern) (v:Int):L9 t v q=some (if q.Vars<v then 20 else MN t q v):=by
 unfold L9 MN;refine P1 (by simp) fun _=>?_;rw [ZX a,bs];refine rX fun b=>?_;rw [b,CR (fun i=>!LD q i) 9]
 ·cases anyR (fun i=>!LD q i) v q.Vars <;> rfl
 ·intro i c d _;rw [gM,bs,J4]
def HD:Nat->AC->Pattern->AA->Int
 | 0,_,_,_=>0
 | N+1,t,p,c=>
  if c.Kind=5 then
   if c.Pattern.Vars<p.Vars then 20 else if MN t c.Pattern p.Vars≠0 then MN t c.Pattern p.Vars else
   if MP p.Graph c.Pattern.Graph c.Map≠0 then MP p.Graph c.Pattern.Graph c.Map else if Nb c.Map=false then 1 else
   (fst (fun i=>nz (HD N t c.Pattern (AB c.Kids i))) 0 c.Kids.length).getD 0
  else (fst (fun i=>nz (HD N t p (AB c.Kids i))) 0 c.Kids.length).getD 0
theorem cV {t:AC} (a:(BF t).2=0) {q:Pattern} {v:Int} (h:MN t q v=0):0<=q.Vars:=by
 unfold MN at h;split at h
 ·exact (Qq a (.inl h)).1
 ·rename_i b;exact (Qq a (.inr (Classical.not_not.1 b))).1
theorem aj {t:AC} (g:BX t) (e:(BF t).2=0):∀ (N:Nat) (c:AA) (p:Pattern),0<=p.Vars->SizeOf.sizeOf c<=N->∀ n,N<=n->C0 n t p c=some (HD N t p c)
 | 0,c,p,_,h,_,_=>by have:=D5 c; omega
 | N+1,c,p,o,h,n,w=>by
  obtain ⟨n,rfl⟩:∃ m,n=m+1:=⟨n - 1,by omega⟩;rw [C0,HD];have a:∀ q:Pattern,0<=q.Vars->(thenR (forR (ρ:=Int) (fun (r:Int) (_:Unit)=>
    (AM c.Kids r).bind fun f=>
    (C0 n t q f).bind fun b=>
    if (!decide (b=0))=true then
    some (.ret b)
    else
    some (.next ())) 0 (c.Kids.length:Int) ()) (fun _=>
    some 0) (fun s=>some s))=some ((fst (fun i=>nz (HD N t q (AB c.Kids i))) 0 c.Kids.length).getD 0):=by
   intro q v;rw [C7 (fun i=>nz (HD N t q (AB c.Kids i))),Hq];intro i j k _;have:=EP (AQ (l:=c.Kids) j k);rw [AI j k,bs,aj g e N _ q v (by omega) n (by omega),bs,P8]
  by_cases d:c.Kind=5
  ·rw [d0 (by simpa using d),d0 d];refine P1 (by simp) fun hv=>?_;rw [qN g e o (by omega),bs];refine Ie fun hi=>?_;rw [eO,bs];refine Ie fun u=>?_;rw [qM u,bs];exact X9 fun _=>a _ (cV e hi)
  ·rw [d1 (by simpa using d),d1 d];exact a p o
theorem bA {t:AC} (f:BX t):∀ (N:Nat) (c:AA) (p:Pattern),SizeOf.sizeOf c<=N->∀ n,N<=n->HH n t p c=some (HD N t p c)
 | 0,c,p,h,_,_=>by have:=D5 c; omega
 | N+1,c,p,h,n,s=>by
  obtain ⟨n,rfl⟩:∃ m,n=m+1:=⟨n - 1,by omega⟩;rw [HH,HD];have a:∀ q:Pattern,(thenR (forR (ρ:=Int) (fun (k:Int) (_:Unit)=>
    (AM c.Kids k).bind fun e=>
    (HH n t q e).bind fun b=>
    if (!decide (b=0))=true then
    some (.ret b)
    else
    some (.next ())) 0 (c.Kids.length:Int) ()) (fun _=>
    some 0) (fun o=>some o))=some ((fst (fun i=>nz (HD N t q (AB c.Kids i))) 0 c.Kids.length).getD 0):=by
   intro q;rw [C7 (fun i=>nz (HD N t q (AB c.Kids i))),Hq];intro i g j _;have:=EP (AQ (l:=c.Kids) g j);rw [AI g j,bs,bA f N _ q (by omega) n (by omega),bs,P8]
  by_cases d:c.Kind=5
  ·rw [d0 (by simpa using d),d0 d,qQ f,bs];by_cases hv:c.Pattern.Vars<p.Vars
   ·simp [hv]
   ·simp only [d1 hv];refine Ie fun hi=>?_;rw [eT,bs];refine Ie fun r=>?_;rw [qP r,bs];exact X9 fun _=>a _
  ·rw [d1 (by simpa using d),d1 d];exact a p
noncomputable def Ih (t:AC) (p:Pattern) (c:AA):Int:=if J6 t p≠0 then J6 t p else if LN c≠0 then LN c else HD (SizeOf.sizeOf c) t p c
theorem jM {t:AC} (a:BX t) (b:(BF t).2=0) (p:Pattern) {c:AA} (d:EI c):ES t p c=some (Ih t p c):=by
 unfold ES Ih;rw [Vz a,bs];refine Ie fun h=>?_;rw [f0 d,bs,Option.bind_fun_some];exact Ie fun _=>FJ (SizeOf.sizeOf c) fun n e=>aj a b _ c p (Qq b (.inl h)).1 (d2 _) n e
theorem W5 {t:AC} (a:BX t) (p:Pattern) {c:AA} (b:EI c):Kt t p c=some (Ih t p c):=by
 unfold Kt Ih;rw [ZX a,bs];refine Ie fun h=>?_;rw [gN b,bs,Option.bind_fun_some];exact Ie fun _=>FJ (SizeOf.sizeOf c) fun n d=>bA a _ c p (d2 _) n d
end Go.Sf.Sc
namespace Go.Sf.Sc
open Go Go.Sf
def leafB (t:AC) (l:IO):Bool:=!(l.any fun k=>t.Nodes.any fun n=>decide (n.Parent=k))
end Go.Sf.Sc
namespace Go.Sf
theorem SD {ρ:Type} {f:Int->Option (CY Int ρ)} (p:Int->Bool) (v:ρ) {a b:Int} (d:a<=b) (h:∀ i,a<=i->i<b->f i=some (if p i=true then .ret v else .next (i+1))) (e:f b=some (.brk b)):It f a=some (if anyR p a b=true then .inr v else .inl b):=by
 rw [QI (c:=fun i=>(if p i=true then some () else none).map fun _=>.inr v) d]
 ·rw [Od,PU];cases anyR p a b <;> rfl
 ·intro i g j _;rw [h i g j];cases p i <;> rfl
 ·exact e
theorem Of {α:Type} {e:α->TV} {n:Nat} {l:List α} (h:TV.Sm (.list n (l.map e))):(l.length:Int)<=140737488351232∧∀ x∈l,(e x).Sm:=by
 simp only [TV.Sm,d6] at h;refine ⟨by have:=h.1; unfold reachBytes at this; omega,fun x a=>QC.1 h.2 _ (List.mem_map.2 ⟨x,a,rfl⟩)⟩
end Go.Sf
namespace Go.Sf.Sc
open Go Go.Sf
def WC (a:Attr):Bool:=(decide (40<(a.Name.size:Int))||decide (25<(a.Names.length:Int)))||anyR (fun i=>decide (40<((AB a.Names i).size:Int))) 0 a.Names.length
theorem cF {a:Attr} (h:WC a=false):RC a:=by
 unfold WC at h;simp only [Bool.or_eq_false_iff,decide_eq_false_iff_not,E6] at h;refine ⟨by omega,by omega,fun x b=>?_⟩;obtain ⟨i,c,d,rfl⟩:=EH b;have:=h.2 i c d;omega
theorem U7 {t:AC} (P:(AV t).Sm):∃ b,Mc t=some b∧(b=true->BX t):=by
 have F:TV.Sms [_,_]:=P;obtain ⟨o,J⟩:=Of (e:=F5) F.1;unfold Mc;by_cases hl:20<t.Nodes.length∨30<t.Edges.length
 ·rw [d0 (by simp; omega)];exact ⟨false,rfl,fun h=>by cases h⟩
 rw [d1 (by simp; omega)];rcases WX (f:=(fun (v:Int) (M:Int)=>
 (AM t.Nodes v).bind fun q=>
 (if (decide (30<(A4 (M+(q.Attrs.length:Int)))))=true then some true else ((AM t.Nodes v).bind fun A=>
 some (decide (40<(A.Name.size:Int))))).bind fun B=>
 if B=true then
 some (CY.ret false)
 else
 thenR (It (ρ:=Bool) (fun (s2:Int)=>
 (AM t.Nodes v).bind fun C=>
 if (decide (s2<(C.Attrs.length:Int)))=true then
 (AM t.Nodes v).bind fun D=>
 (AM D.Attrs s2).bind fun m=>
 if ((decide (40<(m.Name.size:Int)))||(decide (25<(m.Names.length:Int))))=true then
 some (.ret false)
 else
 thenR (It (ρ:=Bool) (fun (p:Int)=>
 if (decide (p<(m.Names.length:Int)))=true then
 (AM m.Names p).bind fun E=>
 if (decide (40<(E.size:Int)))=true then
 some (.ret false)
 else
 some (.next (A4 (p+1)))
 else
 some (.brk p)) 0) (fun p=>
 some (.next (A4 (s2+1)))) (fun Q=>some (.ret Q))
 else
 some (.brk s2)) 0) (fun s2=>
 some (.next (A4 (M+(q.Attrs.length:Int))))) (fun R=>some (.ret R))))
  (fun i s=>0<=s∧s<=30∧∀ j,0<=j->j<i->((AB t.Nodes j).Name.size:Int)<=40∧(AB t.Nodes j).Attrs.length<=30∧∀ a∈(AB t.Nodes j).Attrs,RC a) (fun _=>False) (fun r=>r=false) (a:=0) (b:=t.Nodes.length) (s:=0) (by omega) ⟨by omega,by omega,fun j u g=>by omega⟩ (fun i s w x S=>by
   have U:=J _ (AQ (l:=t.Nodes) w x);have G:TV.Sms [_,_,_,_]:=U;obtain ⟨N,K⟩:=Of (e:=Ii) G.2.2.2.1;obtain ⟨Y,Z,L⟩:=S;have V:A4 (s+(AB t.Nodes i).Attrs.length)=s+(AB t.Nodes i).Attrs.length:=BG (by omega) (by omega);simp only [AI w x,bs,V,Rm];by_cases O:30<s+(AB t.Nodes i).Attrs.length∨40<((AB t.Nodes i).Name.size:Int)
   ·rw [d0 (by simpa using O)];exact .inr (.inr ⟨_,rfl,rfl⟩)
   rw [d1 (by simpa using O)];rw [SD (fun j=>WC (AB (AB t.Nodes i).Attrs j)) false (b:=(AB t.Nodes i).Attrs.length) (by omega)]
   ·cases H:anyR (fun j=>WC (AB (AB t.Nodes i).Attrs j)) 0 (AB t.Nodes i).Attrs.length
    ·refine .inl ⟨_,rfl,by omega,by omega,fun j y z=>?_⟩;by_cases W:j=i
     ·subst W;refine ⟨by omega,by omega,fun a N=>?_⟩;obtain ⟨k,d,c,rfl⟩:=EH N;exact cF (E6.1 H k d c)
     ·exact L j y (by omega)
    ·exact .inr (.inr ⟨_,rfl,rfl⟩)
   ·intro j y z;rw [d0 (by simpa using z),AI y z,bs];have X:=K _ (AQ (l:=(AB t.Nodes i).Attrs) y z);have I:TV.Sms [_,_,_,_]:=X;obtain ⟨hm,_⟩:=Of (e:=eS) I.2.2.2.1;unfold WC;cases u:(decide (40<((AB (AB t.Nodes i).Attrs j).Name.size:Int))||decide (25<((AB (AB t.Nodes i).Attrs j).Names.length:Int)))
    ·rw [d1 (by decide),SD (fun k=>decide (40<((AB (AB (AB t.Nodes i).Attrs j).Names k).size:Int))) false (b:=(AB (AB t.Nodes i).Attrs j).Names.length) (by omega)]
     ·cases anyR (fun k=>decide (40<((AB (AB (AB t.Nodes i).Attrs j).Names k).size:Int))) 0 (AB (AB t.Nodes i).Attrs j).Names.length
      ·rw [Bool.or_false,BG (show -9223372036854775808<=j+1 by omega) (by omega)]; rfl
      ·rfl
     ·intro k d c;rw [d0 (by simpa using c),AI d c,bs,BG (show -9223372036854775808<=k+1 by omega) (by omega),J4]
     ·rw [d1 (by simp)]
    ·rfl
   ·rw [d1 (by simp)]) with ⟨s',u,g⟩ | ⟨r,u,g⟩
 ·rw [u];rcases g with g | g
  ·rw [DT,CR (fun i=>decide (40<((AB t.Edges i).Name.size:Int))) false]
   ·cases H:anyR (fun i=>decide (40<((AB t.Edges i).Name.size:Int))) 0 t.Edges.length
    ·refine ⟨true,rfl,fun _=>⟨by omega,by omega,fun n o=>?_,fun n o=>?_,fun n o=>?_,fun e T=>?_⟩⟩
     ·obtain ⟨k,d,c,rfl⟩:=EH o;exact (g.2.2 k d c).1
     ·obtain ⟨k,d,c,rfl⟩:=EH o;exact (g.2.2 k d c).2.1
     ·obtain ⟨k,d,c,rfl⟩:=EH o;exact (g.2.2 k d c).2.2
     ·obtain ⟨k,d,c,rfl⟩:=EH T;have:=E6.1 H k d c;simpa using this
    ·exact ⟨false,rfl,fun h=>by cases h⟩
   ·intro i w x _;rw [AI w x,bs,J4]
  ·exact g.elim
 ·rw [u];subst g;exact ⟨false,rfl,fun h=>by cases h⟩
theorem Ue (p:Pattern):∃ b,Me p=some b∧(b=true->QJ p):=by
 refine ⟨_,rfl,fun h=>?_⟩;simp only [zzZ,zzX] at h;exact ⟨by omega,by omega,by omega,by omega⟩
theorem fW {a b:Int} (e:0<=a) (c:a<=140737488351232) (f:0<=b) (d:b<=140737488351232):A4 (a+b)=a+b:=BG (by omega) (by omega)
theorem fV {m:Morphism} (c:(CA m).Sm):∃ b,Pj m 140=some b∧(b=true->bu m):=by
 have a:TV.Sms [_,_]:=c;have d:=(Of (e:=eI) a.1).1;have f:=(Of (e:=eI) a.2.1).1;refine ⟨_,rfl,fun h=>?_⟩;rw [fW (by omega) d (by omega) f] at h;simp only [zzX] at h;exact ⟨by omega,by omega⟩
theorem fQ {c:AA} (h:(AE c).Sm):(CA c.Map).Sm∧(c.Kids.length:Int)<=140737488351232∧∀ k∈c.Kids,(AE k).Sm:=by
 have b:TV.Sms [_,_,_,_,_,_,_,_,_]:=h;obtain ⟨_,a,d,e,_⟩:=b;rw [Ky] at a;obtain ⟨f,g⟩:=Of a;exact ⟨⟨d,e,trivial⟩,f,g⟩
end Go.Sf.Sc
