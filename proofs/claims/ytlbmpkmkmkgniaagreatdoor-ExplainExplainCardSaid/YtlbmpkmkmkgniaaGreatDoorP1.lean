/- Plain lemmas: what the functions of the program and of the reference compute. -/
import Derived.Test.YtlbmpkmkmkgniaaGreatDoorSfRead
import Derived.Test.YtlbmpkmkmkgniaaGreatDoorFns
import Derived.Test.YtlbmpkmkmkgniaaGreatDoorSfPl
set_option linter.all false
set_option maxRecDepth 100000
namespace Go.Sf
theorem U2 {ρ τ:Type} {d:Int->Option ρ} {g:ρ->τ}:∀ (n:Nat) (a:Int),FH (fun i=>(d i).map g) n a=(FH d n a).map g
 | 0,_=>rfl
 | n+1,a=>by
  rw [FH,FH];cases d a with
  | some r=>rfl
  | none=>exact U2 n (a+1)
variable {a b:Int}
theorem NY {ρ τ:Type} {d:Int->Option ρ} {g:ρ->τ}:fst (fun i=>(d i).map g) a b=(fst d a b).map g:=U2 _ _
theorem Tm {ρ:Type} {d:Int->Option ρ} {r:ρ}:∀ {n:Nat} {a:Int},FH d n a=some r->∃ i,a<=i∧i<a+n∧d i=some r∧∀ j,a<=j->j<i->d j=none
 | 0,_,h=>by cases h
 | n+1,a,h=>by
  rw [FH] at h;cases f:d a with
  | some A=>
   rw [f] at h;exact ⟨a,Int.le_refl _,by omega,by rw [f]; exact h,fun j l o=>by omega⟩
  | none=>
   rw [f] at h;obtain ⟨i,l,o,x,y⟩:=Tm h;refine ⟨i,by omega,by omega,x,fun j z u=>?_⟩;by_cases w:j=a
   ·subst w; exact f
   ·exact y j (by omega) u
theorem C1 {ρ:Type} {d:Int->Option ρ} {r:ρ} (h:fst d a b=some r):∃ i,a<=i∧i<b∧d i=some r∧∀ j,a<=j->j<i->d j=none:=by
 obtain ⟨i,f,u,l,o⟩:=Tm h;exact ⟨i,f,by omega,l,o⟩
def Lp (p:Int->Bool) (s:ByteArray):Int:=(fst (fun i=>if p (bt s i) then none else some i) 0 s.size).getD s.size
theorem SI (p:Int->Bool) (s:ByteArray):0<=Lp p s∧Lp p s<=s.size∧(∀ j,0<=j->j<Lp p s->p (bt s j)=true)∧(Lp p s<s.size->p (bt s (Lp p s))=false):=by
 unfold Lp;cases h:fst (fun i=>if p (bt s i) then none else some i) 0 s.size with
 | none=>
  rw [DA] at h;simp only [Option.getD];refine ⟨by omega,by omega,fun j f l=>?_,fun f=>by omega⟩;have:=h j f l;cases d:p (bt s j)
  ·simp [d] at this
  ·rfl
 | some r=>
  obtain ⟨i,f,l,o,x⟩:=C1 h;have hi:p (bt s i)=false∧i=r:=by
   cases d:p (bt s i) <;> simp [d] at o;exact ⟨rfl,o⟩
  obtain ⟨hi,rfl⟩:=hi;simp only [Option.getD];refine ⟨f,by omega,fun j u w=>?_,fun _=>hi⟩;have:=x j u w;cases d:p (bt s j)
  ·simp [d] at this
  ·rfl
variable {s:ByteArray}
theorem XH (h:s≠⟨#[]⟩):0<s.size:=by
 rcases Nat.eq_zero_or_pos s.size with f | f
 ·exfalso; apply h;cases s with | mk d=>congr 1; exact Array.eq_empty_of_size_eq_zero f
 ·exact f
end Go.Sf
namespace Go.Sf.Sc
open Go Go.Sf
def Hv (c:Int):Bool:=((decide (97<=c))&&(decide (c<=122)))||((decide (65<=c))&&(decide (c<=90)))
def digitB (c:Int):Bool:=(decide (48<=c))&&(decide (c<=57))
def PX (c:Int):Bool:=Hv c||digitB c||decide (c=95)
theorem Wq (c:Int):LQ c=some (Hv c):=rfl
theorem Ub (c:Int):Kv c=some (digitB c):=rfl
theorem Wy (c:Int):LH c=some (Hv c):=rfl
theorem Ya (c:Int):Jg c=some (digitB c):=rfl
theorem jN (c:Int):NG c=some (PX c):=by
 unfold NG PX;rw [Wq,bs,Ub];cases Hv c <;> cases digitB c <;> rfl
variable {s:ByteArray}
theorem ZP (j:(s.size:Int)<=4611686018427387904) {ok:Int->ca} {p:Int->Bool} (h:∀ c,ok c=some (p c)):Io s ok=some (Lp p s):=by
 unfold Io;rw [P7 (c:=fun i=>(if p (bt s i) then none else some i).map .inl) (a:=0) (b:=s.size) (by omega)]
 ·rw [NY];unfold Lp;cases fst (fun i=>if p (bt s i)=true then none else some i) 0 s.size <;> rfl
 ·intro i f d _;simp only [d,decide_true,if_true,Oh f d,bs,h];cases p (bt s i)
  ·simp [cnt]
  ·simp [cnt,BI (show -9223372036854775808<=i+1 by omega) (by omega)]
 ·simp
def HV (s:ByteArray):Bool:=decide (0<s.size)&&Hv (bt s 0)&&decide (s.size<=20)&&decide (Lp PX s=s.size)
theorem Ua (l:List ByteArray) (v:ByteArray):∃ k,slices_Index_string l v=some k∧(0<=k↔v∈l):=by
 unfold slices_Index_string;rw [C5 (fun i=>if (v==AB l i)=true then some i else none)]
 ·cases h:fst (fun i=>if (v==AB l i)=true then some i else none) 0 l.length with
  | none=>
   rw [DA] at h;refine ⟨-1,rfl,by omega,fun u=>?_⟩;obtain ⟨i,d,j,f⟩:=ED u;have:=h i d j;rw [f,d1 (beq_self_eq_true v)] at this;cases this
  | some k=>
   obtain ⟨i,d,j,f,_⟩:=C1 h;have o:(v==AB l i)=true∧i=k:=by
    by_cases hv:(v==AB l i)=true
    ·rw [d1 hv] at f; exact ⟨hv,by simpa using f⟩
    ·rw [d2 hv] at f; cases f
   obtain ⟨o,rfl⟩:=o;refine ⟨i,rfl,fun _=>?_,fun _=>d⟩;rw [eq_of_beq o]; exact AP d j
 ·intro i d j _;simp only [AI d j,bs];split <;> rfl
theorem OP (l:List ByteArray) (v:ByteArray):slices_Contains_string l v=some (l.contains v):=by
 unfold slices_Contains_string;obtain ⟨k,d,f⟩:=Ua l v;rw [d,bs];congr 1;rw [Bool.eq_iff_iff,zzX,f,List.contains_iff_mem]
theorem jL (B:0<s.size) (w:(s.size:Int)<=4611686018427387904):∃ k n e,JY s=some (k,n,e)∧(((decide (e=0))&&(decide (k=1)))&&(decide (n=(s.size:Int))))=HV s:=by
 have H:=SI PX s;unfold JY HV;simp only [Oh (Int.le_refl 0) (show (0:Int)<s.size by omega),bs,Wq,Ub,ZP w jN,ZP w Ub,B,decide_true,Bool.true_and];by_cases d:Hv (bt s 0)=true
 ·rw [d1 d];by_cases f:20<Lp PX s
  ·refine ⟨0,0,3,by simp [f],?_⟩;simp [d];intro G h;omega
  ·refine ⟨1,_,0,by rw [d2 (by simpa using f)],?_⟩;simp only [d,decide_true,Bool.true_and];rw [Bool.eq_iff_iff];simp only [zzX,zzZ];omega
 ·rw [d2 d];have j:Hv (bt s 0)=false:=by simpa using d
  rw [j,Bool.false_and,Bool.false_and];by_cases x:digitB (bt s 0)=true
  ·rw [d1 x];by_cases y:9<Lp digitB s
   ·exact ⟨0,0,3,by simp [y],by simp⟩
   ·exact ⟨2,_,0,by rw [d2 (by simpa using y)],by simp⟩
  ·rw [d2 x];by_cases z:bt s 0=34
   ·have C:=Vg (s:=s) (a:=1) (b:=s.size) (by omega) (by omega) (by omega);have l:∀ c,Lf c=some (((decide (32<=c))&&(decide (c<=126)))&&(!decide (c=34))):=fun _=>rfl;have D:=SI (fun c=>((decide (32<=c))&&(decide (c<=126)))&&(!decide (c=34))) (s.extract (1:Int).toNat (s.size:Int).toNat);have o:∃ n e,IM s=some (n,e):=by
     unfold IM;rw [Mf (by omega) (by omega) (by omega),bs,ZP (by omega) l,bs];rw [BI (by omega) (by omega)];by_cases A:1+Lp (fun c=>((decide (32<=c))&&(decide (c<=126)))&&(!decide (c=34))) (s.extract (1:Int).toNat (s.size:Int).toNat)=s.size
     ·refine ⟨0,2,?_⟩;simp only [A,decide_true,if_true,bs]
     ·simp only [A,decide_false,Bool.false_eq_true,if_false];rw [Oh (by omega) (by omega)];simp only [bs];split
      ·exact ⟨_,_,rfl⟩
      ·split
       ·exact ⟨_,_,rfl⟩
       ·exact ⟨_,_,rfl⟩
    obtain ⟨n,e,u⟩:=o;refine ⟨3,n,e,by rw [d1 (by simpa using z),u]; rfl,by simp⟩
   ·rw [d2 (by simpa using z)];have E:∃ b,NE s=some b:=by
     unfold NE;by_cases h:2<=(s.size:Int)
     ·rw [d1 (by simpa using h),Mf (by omega) (by omega) h];simp only [bs,OP];exact ⟨_,rfl⟩
     ·rw [d2 (by simpa using h)];exact ⟨_,rfl⟩
    obtain ⟨b,F⟩:=E;rw [F,bs];cases b
    ·simp only [Bool.false_eq_true,if_false,strings_IndexByte,bs];split
     ·exact ⟨_,_,_,rfl,rfl⟩
     ·exact ⟨_,_,_,rfl,rfl⟩
    ·exact ⟨_,_,_,rfl,rfl⟩
theorem Qi (f:(s.size:Int)<=4611686018427387904):FN s=some (HV s):=by
 unfold FN Jl;simp only [show decide ((1:Int)=3)=false from rfl,Bool.false_eq_true,if_false,bs];by_cases d:s=⟨#[]⟩
 ·subst d; rfl
 ·rw [d2 (by simpa using d)];obtain ⟨k,n,e,h,j⟩:=jL (XH d) f;rw [h];simp only [bs];rw [j]
theorem jX (u:(s.size:Int)<=4611686018427387904) (d:Bool):∃ n,N5 s 0 d=some n∧0<=n∧n<=s.size∧(d=false->n=Lp PX s):=by
 have j:=SI (fun c=>digitB c||(!d&&(Hv c||decide (c=95)))) s;refine ⟨Lp (fun c=>digitB c||(!d&&(Hv c||decide (c=95)))) s,?_,j.1,j.2.1,fun l=>?_⟩
 ·unfold N5;rw [P7 (c:=fun i=>(if (digitB (bt s i)||(!d&&(Hv (bt s i)||decide (bt s i=95)))) then none else some i).map .inl) (a:=0) (b:=s.size) (by omega)]
  ·rw [NY];unfold Lp;cases fst (fun i=>if (digitB (bt s i)||(!d&&(Hv (bt s i)||decide (bt s i=95))))=true then none else some i) 0 s.size <;> rfl
  ·intro i o h _;have f:A4 (0+i)=i:=by rw [BI (by omega) (by omega)]; omega
   simp only [f,h,decide_true,if_true,Oh o h,bs,Ya,Wy];cases digitB (bt s i) <;> cases d <;> cases Hv (bt s i) <;> cases (decide (bt s i=95)) <;> simp [cnt,BI (show -9223372036854775808<=i+1 by omega) (by omega)]
  ·have f:A4 (0+(s.size:Int))=s.size:=by rw [BI (by omega) (by omega)]; omega
   simp only [f,Int.lt_irrefl,decide_false,Bool.false_eq_true,if_false,bs]
 ·subst l;congr 1;funext c;unfold PX;cases Hv c <;> cases digitB c <;> cases decide (c=95) <;> rfl
theorem ct (o:0<s.size) (u:(s.size:Int)<=4611686018427387904):∃ n,LI s 0=some n∧(n=0∨(2<=n∧n<=s.size)):=by
 unfold LI;rw [P7 (c:=fun i=>if decide (bt s i=34)=true then some (Sum.inr (i+1):Int ⊕ Int) else if (decide (bt s i<32)||decide (126<bt s i))=true then some (Sum.inr 0) else none) (a:=1) (b:=s.size) (by omega)]
 ·cases h:fst (fun i=>if decide (bt s i=34)=true then some (Sum.inr (i+1):Int ⊕ Int) else if (decide (bt s i<32)||decide (126<bt s i))=true then some (Sum.inr 0) else none) 1 s.size with
  | none=>exact ⟨0,rfl,.inl rfl⟩
  | some r=>
   obtain ⟨i,l,f,d,_⟩:=C1 h;split at d
   ·cases d; exact ⟨_,rfl,.inr (by omega)⟩
   ·split at d
    ·cases d; exact ⟨_,rfl,.inl rfl⟩
    ·cases d
 ·intro i l f _;have j:A4 (0+i)=i:=by rw [BI (by omega) (by omega)]; omega
  simp only [j,f,decide_true,if_true,Oh (show 0<=i by omega) f,bs,BI (show -9223372036854775808<=i+1 by omega) (by omega)];split
  ·rfl
  ·split <;> rfl
 ·have j:A4 (0+(s.size:Int))=s.size:=by rw [BI (by omega) (by omega)]; omega
  simp only [j,Int.lt_irrefl,decide_false,Bool.false_eq_true,if_false]
theorem qM (Q:0<s.size) (S:(s.size:Int)<=4611686018427387904):∃ t n e,N4 s 0=some (t,n,e)∧(((decide (e=0))&&(decide (n=(s.size:Int))))&&(decide (t.Kind=1)))=HV s:=by
 obtain ⟨m,N,w,y,O⟩:=jX S (digitB (bt s 0));unfold N4 HV;simp only [Oh (Int.le_refl 0) (show (0:Int)<s.size by omega),bs,Wy,Ya,Q,decide_true,Bool.true_and,N];have T:A4 (0+m)=m:=by rw [BI (by omega) (by omega)]; omega
 by_cases B:Hv (bt s 0)=true
 ·have o:digitB (bt s 0)=false:=by
   unfold Hv at B; unfold digitB;simp only [Bool.or_eq_true,zzZ,zzX] at B;rw [Bool.and_eq_false_iff];simp only [decide_eq_false_iff_not];omega
  have Z:=O o;subst Z;simp only [B,if_true,o,Bool.false_eq_true,if_false,bs,T];by_cases u:20<Lp PX s
  ·refine ⟨_,_,_,by rw [d1 (by simpa using u)],?_⟩;rw [Bool.eq_iff_iff];simp only [zzX,zzZ];omega
  ·rw [d2 (by simpa using u),Mf (Int.le_refl _) w y];refine ⟨_,_,_,rfl,?_⟩;rw [Bool.eq_iff_iff];simp only [zzX,zzZ,true_and,and_true];omega
 ·have H:Hv (bt s 0)=false:=by simpa using B
  simp only [H,Bool.false_eq_true,if_false,bs,Bool.false_and,T];by_cases o:digitB (bt s 0)=true
  ·simp only [o,if_true,bs];by_cases U:9<m
   ·exact ⟨_,_,_,by rw [d1 (by simpa using U)],by simp⟩
   ·rw [d2 (by simpa using U),Mf (Int.le_refl _) w y];exact ⟨_,_,_,rfl,by simp⟩
  ·have I:digitB (bt s 0)=false:=by simpa using o
   simp only [I,Bool.false_eq_true,if_false,bs];by_cases V:bt s 0=34
   ·obtain ⟨n,hn,z⟩:=ct Q S;rw [d1 (by simpa using V),hn,bs];rcases z with rfl | z
    ·exact ⟨_,_,_,rfl,by simp⟩
    ·rw [d2 (by simp; omega)];split
     ·exact ⟨_,_,_,rfl,by simp⟩
     ·have e1:A4 (0+1)=1:=by decide
      have e2:A4 (0+n)=n:=by rw [BI (by omega) (by omega)]; omega
      rw [e1,e2,BI (show -9223372036854775808<=n - 1 by omega) (by omega),Mf (by omega) (by omega) (by omega)];exact ⟨_,_,_,rfl,by simp⟩
   ·rw [d2 (by simpa using V)];unfold Ns;rw [bs];generalize hL:([(⟨#[45,62]⟩:ByteArray),(⟨#[60,61]⟩:ByteArray),(⟨#[62,61]⟩:ByteArray),(⟨#[61,61]⟩:ByteArray),(⟨#[33,61]⟩:ByteArray),(⟨#[123]⟩:ByteArray),(⟨#[125]⟩:ByteArray),(⟨#[40]⟩:ByteArray),(⟨#[41]⟩:ByteArray),(⟨#[91]⟩:ByteArray),(⟨#[93]⟩:ByteArray),(⟨#[44]⟩:ByteArray),(⟨#[59]⟩:ByteArray),(⟨#[58]⟩:ByteArray),(⟨#[61]⟩:ByteArray),(⟨#[43]⟩:ByteArray),(⟨#[45]⟩:ByteArray),(⟨#[42]⟩:ByteArray),(⟨#[60]⟩:ByteArray),(⟨#[62]⟩:ByteArray),(⟨#[33]⟩:ByteArray),(⟨#[38]⟩:ByteArray),(⟨#[124]⟩:ByteArray),(⟨#[46]⟩:ByteArray),(⟨#[63]⟩:ByteArray)]:List ByteArray)=L;have J:∀ x∈L,x.size<=2:=by subst hL; decide
    rcases WQ (f:=(fun (h:Int) (W:GN)=>
      (AM L h).bind fun C=>
      (if (decide ((A4 (0+(C.size:Int)))<=(s.size:Int)))=true then ((AM L h).bind fun D=>
      (sslc s 0 (A4 (0+(D.size:Int)))).bind fun E=>
      (AM L h).bind fun F=>
      some (E==F)) else some false).bind fun G=>
      if G=true then
      (AM L h).bind fun j=>
      (AM L h).bind fun l=>
      some (CZ.ret (GN.mk 4 j 0,(l.size:Int),(0:Int)))
      else
      some (CZ.next W))) (fun _ s=>True) (fun _=>True) (fun r=>r.1.Kind=4) (a:=0) (b:=L.length) (s:=GN.mk 0 (⟨#[]⟩:ByteArray) 0) (by omega) trivial (fun i t d A _=>by
      have hx:=J _ (AP d A);have K:A4 (0+((AB L i).size:Int))=(AB L i).size:=by rw [BI (by omega) (by omega)]; omega
      simp only [AI d A,bs,K];by_cases M:((AB L i).size:Int)<=s.size
      ·rw [d1 (by simpa using M),Mf (by omega) (by omega) M];simp only [bs];split
       ·exact .inr (.inr ⟨_,rfl,rfl⟩)
       ·exact .inl ⟨_,rfl,trivial⟩
      ·rw [d2 (by simpa using M)];simp only [bs];exact .inl ⟨_,rfl,trivial⟩) with ⟨s',d,_⟩ | ⟨r,d,A⟩
    ·rw [d]; exact ⟨_,_,_,rfl,by simp⟩
    ·rw [d]; exact ⟨_,_,_,rfl,by simp [A]⟩
theorem Ql (f:(s.size:Int)<=4611686018427387904):IH s=some (HV s):=by
 unfold IH Nr OY;simp only [show decide ((1:Int)=3)=false from rfl,Bool.false_eq_true,if_false,bs];by_cases d:s=⟨#[]⟩
 ·subst d; rfl
 ·rw [d2 (by simpa using d)];obtain ⟨t,n,e,h,j⟩:=qM (XH d) f;rw [h];simp only [bs];rw [j]
end Go.Sf.Sc
namespace Go.Sf
variable {ρ β:Type}
def nz (e:Int):dD:=if e=0 then none else some e
theorem Py (e:Int):(if (!decide (e=0))=true then some (CZ.ret e) else some (CZ.next ()))=some (Pg (nz e)):=by
 unfold nz;by_cases h:e=0 <;> simp [h,Pg]
theorem iU (b:Bool) (r:ρ):(if b=true then some (CZ.ret r) else some (CZ.next ()))=some (Pg (if b=true then some r else none)):=by
 cases b <;> rfl
variable {kr:ρ->Option β}
theorem DX {σ:Type} {s:σ} {k:σ->Option β}:thenR (some (.inl s)) k kr=k s:=rfl
variable {r:ρ}
theorem VY {σ:Type} {k:σ->Option β}:thenR (some (.inr r)) k kr=kr r:=rfl
theorem GB (o:Option ρ) (k:Unit->Option β) (kr:ρ->Option β):thenR (some (dy o)) k kr=match o with | none=>k () | some r=>kr r:=by
 cases o <;> rfl
theorem Ht (o:dD):thenR (some (dy o)) (fun _=>some 0) (fun v=>some v)=some (o.getD 0):=by
 cases o <;> rfl
variable {a b:Int}
theorem Tn {c:Int->Int} (h:(fst (fun i=>nz (c i)) a b).getD 0=0):∀ i,a<=i->i<b->c i=0:=by
 have:fst (fun i=>nz (c i)) a b=none:=by
  cases f:fst (fun i=>nz (c i)) a b with
  | none=>rfl
  | some r=>
   rw [f] at h;simp only [Option.getD] at h;subst h;obtain ⟨i,_,_,d,_⟩:=C1 f;unfold nz at d;split at d
   ·cases d
   ·rename_i j; simp at d; exact (j d).elim
 rw [DA] at this;intro i l o;have:=this i l o;unfold nz at this;split at this
 ·assumption
 ·cases this
variable {e:Int}
theorem Od:nz e=none↔e=0:=by
 unfold nz;by_cases h:e=0 <;> simp [h]
theorem WU {α:Type} [Inhabited α] {l:List α} {f:α->ca} {p:α->Bool} (h:∀ x∈l,f x=some (p x)) :
  (thenR (forR (ρ:=Int) (fun (o:Int) (_:Unit)=>(AM l o).bind fun d=>(f d).bind fun j=>if j=true then some (.ret o) else some (.next ())) 0 (l.length:Int) ()) (fun _=>some (-1)) (fun y=>some y)) =
   some ((fst (fun i=>if p (AB l i)=true then some i else none) 0 l.length).getD (-1)):=by
 rw [C5 (fun i=>if p (AB l i)=true then some i else none)]
 ·rw [GB]; cases fst (fun i=>if p (AB l i)=true then some i else none) 0 l.length <;> rfl
 ·intro i u w _;rw [AI u w,bs,h _ (AP u w),bs,iU]
theorem VA {α:Type} [Inhabited α] {l:List α} {p:α->Bool}:decide (0<=(fst (fun i=>if p (AB l i)=true then some i else none) 0 l.length).getD (-1))=l.any p:=by
 rw [Kb,anyR];cases h:fst (fun i=>if p (AB l i)=true then some i else none) 0 l.length with
 | none=>
  rw [DA] at h;symm;show Option.isSome _=false;rw [Option.isSome_eq_false_iff,Option.isNone_iff_eq_none,DA];intro i f j;have:=h i f j;by_cases o:p (AB l i)=true
  ·rw [d1 o] at this; cases this
  ·rw [d2 o]
 | some k=>
  obtain ⟨i,f,j,d,_⟩:=C1 h;have w:p (AB l i)=true∧i=k:=by
   by_cases hv:p (AB l i)=true
   ·rw [d1 hv] at d; exact ⟨hv,by simpa using d⟩
   ·rw [d2 hv] at d; cases d
  simp only [Option.getD];rw [decide_eq_true (show (0:Int)<=k by omega)];symm;show Option.isSome _=true;rw [Option.isSome_iff_ne_none,ne_eq,DA];intro u;have:=u i f j;rw [d1 w.1] at this;cases this
theorem GH {α:Type} [Inhabited α] {l:List α} {f:α->ca} {p:α->Bool} (h:∀ x∈l,f x=some (p x)) :
  ((thenR (forR (ρ:=Int) (fun (o:Int) (_:Unit)=>(AM l o).bind fun d=>(f d).bind fun j=>if j=true then some (.ret o) else some (.next ())) 0 (l.length:Int) ()) (fun _=>some (-1)) (fun u=>some u)).bind fun w=>some (decide (0<=w)))=some (l.any p):=by
 rw [WU h,bs,VA]
end Go.Sf
namespace Go.Sf.Sc
open Go Go.Sf
instance:Inhabited Attr:=⟨⟨⟨#[]⟩,0,0,[]⟩⟩
instance:Inhabited CX:=⟨⟨⟨#[]⟩,0,false,[]⟩⟩
instance:Inhabited DF:=⟨⟨⟨#[]⟩,0,0,0,0,0,0⟩⟩
instance:Inhabited DY:=⟨⟨0,0,0⟩⟩
instance:Inhabited EI:=⟨⟨0,0,⟨0,0⟩⟩⟩
instance:Inhabited Test:=⟨⟨0,⟨0,0⟩,⟨0,0⟩⟩⟩
instance:Inhabited AA:=⟨⟨0,[],⟨[],[]⟩,⟨⟨[],[]⟩,[],0,[]⟩⟩⟩
theorem V4 {l:Ne} {f:Int->ca} {p:Int->Bool} (h:∀ x∈l,f x=some (p x)):B5 l f=some (l.any p):=GH h
theorem X8 {l:List DY} {f:DY->ca} {p:DY->Bool} (h:∀ x∈l,f x=some (p x)):CL l f=some (l.any p):=GH h
theorem Ot {l:List AA} {f:AA->ca} {p:AA->Bool} (h:∀ x∈l,f x=some (p x)):B6 l f=some (l.any p):=GH h
theorem Xg {l:List CX} {p:CX->Bool}:DC l (fun x=>some (p x))=some (l.any p):=GH (fun _ _=>rfl)
theorem Xf {l:List DF} {p:DF->Bool}:DB l (fun x=>some (p x))=some (l.any p):=GH (fun _ _=>rfl)
theorem fH {l:List Attr} {p:Attr->Bool}:D3 l (fun x=>some (p x))=some (l.any p):=GH (fun _ _=>rfl)
theorem aC {l:Ne} {p:Int->Bool}:B5 l (fun x=>some (p x))=some (l.any p):=GH (fun _ _=>rfl)
theorem fI {l:List DY} {p:DY->Bool}:CL l (fun x=>some (p x))=some (l.any p):=GH (fun _ _=>rfl)
theorem fJ {l:List EI} {p:EI->Bool}:D4 l (fun x=>some (p x))=some (l.any p):=GH (fun _ _=>rfl)
theorem io (l:Ne) (v:Int):slices_Index_int l v=some ((fst (fun i=>if decide (v=AB l i)=true then some i else none) 0 l.length).getD (-1)):=by
 have:=WU (l:=l) (f:=fun x=>some (decide (v=x))) (p:=fun x=>decide (v=x)) (fun _ _=>rfl);unfold slices_Index_int;simpa only [bs] using this
theorem TZ (l:Ne) (v:Int):slices_Contains_int l v=some (l.any fun x=>decide (v=x)):=by
 unfold slices_Contains_int;rw [io,bs,VA (p:=fun x=>decide (v=x))]
theorem fM (l:d0) (v:Bool):Hr l v=some (l.any fun x=>v==x):=by
 have:=GH (l:=l) (f:=fun x=>some (v==x)) (p:=fun x=>v==x) (fun _ _=>rfl);unfold Hr Jq;simpa only [bs] using this
structure RG (a:Attr):Prop where
 name:(a.Name.size:Int)<=40
 names:a.Names.length<=25
 each:∀ x∈a.Names,(x.size:Int)<=40
structure BY (t:AC):Prop where
 nodes:t.Nodes.length<=20
 edges:t.Edges.length<=30
 name:∀ n∈t.Nodes,(n.Name.size:Int)<=40
 attrs:∀ n∈t.Nodes,n.Attrs.length<=30
 each:∀ n∈t.Nodes,∀ a∈n.Attrs,RG a
 ename:∀ e∈t.Edges,(e.Name.size:Int)<=40
def par (t:AC) (i:Int):Int:=(AB t.Nodes i).Parent
def HD (t:AC) (k:Int):Prop:=∀ i,0<=i->i<k->-1<=par t i∧par t i<i
def C4 (t:AC):Nat->Int->List Attr
 | 0,_=>[]
 | n+1,a=>if a<0 then [] else C4 t n (par t a)++(AB t.Nodes a).Attrs
def BW (t:AC) (a:Int):List Attr:=C4 t (a+1).toNat a
variable {t:AC} {n:Nat} {a:Int}
theorem JJ (h:a<0):C4 t n a=[]:=by
 cases n with
 | zero=>rfl
 | succ n=>rw [C4,d1 h]
variable {k:Int}
theorem MW (f:HD t k):∀ (n m:Nat) (a:Int),a<k->a<n->a<m->C4 t n a=C4 t m a
 | n,m,a,h,j,l=>by
  by_cases d:a<0
  ·rw [JJ d,JJ d]
  ·cases n with
   | zero=>omega
   | succ n=>
    cases m with
    | zero=>omega
    | succ m=>
     rw [C4,C4,d2 d,d2 d];have:=f a (by omega) h;rw [MW f n m (par t a) (by omega) (by omega) (by omega)]
theorem Mk (d:BY t) (h:k<=t.Nodes.length) (f:HD t k):∀ (n:Nat) (a:Int),a<k->((C4 t n a).length:Int)<=30*n
 | 0,_,_=>by simp [C4]
 | n+1,a,j=>by
  rw [C4];split
  ·simp; omega
  ·rename_i o;have u:=f a (by omega) j;have w:=Mk d h f n (par t a) (by omega);have x:=d.attrs _ (AP (l:=t.Nodes) (show 0<=a by omega) (by omega));rw [d4];omega
theorem TR (f:BY t) (j:k<=t.Nodes.length) (h:HD t k):∀ (n:Nat) (a:Int),a<k->∀ x∈C4 t n a,RG x
 | 0,_,_=>by simp [C4]
 | n+1,a,o=>by
  rw [C4];split
  ·simp
  ·rename_i u;have w:=h a (by omega) o;intro x d;rcases List.mem_append.1 d with d | d
   ·exact TR f j h n (par t a) (by omega) x d
   ·exact f.each _ (AP (l:=t.Nodes) (show 0<=a by omega) (by omega)) x d
theorem Mn (d:BY t) (f:k<=t.Nodes.length) (h:HD t k) (j:a<k):(BW t a).length<=600:=by
 have:=Mk d f h (a+1).toNat a j;have:=d.nodes;unfold BW;omega
theorem Mm (d:BY t) (f:k<=t.Nodes.length) (h:HD t k) (j:a<k):∀ x∈BW t a,RG x:=TR d f h _ a j
theorem Wm (h:BY t) (o:k<=t.Nodes.length) (j:HD t k):∀ (n:Nat) (a:Int),0<=a->a<k->a<n->EO n t a=some (C4 t n a)
 | 0,_,_,_,_=>by omega
 | n+1,a,w,B,F=>by
  have C:=j a (by omega) B;have x:=Mk h o j n (par t a) (by omega);have D:=h.attrs _ (AP (l:=t.Nodes) w (by omega));have E:=h.nodes;rw [EO,C4,d2 (by omega),AI w (by omega)];simp only [bs];show ((if decide (0<=par t a)=true then (EO n t (par t a)).bind fun f=>some f else some []).bind _)=_;have e:(if decide (0<=par t a)=true then (EO n t (par t a)).bind fun f=>some f else some [])=some (C4 t n (par t a)):=by
   by_cases u:0<=par t a
   ·rw [d1 (by simpa using u),Wm h o j n (par t a) u (by omega) (by omega)]; rfl
   ·rw [d2 (by simpa using u),JJ (by omega)]
  have y:(C4 t n (par t a)).length+(AB t.Nodes a).Attrs.length<=BM:=by
   unfold BM;have:((C4 t n (par t a)).length:Int)<=30*n:=x;have z:C4 t n (par t a)=C4 t 20 (par t a):=by
    by_cases d:par t a<0
    ·rw [JJ d,JJ d]
    ·exact MW j n 20 (par t a) (by omega) (by omega) (by omega)
   have A:=Mk h o j 20 (par t a) (by omega);rw [←z] at A;omega
  rw [e,bs,B7 y];rfl
theorem YS (h:BY t) (j:k<=t.Nodes.length) (d:HD t k) (l:0<=a) (f:a<k):Kw t a=some (BW t a):=
 E9 (a+1).toNat fun n o=>by
  rw [Wm h j d n a l f (by omega),BW,MW d n (a+1).toNat a f (by omega) (by omega)]
theorem Wt (f:BY t) (j:k<=t.Nodes.length) (h:HD t k):∀ (n:Nat) (a:Int),-1<=a->a<k->a+1<n->IJ n t a=some (C4 t n a)
 | 0,_,_,_,_=>by omega
 | n+1,a,B,x,C=>by
  rw [IJ,C4];by_cases d:a<0
  ·rw [d1 (by simpa using d),d1 d]
  ·have y:=h a (by omega) x;have z:=f.attrs _ (AP (l:=t.Nodes) (show 0<=a by omega) (by omega));have A:=f.nodes;rw [d2 (by simpa using d),d2 d,AI (by omega) (by omega)];simp only [bs];have o:C4 t n (par t a)=C4 t 20 (par t a):=by
    by_cases d:par t a<0
    ·rw [JJ d,JJ d]
    ·exact MW h n 20 (par t a) (by omega) (by omega) (by omega)
   have u:=Mk f j h 20 (par t a) (by omega);rw [←o] at u;have w:(C4 t n (par t a)).length+(AB t.Nodes a).Attrs.length<=BM:=by unfold BM; omega
   rw [show (AB t.Nodes a).Parent=par t a from rfl,Wt f j h n (par t a) (by omega) (by omega) (by omega),bs,B7 (by simp; unfold BM; omega)];simp only [bs,List.nil_append];rw [B7 w]; rfl
theorem YY (h:BY t) (j:k<=t.Nodes.length) (d:HD t k) (l:0<=a) (f:a<k):Nt t a=some (BW t a):=
 E9 (a+2).toNat fun n o=>by
  rw [Wt h j d n a (by omega) f (by omega),BW,MW d n (a+1).toNat a f (by omega) (by omega)]
end Go.Sf.Sc
namespace Go.Sf.Sc
open Go Go.Sf
def J4 (l:List ByteArray):Int:=
 if (20:Int)<l.length then 3 else (fst (fun i=>if HV (AB l i)=false then some 2 else if anyR (fun j=>AB l j==AB l i) 0 i=true then some 5 else none) 0 l.length).getD 0
variable {b:Int}
theorem V7 {l:List ByteArray} {x:ByteArray} (d:0<=b) (f:b<=l.length):(l.take b.toNat).contains x=anyR (fun j=>AB l j==x) 0 b:=by
 rw [List.contains_eq_any_beq,QB d f];exact TQ (fun i _ _=>by rw [Bool.beq_comm])
theorem fu {l:List ByteArray} (o:∀ x∈l,(x.size:Int)<=40):Iq l=some (J4 l):=by
 unfold Iq J4;by_cases d:(20:Int)<l.length
 ·rw [d1 (by simpa using d),d1 d]
 ·rw [d2 (by simpa using d),d2 d];rw [C5 (fun i=>if HV (AB l i)=false then some 2 else if anyR (fun j=>AB l j==AB l i) 0 i=true then some 5 else none),Ht];intro i f h _;have u:=o _ (AP f h);rw [AI f h,bs,Qi (by omega),bs,MS f (by omega)];simp only [bs,OP,V7 f (show i<=l.length by omega)];cases HV (AB l i) <;> cases anyR (fun j=>AB l j==AB l i) 0 i <;> rfl
theorem gF {l:List ByteArray} (o:∀ x∈l,(x.size:Int)<=40):L0 l=some (J4 l):=by
 unfold L0 J4;by_cases d:(20:Int)<l.length
 ·rw [d1 (by simpa using d),d1 d]
 ·rw [d2 (by simpa using d),d2 d];rw [C5 (fun i=>if HV (AB l i)=false then some 2 else if anyR (fun j=>AB l j==AB l i) 0 i=true then some 5 else none),Ht];intro i f h _;have y:=o _ (AP f h);rw [AI f h,bs,Ql (by omega),bs,CR (fun j=>AB l j==AB l i) 5]
  ·cases HV (AB l i) <;> cases anyR (fun j=>AB l j==AB l i) 0 i <;> rfl
  ·intro j u w _;rw [AI u (by omega),bs,bs];split <;> rfl
def MC (all:List Attr) (k:Int):Int:=
 let x:=AB all k
 if HV x.Name=false then 2 else if anyR (fun j=>(AB all j).Name==x.Name) 0 k=true then 5 else
 if x.Names.length=0 then (if -1000000<=x.Low∧x.Low<=x.High∧x.High<=1000000 then 0 else 6) else
 if J4 x.Names≠0 then J4 x.Names else if x.Low=0∧x.High=x.Names.length - 1 then 0 else 6
variable {k:Int}
theorem Xs {d:List Attr} (o:∀ x∈d,RG x) (l:0<=k) (u:k<d.length):GD (AB d k) (d.take k.toNat)=some (MC d k):=by
 have j:=o _ (AP l u);have A:=j.name;unfold GD MC;dsimp only;rw [Qi (by omega),bs,show (fun f=>Js f (AB d k))=(fun f=>some (f.Name==(AB d k).Name)) from rfl,fH,bs,QB l (by omega),fu j.each,bs];have w:=j.names;have y:A4 ((AB d k).Names.length - 1)=(AB d k).Names.length - 1:=BI (by omega) (by omega);rw [y];have z:(AB d k).Names.length=0->J4 (AB d k).Names=0:=fun h=>by rw [List.eq_nil_of_length_eq_zero h]; rfl
 generalize J4 (AB d k).Names=e at z ⊢;simp only [bs,zzX,Bool.or_eq_true,zzZ,Bool.not_eq_true',decide_eq_false_iff_not,Bool.not_eq_false',Bool.or_eq_false_iff,Bool.and_eq_false_iff,ne_eq]
 repeat' (first | rfl | (exfalso; omega; done) | split)
 all_goals (first | rfl | (exfalso; omega) | omega | simp_all | (simp_all; omega))
theorem Xu {x:Attr} (d:RG x):JT x=some (
 if x.Names.length=0 then (if -1000000<=x.Low∧x.Low<=x.High∧x.High<=1000000 then 0 else 6) else
 if J4 x.Names≠0 then J4 x.Names else if x.Low=0∧x.High=x.Names.length - 1 then 0 else 6):=by
 have f:=d.names;have h:A4 (x.Names.length - 1)=x.Names.length - 1:=BI (by omega) (by omega);unfold JT E6;simp only [bs,h,gF d.each];generalize J4 x.Names=e;simp only [bs,zzX,Bool.or_eq_true,zzZ,Bool.not_eq_true',decide_eq_false_iff_not,Bool.not_eq_false',Bool.or_eq_false_iff,Bool.and_eq_false_iff,ne_eq]
 repeat' (first | rfl | (exfalso; omega; done) | split)
 all_goals (first | rfl | (exfalso; omega) | omega | simp_all | (simp_all; omega))
def I9 (t:AC) (i:Int):Int:=
 let n:=AB t.Nodes i
 if HV n.Name=false then 2 else if anyR (fun j=>(AB t.Nodes j).Name==n.Name) 0 i=true then 5 else
 if n.Parent < -1∨i<=n.Parent then 6 else if 4<n.Attrs.length∨8<(BW t i).length then 3 else
 (fst (fun k=>nz (MC (BW t i) k)) ((BW t i).length - n.Attrs.length) (BW t i).length).getD 0
variable {t:AC} {i:Int}
theorem TU (d:0<=i):(AB t.Nodes i).Attrs.length<=(BW t i).length:=by
 unfold BW;rw [show (i+1).toNat=i.toNat+1 by omega,C4,d2 (by omega),d4];omega
theorem HD.next (h:HD t i) (d:-1<=par t i) (f:par t i<i):HD t (i+1):=by
 intro j l u;by_cases o:j=i
 ·subst o; exact ⟨d,f⟩
 ·exact h j l (by omega)
theorem jM (o:BY t) (f:0<=i) (x:i<t.Nodes.length) (B:HD t i):Jb t i=some (I9 t i):=by
 have D:=o.name _ (AP f x);unfold Jb I9;dsimp only;rw [AI f x,bs,Qi (by omega),bs,MS f (by omega),bs,show (fun u=>NI u (AB t.Nodes i))=(fun u=>some (u.Name==(AB t.Nodes i).Name)) from rfl,Xg,bs,QB f (by omega)];cases HV (AB t.Nodes i).Name
 ·rfl
 ·cases anyR (fun j=>(AB t.Nodes j).Name==(AB t.Nodes i).Name) 0 i
  ·by_cases h:(AB t.Nodes i).Parent < -1∨i<=(AB t.Nodes i).Parent
   ·rcases h with h | h <;> simp [h]
   ·have d:HD t (i+1):=B.next (by unfold par; omega) (by unfold par; omega)
    have w:(decide ((AB t.Nodes i).Parent < -1)||decide (i<=(AB t.Nodes i).Parent))=false:=by
     rw [Bool.eq_false_iff]; simpa using h
    rw [YS o (k:=i+1) (by omega) d f (by omega),bs];have z:=Mn o (k:=i+1) (a:=i) (by omega) d (by omega);have A:=TU (t:=t) f;have l:=Mm o (k:=i+1) (a:=i) (by omega) d (by omega);rw [BI (by omega) (by omega),C5 (fun k=>nz (MC (BW t i) k)),Ht]
    ·simp only [w,h,Bool.not_true,Bool.false_eq_true,if_false];simp only [bs,zzX,Bool.or_eq_true,zzZ,Bool.not_eq_true',decide_eq_false_iff_not,Bool.not_eq_false',Bool.or_eq_false_iff,Bool.and_eq_false_iff,ne_eq]
     repeat' (first | rfl | (exfalso; omega; done) | split)
     all_goals (first | rfl | (exfalso; omega) | omega | simp_all | (simp_all; omega))
    ·intro k C y _;rw [AI (by omega) y,bs,MS (by omega) (by omega),bs,Xs l (by omega) y,bs,Py]
  ·rfl
theorem jW (f:BY t) (l:0<=i) (u:i<t.Nodes.length) (B:HD t i):M6 t i=some (I9 t i):=by
 have F:=f.name _ (AP l u);have G:=f.nodes;unfold M6 I9 E6;dsimp only;rw [AI l u,bs,Ql (by omega),bs,CR (fun j=>(AB t.Nodes j).Name==(AB t.Nodes i).Name) 5]
 ·cases HV (AB t.Nodes i).Name
  ·rfl
  ·cases anyR (fun j=>(AB t.Nodes j).Name==(AB t.Nodes i).Name) 0 i
   ·simp only [Bool.not_true,Bool.false_eq_true,if_false,DX,bs];rw [BI (by omega) (by omega)];by_cases x:(AB t.Nodes i).Parent < -1∨i<=(AB t.Nodes i).Parent
    ·rw [d1,d2 (by decide),d1 x];simp; omega
    ·have d:HD t (i+1):=B.next (by unfold par; omega) (by unfold par; omega)
     rw [d2 (by simp; omega),d2 (by decide),d2 x];rw [YY f (k:=i+1) (by omega) d l (by omega),bs];have y:=Mn f (k:=i+1) (a:=i) (by omega) d (by omega);have z:=TU (t:=t) l;have h:=Mm f (k:=i+1) (a:=i) (by omega) d (by omega);rw [BI (by omega) (by omega)];rw [C5 (fun k=>nz (MC (BW t i) k)),Ht]
     ·simp only [bs,zzX,Bool.or_eq_true,zzZ,Bool.not_eq_true',decide_eq_false_iff_not,Bool.not_eq_false',Bool.or_eq_false_iff,Bool.and_eq_false_iff,ne_eq]
      repeat' (first | rfl | (exfalso; omega; done) | split)
      all_goals (first | rfl | (exfalso; omega) | omega | simp_all | (simp_all; omega))
     ·intro k w o _;have A:=h _ (AP (show 0<=k by omega) o);have D:=A.name;simp only [AI (show 0<=k by omega) o,bs];rw [Ql (by omega),bs,CR (fun j=>(AB (BW t i) j).Name==(AB (BW t i) k).Name) 5]
      ·rw [Xu A];simp only [bs,Py];unfold MC;dsimp only;cases HV (AB (BW t i) k).Name
       ·rfl
       ·cases anyR (fun j=>(AB (BW t i) j).Name==(AB (BW t i) k).Name) 0 k <;> rfl
      ·intro j C E _;rw [AI C (by omega),bs];split <;> rfl
   ·rfl
 ·intro j w o _;rw [AI w (by omega),bs];split <;> rfl
def Mp (low high:Int):Bool:=((decide (0<=low))&&(decide (low<=40)))&&((decide (high=(-1)))||((decide (low<=high))&&(decide (high<=40))))
theorem gC (low high:Int):Kn low high=some (Mp low high):=by
 unfold Kn Mp E6;simp only [bs];cases (decide (0<=low)&&decide (low<=40)) <;> cases decide (high=-1) <;> rfl
def Jp (t:AC) (i:Int):Int:=
 let x:=AB t.Edges i
 if HV x.Name=false then 2 else if anyR (fun j=>(AB t.Edges j).Name==x.Name) 0 i=true then 5 else
 if (0<=x.From∧x.From<t.Nodes.length)∧(0<=x.To∧x.To<t.Nodes.length)∧Mp x.OutLow x.OutHigh=true∧Mp x.InLow x.InHigh=true then 0 else 6
theorem jH (u:BY t) (d:0<=i) (o:i<t.Edges.length):Ja t i=some (Jp t i):=by
 have w:=u.ename _ (AP d o);unfold Ja Jp LR;dsimp only;rw [AI d o,bs,Qi (by omega),bs,MS d (by omega),bs,show (fun h=>NH h (AB t.Edges i))=(fun h=>some (h.Name==(AB t.Edges i).Name)) from rfl,Xf,bs,QB d (by omega)];simp only [show ∀ a b,Kg a b=some (Mp a b) from fun _ _=>rfl,bs];generalize HV (AB t.Edges i).Name=b1;generalize anyR (fun j=>(AB t.Edges j).Name==(AB t.Edges i).Name) 0 i=b2;generalize Mp (AB t.Edges i).OutLow (AB t.Edges i).OutHigh=b3;generalize Mp (AB t.Edges i).InLow (AB t.Edges i).InHigh=b4;cases b1
 ·rfl
 ·cases b2
  ·cases b3 <;> cases b4
   all_goals
    by_cases f:0<=(AB t.Edges i).From∧(AB t.Edges i).From<t.Nodes.length
    ·by_cases l:0<=(AB t.Edges i).To∧(AB t.Edges i).To<t.Nodes.length
     ·simp [f,l]
     ·have:(decide (0<=(AB t.Edges i).To)&&decide ((AB t.Edges i).To<t.Nodes.length))=false:=by rw [Bool.eq_false_iff]; simpa using l
      simp [f,l,this]
    ·have:(decide (0<=(AB t.Edges i).From)&&decide ((AB t.Edges i).From<t.Nodes.length))=false:=by rw [Bool.eq_false_iff]; simpa using f
     simp [f,this]
  ·rfl
theorem jT (l:BY t) (o:0<=i) (u:i<t.Edges.length):M5 t i=some (Jp t i):=by
 have z:=l.ename _ (AP o u);have A:=l.nodes;unfold M5 Jp E6;dsimp only;rw [AI o u,bs,Ql (by omega),bs,CR (fun j=>(AB t.Edges j).Name==(AB t.Edges i).Name) 5]
 ·simp only [BI (show -9223372036854775808<=(t.Nodes.length:Int) - 1 by omega) (by omega),gC,bs];generalize HV (AB t.Edges i).Name=b1;generalize anyR (fun j=>(AB t.Edges j).Name==(AB t.Edges i).Name) 0 i=b2;generalize Mp (AB t.Edges i).OutLow (AB t.Edges i).OutHigh=b3;generalize Mp (AB t.Edges i).InLow (AB t.Edges i).InHigh=b4;cases b1
  ·rfl
  ·cases b2
   ·cases b3 <;> cases b4
    all_goals
     by_cases f:0<=(AB t.Edges i).From∧(AB t.Edges i).From<t.Nodes.length
     ·have d:(AB t.Edges i).From<=(t.Nodes.length:Int) - 1:=by omega
      by_cases w:0<=(AB t.Edges i).To∧(AB t.Edges i).To<t.Nodes.length
      ·have h:(AB t.Edges i).To<=(t.Nodes.length:Int) - 1:=by omega
       simp [f,w,d,h,DX]
      ·have:(decide (0<=(AB t.Edges i).To)&&decide ((AB t.Edges i).To<=(t.Nodes.length:Int) - 1))=false:=by rw [Bool.eq_false_iff]; simp; omega
       simp [f,w,d,this,DX]
     ·have:(decide (0<=(AB t.Edges i).From)&&decide ((AB t.Edges i).From<=(t.Nodes.length:Int) - 1))=false:=by rw [Bool.eq_false_iff]; simp; omega
      simp [f,this,DX]
   ·rfl
 ·intro j x y _;rw [AI x (by omega),bs];split <;> rfl
def BE (t:AC):ByteArray × Int:=
 if t.Nodes.length=0 then (⟨#[]⟩,7) else if 12<t.Nodes.length∨20<t.Edges.length then (⟨#[]⟩,3) else
 match fst (fun i=>(nz (I9 t i)).map fun e=>((AB t.Nodes i).Name,e)) 0 t.Nodes.length with
 | some r=>r
 | none=>(fst (fun i=>(nz (Jp t i)).map fun e=>((AB t.Edges i).Name,e)) 0 t.Edges.length).getD (⟨#[]⟩,0)
theorem aR (h:I9 t i=0):-1<=par t i∧par t i<i:=by
 unfold I9 at h;dsimp only at h;unfold par;by_cases d:(AB t.Nodes i).Parent < -1∨i<=(AB t.Nodes i).Parent
 ·rw [d1 d] at h;split at h
  ·cases h
  ·split at h <;> cases h
 ·omega
theorem Nb {α β:Type} {o:Option α} {g:α->β}:o.map g=none↔o=none:=by cases o <;> simp
theorem TC (h:∀ j,0<=j->j<i->I9 t j=0):HD t i:=fun j d f=>aR (h j d f)
theorem ST {ρ:Type} (e:Int) (n:ByteArray):(if (!decide (e=0))=true then some (CZ.ret (n,e)) else some (CZ.next ()))=some (Pg ((nz e).map fun e=>(n,e))):=by
 unfold nz;by_cases h:e=0 <;> simp [h,Pg]
theorem SX (h:BY t):GM t=some (BE t):=by
 unfold GM BE;rw [C5 (fun i=>(nz (I9 t i)).map fun e=>((AB t.Nodes i).Name,e)),GB]
 ·rw [C5 (fun i=>(nz (Jp t i)).map fun e=>((AB t.Edges i).Name,e)),GB]
  ·cases fst (fun i=>(nz (I9 t i)).map fun e=>((AB t.Nodes i).Name,e)) 0 t.Nodes.length <;> cases fst (fun i=>(nz (Jp t i)).map fun e=>((AB t.Edges i).Name,e)) 0 t.Edges.length
   all_goals dsimp only
   all_goals try simp only [Option.getD]
   all_goals
    simp only [bs,zzX,Bool.or_eq_true,zzZ,Bool.not_eq_true',decide_eq_false_iff_not,Bool.not_eq_false',Bool.or_eq_false_iff,Bool.and_eq_false_iff,ne_eq]
    repeat' (first | rfl | (exfalso; omega; done) | split)
    all_goals (first | rfl | (exfalso; omega) | omega | simp_all | (simp_all; omega))
  ·intro i d f _;rw [AI d f,bs,jH h d f,bs];exact ST (ρ:=Unit) _ _
 ·intro i d f u;have w:HD t i:=TC fun j l o=>Od.1 (Nb.1 (u j l o));rw [AI d f,bs,jM h d f w,bs];exact ST (ρ:=Unit) _ _
theorem SZ (h:BY t):Il t=some (BE t):=by
 unfold Il BE;rw [C5 (fun i=>(nz (I9 t i)).map fun e=>((AB t.Nodes i).Name,e)),GB]
 ·rw [C5 (fun i=>(nz (Jp t i)).map fun e=>((AB t.Edges i).Name,e)),GB]
  ·cases fst (fun i=>(nz (I9 t i)).map fun e=>((AB t.Nodes i).Name,e)) 0 t.Nodes.length <;> cases fst (fun i=>(nz (Jp t i)).map fun e=>((AB t.Edges i).Name,e)) 0 t.Edges.length
   all_goals dsimp only
   all_goals try simp only [Option.getD]
   all_goals
    simp only [bs,zzX,Bool.or_eq_true,zzZ,Bool.not_eq_true',decide_eq_false_iff_not,Bool.not_eq_false',Bool.or_eq_false_iff,Bool.and_eq_false_iff,ne_eq]
    repeat' (first | rfl | (exfalso; omega; done) | split)
    all_goals (first | rfl | (exfalso; omega) | omega | simp_all | (simp_all; omega))
  ·intro i d f _;simp only [jT h d f,AI d f,bs];exact ST (ρ:=Unit) _ _
 ·intro i d f u;have w:HD t i:=TC fun j l o=>Od.1 (Nb.1 (u j l o));simp only [jW h d f w,AI d f,bs];exact ST (ρ:=Unit) _ _
end Go.Sf.Sc
namespace Go.Sf.Sc
open Go Go.Sf
theorem J3 {α:Type} {c:Bool} {a b:α}:(if c=true then some a else some b)=some (if c=true then a else b):=by cases c <;> rfl
def LY (n:Int):Bool:=(decide (0<=n))&&(decide (n<=99))
def QO (e:DY) (n:Int):Bool:=LY e.Type'&&(decide (0<=e.From)&&decide (e.From<n))&&(decide (0<=e.To)&&decide (e.To<n))
def DK (g:Graph):Int:=
 if 40<g.Nodes.length∨80<g.Edges.length then 3 else if (g.Nodes.any fun n=>!LY n)=true then 6 else if (g.Edges.any fun e=>!QO e g.Nodes.length)=true then 6 else 0
structure Ki (g:Graph):Prop where
 nodes:g.Nodes.length<=40
 edges:g.Edges.length<=80
 kind:∀ n∈g.Nodes,0<=n∧n<=99
 fit:∀ e∈g.Edges,(0<=e.Type'∧e.Type'<=99)∧(0<=e.From∧e.From<g.Nodes.length)∧(0<=e.To∧e.To<g.Nodes.length)
variable {g:Graph}
theorem GE (h:DK g=0):Ki g:=by
 unfold DK at h;split at h
 ·cases h
 ·split at h
  ·cases h
  ·split at h
   ·cases h
   ·rename_i o d f;refine ⟨by omega,by omega,fun n j=>?_,fun e l=>?_⟩
    ·rw [Bool.not_eq_true,List.any_eq_false] at d;have:=d n j;simp [LY] at this;exact this
    ·rw [Bool.not_eq_true,List.any_eq_false] at f;have:=f e l;simp only [QO,LY,Bool.not_eq_true',Bool.not_eq_false,zzZ,zzX] at this;omega
variable {n:Nat}
theorem jK {e:DY} (h:n<=40):Mx e n=some (QO e n):=by
 unfold Mx Iz QO LY;simp only [bs,BI (show -9223372036854775808<=(n:Int) - 1 by omega) (by omega)];have d:decide (e.From<=(n:Int) - 1)=decide (e.From<n):=by rw [decide_eq_decide]; omega
 have f:decide (e.To<=(n:Int) - 1)=decide (e.To<n):=by rw [decide_eq_decide]; omega
 rw [d,f];generalize (decide (0<=e.Type')&&decide (e.Type'<=99))=b1;generalize (decide (0<=e.From)&&decide (e.From<n))=b2;cases b1 <;> cases b2 <;> simp
theorem Oe (g:Graph):EZ g=some (DK g):=by
 unfold EZ DK;by_cases h:40<g.Nodes.length∨80<g.Edges.length
 ·rw [d1 (by simp; omega),d1 h]
 ·rw [d2 (by simp; omega),d2 h,show MF=(fun n=>some (!LY n)) from rfl,aC,X8 (p:=fun e=>!QO e g.Nodes.length) (fun e _=>by
   unfold MG;rw [jK (by omega)]; rfl)]
  simp only [bs];cases g.Nodes.any fun n=>!LY n
  ·cases g.Edges.any fun e=>!QO e g.Nodes.length <;> rfl
  ·rfl
theorem Og (g:Graph):HK g=some (DK g):=by
 unfold HK DK;by_cases h:40<g.Nodes.length∨80<g.Edges.length
 ·rw [d1 (by simp; omega),d1 h]
 ·rw [d2 (by simp; omega),d2 h,Kb,Kb,CR (fun i=>!LY (AB g.Nodes i)) 6]
  ·rw [CR (fun i=>!QO (AB g.Edges i) g.Nodes.length) 6]
   ·cases anyR (fun i=>!LY (AB g.Nodes i)) 0 g.Nodes.length
    ·cases anyR (fun i=>!QO (AB g.Edges i) g.Nodes.length) 0 g.Edges.length <;> rfl
    ·rfl
   ·intro i d f _;rw [AI d f,bs];unfold Nu QO;simp only [show ∀ n,Lb n=some (LY n) from fun _=>rfl,bs];generalize LY (AB g.Edges i).Type'=b1;cases b1 <;> cases decide (0<=(AB g.Edges i).From) <;> cases decide ((AB g.Edges i).From<g.Nodes.length) <;> cases decide (0<=(AB g.Edges i).To) <;> cases decide ((AB g.Edges i).To<g.Nodes.length) <;> rfl
  ·intro i d f _;rw [AI d f,bs,show Lb (AB g.Nodes i)=some (LY (AB g.Nodes i)) from rfl,bs];cases LY (AB g.Nodes i) <;> rfl
def GL (t:AC) (g:Graph):Bool:=!(g.Nodes.any fun n=>decide (t.Nodes.length<=n))&&!(g.Edges.any fun e=>decide (t.Edges.length<=e.Type'))
variable {t:AC}
theorem Ni (d:Ki g) (h:GL t g=true):(∀ n∈g.Nodes,0<=n∧n<t.Nodes.length)∧∀ e∈g.Edges,0<=e.Type'∧e.Type'<t.Edges.length:=by
 unfold GL at h;simp only [zzZ,Bool.not_eq_true',List.any_eq_false,zzX] at h;refine ⟨fun n f=>?_,fun e j=>?_⟩
 ·have:=h.1 n f;have:=d.kind n f;omega
 ·have:=h.2 e j;have:=d.fit e j;omega
theorem Ud (h:Ki g):Jh t g=some (GL t g):=by
 unfold Jh GL;rw [Kb,Kb,CR (fun i=>decide (t.Nodes.length<=AB g.Nodes i)) false]
 ·rw [CR (fun i=>decide (t.Edges.length<=(AB g.Edges i).Type')) false]
  ·cases anyR (fun i=>decide (t.Nodes.length<=AB g.Nodes i)) 0 g.Nodes.length
   ·cases anyR (fun i=>decide (t.Edges.length<=(AB g.Edges i).Type')) 0 g.Edges.length <;> rfl
   ·rfl
  ·intro i d f _;have:=(h.fit _ (AP d f)).1.1;simp only [AI d f,bs];rw [d2 (by simp; omega),bs,J3]
 ·intro i d f _;have:=(h.kind _ (AP d f)).1;simp only [AI d f,bs];rw [d2 (by simp; omega),bs,J3]
structure IP (t:AC):Prop where
 nodes:t.Nodes.length<=12
 edges:t.Edges.length<=20
 node:∀ i:Int,0<=i->i<t.Nodes.length->I9 t i=0
 edge:∀ i:Int,0<=i->i<t.Edges.length->Jp t i=0
theorem HC (h:(BE t).2=0):IP t:=by
 unfold BE at h;split at h
 ·cases h
 ·split at h
  ·cases h
  ·rename_i x y;have u:∀ i:Int,0<=i->i<t.Nodes.length->I9 t i=0:=by
    split at h
    ·rename_i r f;obtain ⟨i,_,_,d,_⟩:=C1 f;unfold nz at d;split at d
     ·cases d
     ·rename_i j;cases d; exact absurd h j
    ·rename_i f;intro i l o;exact Od.1 (Nb.1 (DA.1 f i l o))
   have w:∀ i:Int,0<=i->i<t.Edges.length->Jp t i=0:=by
    split at h
    ·rename_i r f;obtain ⟨i,l,o,d,_⟩:=C1 f;rw [u i l o] at d;cases d
    ·cases f:fst (fun i=>(nz (Jp t i)).map fun e=>((AB t.Edges i).Name,e)) 0 t.Edges.length with
     | some r=>
      rw [f] at h;obtain ⟨i,_,_,d,_⟩:=C1 f;unfold nz at d;split at d
      ·cases d
      ·rename_i j;cases d; exact absurd h j
     | none=>
      intro i l o;exact Od.1 (Nb.1 (DA.1 f i l o))
   exact ⟨by omega,by omega,u,w⟩
theorem IP.par (h:IP t):HD t t.Nodes.length:=TC h.node
variable {i:Int}
theorem IP.ends (h:IP t) (f:0<=i) (j:i<t.Edges.length):(0<=(AB t.Edges i).From∧(AB t.Edges i).From<t.Nodes.length)∧(0<=(AB t.Edges i).To∧(AB t.Edges i).To<t.Nodes.length):=by
 have:=h.edge i f j;unfold Jp at this;dsimp only at this;split at this
 ·cases this
 ·split at this
  ·cases this
  ·split at this
   ·rename_i d; exact ⟨d.1,d.2.1⟩
   ·cases this
def JB (t:AC) (a:Int):Bool:=decide (0<=a)&&decide (a<t.Nodes.length)
variable {a:Int}
theorem MX:JB t a=true↔0<=a∧a<t.Nodes.length:=by unfold JB; simp
theorem Uc (d:BY t) (l:Ne):HM t l=some (if (BE t).2≠0 then (BE t).2 else if (l.all (JB t))=true then 0 else 6):=by
 unfold HM;rw [SX d,bs,V4 (p:=fun a=>!JB t a) (fun a _=>by unfold MK JB; rw [show decide (a<0)=!decide (0<=a) from by rw [←decide_not,decide_eq_decide]; omega,show decide ((t.Nodes.length:Int)<=a)=!decide (a<t.Nodes.length) from by rw [←decide_not,decide_eq_decide]; omega,Bool.not_and]),bs];rw [show (l.any fun a=>!JB t a)=!(l.all (JB t)) from by rw [List.all_eq_not_any_not,Bool.not_not]];cases l.all (JB t) <;> by_cases h:(BE t).2=0 <;> simp [h]
theorem Yb (f:BY t) (a b:Int):Ko t a b=some (if (BE t).2≠0 then (BE t).2 else if (JB t a&&JB t b)=true then 0 else 6):=by
 have j:=f.nodes;have e:∀ a,decide (a<=(t.Nodes.length:Int) - 1)=decide (a<(t.Nodes.length:Int)):=fun a=>by rw [decide_eq_decide]; omega
 unfold Ko E6;rw [SZ f,bs];simp only [BI (show -9223372036854775808<=(t.Nodes.length:Int) - 1 by omega) (by omega),bs,e];change (if (!decide ((BE t).snd=0))=true then some (BE t).snd else (if (!JB t a)=true then some true else some (!JB t b)).bind fun d=>if d=true then some 6 else some 0)=_;cases JB t a <;> cases JB t b <;> by_cases h:(BE t).2=0 <;> simp [h]
theorem bK {α:Type} [Inhabited α] {l:List α} (d:0<=i) (f:i<l.length):B1 l i (AB l i)=l:=by
 unfold B1 AB;rw [List.getD_eq_getElem?_getD,List.getElem?_eq_getElem (by omega)];exact List.set_getElem_self _
theorem Hs {α:Type} [Inhabited α] {l:List α} (d:0<=i) (f:i<l.length):l.take (i+1).toNat=l.take i.toNat++[AB l i]:=by
 unfold AB;rw [show (i+1).toNat=i.toNat+1 by omega,List.take_add_one,List.getD_eq_getElem?_getD,List.getElem?_eq_getElem (by omega)];rfl
theorem E5 {α:Type} {l:List α} (h:l.length<=BM):B0 [] l=some l:=by rw [B7 (by simpa using h)]; rfl
def JK (t:AC) (a:Int):List Attr × Int:=if (BE t).2≠0 then ([],(BE t).2) else if JB t a=true then (BW t a,0) else ([],6)
theorem YR (l:BY t) (a:Int):IC t a=some (JK t a):=by
 unfold IC JK;rw [Uc l,bs];by_cases h:(BE t).2=0
 ·have j:=HC h;have e:[a].all (JB t)=JB t a:=by simp
  rw [e];simp only [h,ne_eq,not_true_eq_false,if_false];cases hi:JB t a
  ·rfl
  ·rw [d1 rfl,d1 rfl];have o:=MX.1 hi;have E:=Mn l (Int.le_refl _) j.par o.2;have C:=Mm l (Int.le_refl _) j.par o.2;rw [d2 (by decide),YS l (Int.le_refl _) j.par o.1 o.2,bs];obtain ⟨s',D,rfl⟩:=WM (f:=(fun (u:Int) (w:List Attr)=>
 (AM w u).bind fun x=>
 (slices_Clone_string x.Names).bind fun y=>
 (AM w u).bind fun d=>
 some (B1 w u (Attr.mk d.Name d.Low d.High y)))) (fun _ s=>s=BW t a) (a:=0) (b:=(BW t a).length) (s:=BW t a) (by omega) rfl (fun i s z A B=>by
     subst B;have:=(C _ (AP z A)).names;refine ⟨BW t a,?_,rfl⟩;unfold slices_Clone_string;rw [AI z A,bs,E5 (by unfold BM; omega),bs,bs];congr 1;exact bK z A)
   rw [D]; rfl
 ·simp only [h,ne_eq,not_false_eq_true,if_true,decide_false,Bool.not_false]
theorem YX (f:BY t) (a:Int):Km t a=some (JK t a):=by
 unfold Km JK;rw [Yb f,bs];by_cases h:(BE t).2=0
 ·have d:=HC h;rw [Bool.and_self];simp only [h,ne_eq,not_true_eq_false,if_false];cases hi:JB t a
  ·rfl
  ·rw [d1 rfl,d1 rfl];have j:=MX.1 hi;have w:=Mn f (Int.le_refl _) d.par j.2;have u:=Mm f (Int.le_refl _) d.par j.2;rw [d2 (by decide),YY f (Int.le_refl _) d.par j.1 j.2,bs];rw [EF (fun i=>(BW t a).take i.toNat) (by omega) (by simp)]
   ·rw [bs,Int.toNat_natCast,List.take_length]
   ·intro i l o;have:=(u _ (AP l o)).names;rw [AI l o,bs,E5 (by unfold BM; omega),bs,B7 (by rw [d5]; simp; unfold BM; omega),Hs l o];rfl
 ·simp only [h,ne_eq,not_false_eq_true,if_true,decide_false,Bool.not_false]
end Go.Sf.Sc
namespace Go.Sf.Sc
open Go Go.Sf
def OA (t:AC):Nat->Int->Ne
 | 0,_=>[]
 | n+1,a=>if a<0 then [] else a::OA t n (par t a)
theorem Ym (t:AC):∀ (n:Nat) (a:Int),(OA t n a).length<=n
 | 0,_=>by simp [OA]
 | n+1,a=>by
  rw [OA];split
  ·simp
  ·have:=Ym t n (par t a); simp; omega
def JC (t:AC) (a b:Int):Bool:=(OA t (a+1).toNat a).any fun x=>decide (b=x)
variable {t:AC}
theorem YM (f:t.Nodes.length<=12) (u:HD t t.Nodes.length):∀ (n:Nat) (a:Int) (l:Ne),a<t.Nodes.length->a<n->l.length+n<=1000 ->
  ∃ x,Mj (ρ:=Ne) (fun (d:Int × Ne)=>
 if (decide (0<=d.1))=true then
 (B0 d.2 [d.1]).bind fun h=>
 (AM t.Nodes d.1).bind fun j=>
 some (.next (j.Parent,h))
 else
 some (.brk (d.1,d.2))) (a,l) (.inl (x,l++OA t n a))
 | 0,a,l,o,z,_=>by
  refine ⟨a,.brk ?_⟩;rw [d2 (by simp; omega)];simp [OA]
 | n+1,a,l,o,z,B=>by
  by_cases w:a<0
  ·refine ⟨a,.brk ?_⟩;rw [d2 (by simp; omega)];simp [OA,w]
  ·have A:=u a (by omega) o;obtain ⟨x,y⟩:=YM f u n (par t a) (l++[a]) (by omega) (by omega) (by simp; omega);refine ⟨x,.next (s':=(par t a,l++[a])) ?_ ?_⟩
   ·rw [d1 (by simp; omega),B7 (by simp; unfold BM; omega),bs,AI (by omega) o]; rfl
   ·rw [OA,d2 w,show l++a::OA t n (par t a)=(l++[a])++OA t n (par t a) by simp];exact y
variable {a b:Int}
theorem cn (h:IP t) (l:0<=a) (d:a<t.Nodes.length):Jm t a b=some (JC t a b):=by
 have f:=h.nodes;obtain ⟨x,j⟩:=YM f h.par (a+1).toNat a [] d (by omega) (by simp; omega);have o:=Ym t (a+1).toNat a;unfold Jm KV;rw [j.eq,DX];simp only [List.nil_append];unfold slices_Reverse_int;rw [d1 (by unfold BM; omega)];simp only [bs];rw [TZ,bs];unfold JC;rw [List.any_reverse]
theorem TG (f:HD t t.Nodes.length) (l:0<=b):∀ (n m:Nat) (a:Int),-1<=a->a<t.Nodes.length->a+1<n->a<m->Hw n t a b=some ((OA t m a).any fun x=>decide (b=x))
 | 0,_,_,_,_,_,_=>by omega
 | n+1,m,a,u,j,w,y=>by
  rw [Hw];by_cases h:a<0
  ·rw [d2 (by simp; omega),d2 (by simp; omega)];cases m <;> simp [OA,h]
  ·cases m with
   | zero=>omega
   | succ m=>
    have o:=f a (by omega) j;rw [OA,d2 h,List.any_cons,d1 (show decide (0<=a)=true by simp; omega),AI (by omega) j];simp only [bs];rw [show (AB t.Nodes a).Parent=par t a from rfl,TG f l n m (par t a) (by omega) (by omega) (by omega) (by omega)];by_cases d:a=b
    ·simp [d]
    ·have:¬ b=a:=fun e=>d e.symm;simp [d,this]
theorem Sa (h:IP t) (j:0<=a) (d:a<t.Nodes.length) (f:0<=b):II t a b=some (JC t a b):=
 E9 (a+2).toNat fun n l=>TG h.par f n (a+1).toNat a (by omega) d (by omega) (by omega)
def QP (t:AC) (e f g:Int):Bool:=
 decide ((BE t).2=0)&&(JB t f&&JB t g)&&(decide (0<=e)&&decide (e<t.Edges.length))&&(JC t f (AB t.Edges e).From&&JC t g (AB t.Edges e).To)
theorem jE (l:BY t) (e f g:Int):JZ t e f g=some (QP t e f g):=by
 unfold JZ QP;rw [Uc l,bs,show [f,g].all (JB t)=(JB t f&&JB t g) by simp];by_cases h:(BE t).2=0
 ·simp only [h,ne_eq,not_true_eq_false,if_false];have d:=HC h;cases hi:(JB t f&&JB t g)
  ·rfl
  ·rw [zzZ,MX,MX] at hi;by_cases j:0<=e∧e<t.Edges.length
   ·rw [d2 (by simp; omega),AI j.1 j.2];simp only [bs,cn d hi.1.1 hi.1.2,cn d hi.2.1 hi.2.2,j.1,j.2,decide_true,Bool.true_and];cases JC t f (AB t.Edges e).From <;> rfl
   ·rw [d1 (by simp; omega)];have:(decide (0<=e)&&decide (e<t.Edges.length))=false:=by rw [Bool.eq_false_iff]; simpa using j
    rw [this]; simp
 ·simp [h]
theorem jR (u:BY t) (e f g:Int):M4 t e f g=some (QP t e f g):=by
 have x:=u.edges;unfold M4 QP E6;rw [Yb u,bs];by_cases h:(BE t).2=0
 ·simp only [h,ne_eq,not_true_eq_false,if_false];have j:=HC h;cases hi:(JB t f&&JB t g)
  ·rfl
  ·rw [zzZ,MX,MX] at hi;rw [BI (by omega) (by omega)];simp only [bs];by_cases d:0<=e∧e<t.Edges.length
   ·have l:=j.ends d.1 d.2;have o:e<=(t.Edges.length:Int) - 1:=by omega
    rw [d2 (by simp),bs,d2 (by simp [d.1,o]),AI d.1 d.2];simp only [bs,Sa j hi.1.1 hi.1.2 l.1.1,Sa j hi.2.1 hi.2.2 l.2.1,d.1,d.2,decide_true,Bool.true_and];cases JC t f (AB t.Edges e).From <;> rfl
   ·have:(decide (0<=e)&&decide (e<t.Edges.length))=false:=by rw [Bool.eq_false_iff]; simpa using d
    have w:(decide (0<=e)&&decide (e<=(t.Edges.length:Int) - 1))=false:=by rw [Bool.eq_false_iff]; simp; omega
    rw [this,w]; simp
 ·simp [h]
def ND (n:Int) (x:Term):Bool:=(((decide ((-1)<=x.Var))&&(decide (x.Var<n)))&&(decide ((-1000000)<=x.Add)))&&(decide (x.Add<=1000000))
def MJ (n:Int) (x:Test):Int:=if ¬ x.Kind=1∧¬ x.Kind=2 then 1 else if (ND n x.Left&&ND n x.Right)=true then 0 else 6
def JX (n:Int) (l:List Test):Int:=if n<0∨12<n then 6 else if 40<l.length then 3 else (fst (fun i=>nz (MJ n (AB l i))) 0 l.length).getD 0
theorem jO (n:Int) (x:Test):Jz n x=some (MJ n x):=by
 unfold Jz MJ;simp only [show ∀ n x,JM n x=some (ND n x) from fun _ _=>rfl,bs];generalize ND n x.Left=b1;generalize ND n x.Right=b2;cases b1 <;> cases b2
 all_goals
  simp only [bs,zzX,Bool.or_eq_true,zzZ,Bool.not_eq_true',decide_eq_false_iff_not,Bool.not_eq_false',Bool.or_eq_false_iff,Bool.and_eq_false_iff,ne_eq]
  repeat' (first | rfl | (exfalso; omega; done) | split)
  all_goals (first | rfl | (exfalso; omega) | omega | simp_all | (simp_all; omega))
theorem cw (n:Int) (x:Term):J6 n x=some (if ND n x=true then 0 else 6):=by
 unfold J6 ND;simp only [bs,zzX,Bool.or_eq_true,zzZ,Bool.not_eq_true',decide_eq_false_iff_not,Bool.not_eq_false',Bool.or_eq_false_iff,Bool.and_eq_false_iff,ne_eq]
 repeat' (first | rfl | (exfalso; omega; done) | split)
 all_goals (first | rfl | (exfalso; omega) | omega | simp_all | (simp_all; omega))
theorem jY (n:Int) (x:Test):N6 n x=some (MJ n x):=by
 unfold N6 MJ;simp only [cw,bs];generalize ND n x.Left=b1;generalize ND n x.Right=b2;cases b1 <;> cases b2
 all_goals
  simp only [bs,zzX,Bool.or_eq_true,zzZ,Bool.not_eq_true',decide_eq_false_iff_not,Bool.not_eq_false',Bool.or_eq_false_iff,Bool.and_eq_false_iff,ne_eq]
  repeat' (first | rfl | (exfalso; omega; done) | split)
  all_goals (first | rfl | (exfalso; omega) | omega | simp_all | (simp_all; omega))
theorem fx (n:Int) (l:List Test):Ix n l=some (JX n l):=by
 unfold Ix JX;rw [C5 (fun i=>nz (MJ n (AB l i))),Ht]
 ·simp only [bs,zzX,Bool.or_eq_true,zzZ,Bool.not_eq_true',decide_eq_false_iff_not,Bool.not_eq_false',Bool.or_eq_false_iff,Bool.and_eq_false_iff,ne_eq]
  repeat' (first | rfl | (exfalso; omega; done) | split)
  all_goals (first | rfl | (exfalso; omega) | omega | simp_all | (simp_all; omega))
 ·intro i d f _;rw [AI d f,bs,jO,bs,Py]
theorem gJ (n:Int) (l:List Test):Lz n l=some (JX n l):=by
 unfold Lz JX;rw [C5 (fun i=>nz (MJ n (AB l i))),Ht]
 ·simp only [bs,zzX,Bool.or_eq_true,zzZ,Bool.not_eq_true',decide_eq_false_iff_not,Bool.not_eq_false',Bool.or_eq_false_iff,Bool.and_eq_false_iff,ne_eq]
  repeat' (first | rfl | (exfalso; omega; done) | split)
  all_goals (first | rfl | (exfalso; omega) | omega | simp_all | (simp_all; omega))
 ·intro i d f _;rw [AI d f,bs,jY,bs,Py]
def PD (t:AC) (p:Pattern) (node ix:Int):Attr × Bool:=
 if node<0∨p.Graph.Nodes.length<=node then (default,false) else
 let l:=(JK t (AB p.Graph.Nodes node)).1
 if ix<0∨l.length<=ix then (default,false) else (AB l ix,true)
theorem TT (f:BY t) (a:Int):(JK t a).1.length<=600∧((JK t a).2≠0->(JK t a).1=[]):=by
 unfold JK;split
 ·simp
 ·rename_i h;have d:=HC (t:=t) (by omega);split
  ·rename_i hi;exact ⟨Mn f (Int.le_refl _) d.par (MX.1 hi).2,by simp⟩
  ·simp
variable {p:Pattern}
theorem fl (d:BY t) (j:Ki p.Graph) (s:EI):G2 t p s=some (PD t p s.Node s.Attr):=by
 have l:=j.nodes;unfold G2 PD D2;dsimp only;rw [BI (by omega) (by omega),bs];by_cases h:s.Node<0∨p.Graph.Nodes.length<=s.Node
 ·rw [d1 (by simp; omega),d1 h]; rfl
 ·rw [d2 (by simp; omega),d2 h,AI (by omega) (by omega),bs,YR d,bs];have o:=(TT d (AB p.Graph.Nodes s.Node)).1;rw [BI (by omega) (by omega),bs];by_cases f:s.Attr<0∨(JK t (AB p.Graph.Nodes s.Node)).1.length<=s.Attr
  ·rw [d1 (by simp; omega),d1 f]; rfl
  ·rw [d2 (by simp; omega),d2 f,AI (by omega) (by omega)]; rfl
theorem gB (j:BY t) (node d:Int):M8 t p node d=some (PD t p node d):=by
 unfold M8 PD;dsimp only;by_cases h:node<0∨p.Graph.Nodes.length<=node
 ·rw [d1 (by simp; omega),d1 h]; rfl
 ·rw [d2 (by simp; omega),d2 h,AI (by omega) (by omega),bs,YX j,bs];have o:=(TT j (AB p.Graph.Nodes node)).2;by_cases f:d<0∨(JK t (AB p.Graph.Nodes node)).1.length<=d
  ·rw [d1 (by simp; omega),d1 f]; rfl
  ·by_cases l:(JK t (AB p.Graph.Nodes node)).2=0
   ·rw [d2 (by simp [l]; omega),d2 f,AI (by omega) (by omega)]; rfl
   ·rw [o l] at f; simp at f; omega
end Go.Sf.Sc
namespace Go.Sf
variable {σ ρ:Type}
def kE (s:σ) (o:Option ρ):CZ σ ρ:=match o with
 | none=>.next s
 | some r=>.ret r
def ed (s:σ) (o:Option ρ):σ ⊕ ρ:=match o with
 | none=>.inl s
 | some r=>.inr r
theorem WN {f:Int->σ->Option (CZ σ ρ)} (g:Int->σ) (c:Int->Option ρ):∀ (n:Nat) (a:Int),
  (∀ i,a<=i->i<a+n->(∀ j,a<=j->j<i->c j=none)->f i (g i)=some (kE (g (i+1)) (c i)))->forGo f n a (g a)=some (ed (g (a+n)) (FH c n a))
 | 0,a,_=>by simp [forGo,FH,ed]
 | n+1,a,h=>by
  have w:=h a (Int.le_refl _) (by omega) (fun j d l=>by omega);rw [H6,w,FH];cases x:c a with
  | some r=>rfl
  | none=>
   simp only [kE];rw [show a+((n+1:Nat):Int)=a+1+n by omega];refine WN g c n (a+1) (fun i d l o=>h i (by omega) (by omega) (fun j z u=>?_));by_cases y:j=a
   ·subst y; exact x
   ·exact o j (by omega) u
variable {a b:Int}
theorem Kj {f:Int->σ->Option (CZ σ ρ)} (g:Int->σ) (c:Int->Option ρ) {s:σ} (d:a<=b) (l:s=g a) (h:∀ i,a<=i->i<b->(∀ j,a<=j->j<i->c j=none)->f i (g i)=some (kE (g (i+1)) (c i))):forR f a b s=some (ed (g b) (fst c a b)):=by
 subst l;unfold forR fst;have:=WN g c (b - a).toNat a (fun i o w u=>h i o (by omega) u)
 rwa [show a+((b - a).toNat:Int)=b by omega] at this
variable {α:Type}
variable {e:Int}
theorem Ib {X:dD} {Y:Int} (h:e=0->X=some Y):(if (!decide (e=0))=true then some e else X)=some (if e≠0 then e else Y):=by
 by_cases d:e=0
 ·simp [d,h d]
 ·simp [d]
variable {v:α} {X:Option α} {Y:α}
theorem K8 (h:e=0->X=some Y):(if (!decide (e=0))=true then some v else X)=some (if e≠0 then v else Y):=by
 by_cases d:e=0
 ·simp [d,h d]
 ·simp [d]
variable {P:Prop}
theorem Pr [Decidable P] {b:Bool} (f:b=true↔P) (h:¬ P->X=some Y):(if b=true then some v else X)=some (if P then v else Y):=by
 by_cases d:P
 ·rw [d1 (f.2 d),d1 d]
 ·rw [d2 (fun h=>d (f.1 h)),d2 d,h d]
theorem X9 {b:Bool} (h:b=true->X=some Y):(if (!b)=true then some v else X)=some (if b=false then v else Y):=by
 cases b
 ·rfl
 ·simpa using h rfl
theorem rT {b:Bool} (h:b=false->X=some Y):(if b=true then some v else X)=some (if b=true then v else Y):=by
 cases b
 ·simpa using h rfl
 ·rfl
end Go.Sf
namespace Go.Sf.Sc
open Go Go.Sf
def QD (t:AC) (p:Pattern) (s:EI):Bool:=!(PD t p s.Node s.Attr).2||decide (s.Term.Var < -1)||decide (p.Vars<=s.Term.Var)||(decide (s.Term.Add < -1000000)||decide (1000000<s.Term.Add))
def LF (p:Pattern) (v:Int):Bool:=p.Slots.any fun s=>decide (s.Term.Var=v)
def J5 (t:AC) (p:Pattern):Int:=
 if (BE t).2≠0 then (BE t).2 else if DK p.Graph≠0 then DK p.Graph else if GL t p.Graph=false then 13 else
 if p.Vars<0∨12<p.Vars then 6 else if 10<p.Slots.length∨10<p.Tests.length then 3 else
 if (p.Slots.any (QD t p))=true then 6 else if JX p.Vars p.Tests≠0 then JX p.Vars p.Tests else
 if anyR (fun v=>!LF p v) 0 p.Vars=true then 9 else 0
def KW (p:Pattern) (i:Int):d0:=(List.range p.Vars.toNat).map fun (v:Nat)=>(p.Slots.take i.toNat).any fun s=>decide (s.Term.Var=(v:Int))
variable {p:Pattern}
theorem Zu:KW p 0=List.replicate p.Vars.toNat false:=by
 unfold KW;refine List.ext_getElem (by simp) (fun n d f=>by simp)
theorem be (p:Pattern) (i:Int):(KW p i).length=p.Vars.toNat:=by simp [KW]
variable {i:Int}
theorem bf (f:0<=i) (h:i<p.Slots.length) (hv:0<=(AB p.Slots i).Term.Var):B1 (KW p i) (AB p.Slots i).Term.Var true=KW p (i+1):=by
 unfold B1;refine List.ext_getElem (by simp [KW]) (fun n j l=>?_);simp only [KW,List.getElem_set,List.getElem_map,List.getElem_range,Hs f h,List.any_append,List.any_cons,List.any_nil,Bool.or_false];by_cases d:(AB p.Slots i).Term.Var.toNat=n
 ·rw [d1 d,decide_eq_true (show (AB p.Slots i).Term.Var=(n:Int) by omega),Bool.or_true]
 ·rw [d2 d,decide_eq_false (show ¬ (AB p.Slots i).Term.Var=(n:Int) by omega),Bool.or_false]
theorem Zt (d:0<=i) (f:i<p.Slots.length) (hv:(AB p.Slots i).Term.Var<0):KW p i=KW p (i+1):=by
 refine List.ext_getElem (by simp [KW]) (fun n h j=>?_);simp only [KW,List.getElem_map,List.getElem_range,Hs d f,List.any_append,List.any_cons,List.any_nil,Bool.or_false];rw [decide_eq_false (show ¬ (AB p.Slots i).Term.Var=(n:Int) by omega),Bool.or_false]
theorem bd (p:Pattern):((KW p p.Slots.length).any fun x=>false==x)=anyR (fun v=>!LF p v) 0 p.Vars:=by
 rw [Bool.eq_iff_iff,List.any_eq_true,IW];simp only [KW,Int.toNat_natCast,List.take_length,List.mem_map,List.mem_range];constructor
 ·rintro ⟨x,⟨v,hv,rfl⟩,d⟩;refine ⟨v,by omega,by omega,?_⟩;unfold LF;revert d;cases p.Slots.any fun s=>decide (s.Term.Var=(v:Int)) <;> simp
 ·rintro ⟨v,f,h,d⟩;refine ⟨_,⟨v.toNat,by omega,rfl⟩,?_⟩;rw [Int.toNat_of_nonneg f];unfold LF at d;revert d;cases p.Slots.any fun s=>decide (s.Term.Var=v) <;> simp
theorem fT {α ρ:Type} [Inhabited α] {l:List α} {q:α->Bool} {v:ρ}:fst (fun i=>if q (AB l i)=true then some v else none) 0 l.length=if l.any q=true then some v else none:=by
 rw [PM,Kb]
variable {t:AC}
theorem Vo (C:BY t) (p:Pattern):EP t p=some (J5 t p):=by
 unfold EP J5;rw [SX C,bs,Oe,bs];refine Ib fun G=>Ib fun E=>?_;have x:=GE E;have e:((B5 p.Graph.Nodes (fun d=>IZ d t)).bind fun l=>
   (if l=true then some true else ((CL p.Graph.Edges (fun d=>Ia d t)).bind fun o=>some (o))))=some (!GL t p.Graph):=by
  unfold GL;rw [show (fun d=>IZ d t)=(fun (n:Int)=>some (decide (t.Nodes.length<=n))) from rfl,aC,show (fun d=>Ia d t)=(fun (e:DY)=>some (decide (t.Edges.length<=e.Type'))) from rfl,fI];simp only [bs];cases p.Graph.Nodes.any fun n=>decide (t.Nodes.length<=n) <;> simp
 rw [←Option.bind_assoc,e,bs];refine X9 fun F=>?_;unfold D2;simp only [bs];refine Pr (by simp; try omega) fun hv=>Pr (by simp; try omega) fun H=>?_;unfold Jn;rw [d1 (by omega),bs,←Zu,BI (show -9223372036854775808<=p.Vars - 1 by omega) (by omega),Kj (KW p) (fun i=>if QD t p (AB p.Slots i)=true then some 6 else none) (by omega) rfl,fT]
 ·cases f:p.Slots.any (QD t p)
  ·simp only [Bool.false_eq_true,if_false,ed,DX,fx,bs,fM,bd];by_cases h:JX p.Vars p.Tests=0
   ·simp only [h];cases anyR (fun v=>!LF p v) 0 p.Vars <;> rfl
   ·simp [h]
  ·rfl
 ·intro i u w _;rw [AI u w,bs,fl C x,bs];unfold QD;by_cases f:(PD t p (AB p.Slots i).Node (AB p.Slots i).Attr).2=true
  ·by_cases D:(AB p.Slots i).Term.Var < -1∨p.Vars<=(AB p.Slots i).Term.Var
   ·have y:(decide (-1<=(AB p.Slots i).Term.Var)&&decide ((AB p.Slots i).Term.Var<=p.Vars - 1))=false:=by rw [Bool.eq_false_iff]; simp; omega
    have z:(decide ((AB p.Slots i).Term.Var < -1)||decide (p.Vars<=(AB p.Slots i).Term.Var))=true:=by simp; omega
    rw [f,y,Bool.or_assoc (!true),z]; rfl
   ·have y:(decide (-1<=(AB p.Slots i).Term.Var)&&decide ((AB p.Slots i).Term.Var<=p.Vars - 1))=true:=by simp; omega
    have z:(decide ((AB p.Slots i).Term.Var < -1)||decide (p.Vars<=(AB p.Slots i).Term.Var))=false:=by rw [Bool.eq_false_iff]; simp; omega
    rw [f,y,Bool.or_assoc (!true),z];by_cases I:(AB p.Slots i).Term.Add < -1000000∨1000000<(AB p.Slots i).Term.Add
    ·have A:(decide (-1000000<=(AB p.Slots i).Term.Add)&&decide ((AB p.Slots i).Term.Add<=1000000))=false:=by rw [Bool.eq_false_iff]; simp; omega
     have B:(decide ((AB p.Slots i).Term.Add < -1000000)||decide (1000000<(AB p.Slots i).Term.Add))=true:=by simp; omega
     rw [A,B]; rfl
    ·have A:(decide (-1000000<=(AB p.Slots i).Term.Add)&&decide ((AB p.Slots i).Term.Add<=1000000))=true:=by simp; omega
     have B:(decide ((AB p.Slots i).Term.Add < -1000000)||decide (1000000<(AB p.Slots i).Term.Add))=false:=by rw [Bool.eq_false_iff]; simp; omega
     rw [A,B];by_cases j:0<=(AB p.Slots i).Term.Var
     ·simp only [Bool.not_true,Bool.false_eq_true,if_false,bs,j,decide_true,if_true,Bool.or_false];rw [AI j (by rw [be]; omega),bs,bf u w j]; rfl
     ·simp only [Bool.not_true,Bool.false_eq_true,if_false,bs,j,decide_false,Bool.or_false];rw [Zt u w (by omega)]; rfl
  ·rw [Bool.not_eq_true] at f;rw [f]; rfl
theorem eP (p:Pattern) (v:Int):LM p v=some (LF p v):=by
 unfold LM LF;rw [CR (fun i=>decide ((AB p.Slots i).Term.Var=v)) true,Kb]
 ·cases anyR (fun i=>decide ((AB p.Slots i).Term.Var=v)) 0 p.Slots.length <;> rfl
 ·intro i d f _;rw [AI d f,bs,J3]
theorem ZT (h:BY t) (p:Pattern):Jj t p=some (J5 t p):=by
 unfold Jj J5;rw [SZ h,bs,Og,bs];refine Ib fun w=>Ib fun o=>?_;have f:=GE o;rw [Ud f,bs];refine X9 fun u=>Pr (by simp; try omega) fun hv=>Pr (by simp; try omega) fun x=>?_;rw [CR (fun i=>QD t p (AB p.Slots i)) 6,←Kb]
 ·cases y:p.Slots.any (QD t p)
  ·simp only [Bool.false_eq_true,if_false,DX,gJ,bs];by_cases d:JX p.Vars p.Tests=0
   ·simp only [d];rw [CR (fun v=>!LF p v) 9]
    ·cases anyR (fun v=>!LF p v) 0 p.Vars <;> rfl
    ·intro i j l _;rw [eP,bs,J3]
   ·simp [d]
  ·rfl
 ·intro i j l _;rw [AI j l,bs,gB h,bs];unfold QD MH;simp only [bs];have e:(!(decide (-1000000<=(AB p.Slots i).Term.Add)&&decide ((AB p.Slots i).Term.Add<=1000000)))=(decide ((AB p.Slots i).Term.Add < -1000000)||decide (1000000<(AB p.Slots i).Term.Add)):=by
   rw [Bool.not_and,←decide_not,←decide_not];congr 1 <;> rw [decide_eq_decide] <;> omega
  rw [e];cases (!(PD t p (AB p.Slots i).Node (AB p.Slots i).Attr).2||decide ((AB p.Slots i).Term.Var < -1)||decide (p.Vars<=(AB p.Slots i).Term.Var))
  ·simp only [Bool.false_eq_true,if_false,bs,Bool.false_or,J3]
  ·rfl
end Go.Sf.Sc
namespace Go.Sf
variable {R:Int->Int->Prop}
theorem Xt {l:Ne} (h:l.Pairwise R) {i j:Int} (d:0<=i) (f:i<j) (o:j<l.length):R (AB l i) (AB l j):=by
 have:=(List.pairwise_iff_getElem.1 h) i.toNat j.toNat (by omega) (by omega) (by omega);unfold AB;rw [List.getD_eq_getElem?_getD,List.getD_eq_getElem?_getD,List.getElem?_eq_getElem (by omega),List.getElem?_eq_getElem (by omega)];exact this
theorem Xd {l:Ne} (h:∀ i j:Int,0<=i->i<j->j<l.length->R (AB l i) (AB l j)):l.Pairwise R:=by
 refine List.pairwise_iff_getElem.2 (fun i j d f o=>?_);have:=h i j (by omega) (by omega) (by omega);unfold AB at this;rw [List.getD_eq_getElem?_getD,List.getD_eq_getElem?_getD,Int.toNat_natCast,Int.toNat_natCast,List.getElem?_eq_getElem d,List.getElem?_eq_getElem f] at this;exact this
end Go.Sf
namespace Go.Sf.Sc
open Go Go.Sf
def cO (l:Ne) (v:Int):Bool:=l.any fun x=>decide (v=x)
theorem cP {l:Ne} {v:Int}:cO l v=true↔v∈l:=by
 unfold cO;rw [List.any_eq_true];simp
variable {a b:Int}
theorem U3 {c:Int->dD} (f:∀ i,c i≠some 0) (h:(fst c a b).getD 0=0):∀ i,a<=i->i<b->c i=none:=by
 have:fst c a b=none:=by
  cases d:fst c a b with
  | none=>rfl
  | some r=>
   rw [d] at h;simp only [Option.getD] at h;subst h;obtain ⟨i,_,_,j,_⟩:=C1 d;exact (f i j).elim
 exact DA.1 this
end Go.Sf.Sc
namespace Go.Sf.Sc
open Go Go.Sf
def Kd (a b:Graph) (m:Morphism) (i:Int):dD:=
 if AB m.Nodes i<0∨b.Nodes.length<=AB m.Nodes i then some 6 else if AB b.Nodes (AB m.Nodes i)≠AB a.Nodes i then some 13 else none
def Hz (a b:Graph) (m:Morphism) (i:Int):dD:=
 if AB m.Edges i<0∨b.Edges.length<=AB m.Edges i then some 6 else
 if (AB a.Edges i).Type'≠(AB b.Edges (AB m.Edges i)).Type' then some 13 else
 if AB m.Nodes (AB a.Edges i).From≠(AB b.Edges (AB m.Edges i)).From∨AB m.Nodes (AB a.Edges i).To≠(AB b.Edges (AB m.Edges i)).To then some 11 else none
def MN (a b:Graph) (m:Morphism):Int:=
 if DK a≠0 then DK a else if DK b≠0 then DK b else if m.Nodes.length≠a.Nodes.length∨m.Edges.length≠a.Edges.length then 20 else
 match fst (Kd a b m) 0 m.Nodes.length with
 | some e=>e
 | none=>(fst (Hz a b m) 0 m.Edges.length).getD 0
structure du (a b:Graph) (m:Morphism):Prop where
 ga:Ki a
 gb:Ki b
 nlen:m.Nodes.length=a.Nodes.length
 elen:m.Edges.length=a.Edges.length
 node:∀ i:Int,0<=i->i<m.Nodes.length->(0<=AB m.Nodes i∧AB m.Nodes i<b.Nodes.length)∧AB b.Nodes (AB m.Nodes i)=AB a.Nodes i
 edge:∀ i:Int,0<=i->i<m.Edges.length->(0<=AB m.Edges i∧AB m.Edges i<b.Edges.length)∧(AB a.Edges i).Type'=(AB b.Edges (AB m.Edges i)).Type' ∧
  AB m.Nodes (AB a.Edges i).From=(AB b.Edges (AB m.Edges i)).From∧AB m.Nodes (AB a.Edges i).To=(AB b.Edges (AB m.Edges i)).To
variable {m:Morphism}
theorem eF {a b:Graph} (h:MN a b m=0):du a b m:=by
 unfold MN at h;split at h
 ·omega
 split at h
 ·omega
 split at h
 ·cases h
 rename_i u w A;have j:fst (Kd a b m) 0 m.Nodes.length=none:=by
  split at h
  ·rename_i r l;obtain ⟨i,_,_,k,_⟩:=C1 l;subst h;unfold Kd at k;split at k
   ·cases k
   ·split at k <;> cases k
  ·assumption
 rw [j] at h;have o:=U3 (fun i=>by
  unfold Hz;split
  ·simp
  ·split
   ·simp
   ·split <;> simp) h
 refine ⟨GE (by omega),GE (by omega),by omega,by omega,fun i d f=>?_,fun i d f=>?_⟩
 ·have:=DA.1 j i d f;unfold Kd at this;split at this
  ·cases this
  ·split at this
   ·cases this
   ·rename_i x y;exact ⟨by omega,Classical.not_not.1 y⟩
 ·have:=o i d f;unfold Hz at this;split at this
  ·cases this
  ·split at this
   ·cases this
   ·split at this
    ·cases this
    ·rename_i x y z;exact ⟨by omega,Classical.not_not.1 y,Classical.not_not.1 (fun h=>z (.inl h)),Classical.not_not.1 (fun h=>z (.inr h))⟩
theorem eG (a b:Graph) (m:Morphism):FR a b m=some (MN a b m):=by
 unfold FR MN;rw [Oe,bs,Oe,bs];refine Ib fun w=>Ib fun x=>Pr (by simp; try omega) fun A=>?_;have ga:=GE w;have gb:=GE x;rw [C5 (Kd a b m),GB]
 ·cases y:fst (Kd a b m) 0 m.Nodes.length with
  | some e=>rfl
  | none=>
   have z:=DA.1 y;dsimp only;rw [C5 (Hz a b m),Ht];intro i h u _;unfold Hz;rw [AI h u,bs];by_cases d:AB m.Edges i<0∨b.Edges.length<=AB m.Edges i
   ·rw [d1 (by simpa using d),d1 d]; rfl
   ·have B:=ga.fit _ (AP (l:=a.Edges) h (by omega));rw [d2 (by simpa using d),d2 d,AI h (by omega),bs,AI (by omega) (by omega),bs];by_cases f:(AB a.Edges i).Type'=(AB b.Edges (AB m.Edges i)).Type'
    ·rw [d2 (by simpa using f),d2 (by simpa using f),AI (by omega) (by omega),bs];by_cases j:AB m.Nodes (AB a.Edges i).From=(AB b.Edges (AB m.Edges i)).From
     ·rw [d2 (by simpa using j),AI (by omega) (by omega),bs,bs];by_cases o:AB m.Nodes (AB a.Edges i).To=(AB b.Edges (AB m.Edges i)).To
      ·rw [d2 (by simpa using o),d2 (by simp [j,o])]; rfl
      ·rw [d1 (by simpa using o),d1 (.inr o)]; rfl
     ·rw [d1 (by simpa using j),bs,d1 rfl,d1 (.inl j)]; rfl
    ·rw [d1 (by simpa using f),d1 f]; rfl
 ·intro i h u _;unfold Kd;rw [AI h u,bs];by_cases d:AB m.Nodes i<0∨b.Nodes.length<=AB m.Nodes i
  ·rw [d1 (by simpa using d),d1 d]; rfl
  ·rw [d2 (by simpa using d),d2 d,AI (by omega) (by omega),bs,AI h (by omega),bs];by_cases f:AB b.Nodes (AB m.Nodes i)=AB a.Nodes i
   ·rw [d2 (by simpa using f),d2 (by simpa using f)]; rfl
   ·rw [d1 (by simpa using f),d1 f]; rfl
theorem SB {x y:Prop} [Decidable x] [Decidable y]:(if decide x=true then some true else some (decide y))=some (decide (x∨y)):=by
 by_cases d:x <;> simp [d]
theorem eM (a b:Graph) (m:Morphism):Kq a b m=some (MN a b m):=by
 unfold Kq MN;rw [Og,bs,Og,bs];refine Ib fun w=>Ib fun x=>Pr (by simp; try omega) fun A=>?_;have ga:=GE w;have gb:=GE x;rw [show (a.Nodes.length:Int)=m.Nodes.length by omega,show (a.Edges.length:Int)=m.Edges.length by omega,C5 (Kd a b m),GB]
 ·cases y:fst (Kd a b m) 0 m.Nodes.length with
  | some e=>rfl
  | none=>
   have z:=DA.1 y;dsimp only;rw [C5 (Hz a b m),Ht];intro i h u _;unfold Hz;rw [AI h u];simp only [bs,SB];by_cases d:AB m.Edges i<0∨b.Edges.length<=AB m.Edges i
   ·rw [d1 (by simpa using d),d1 d]; rfl
   ·have B:=ga.fit _ (AP (l:=a.Edges) h (by omega));rw [d2 (by simpa using d),d2 d,AI h (by omega),bs,AI (by omega) (by omega),bs];by_cases f:(AB a.Edges i).Type'=(AB b.Edges (AB m.Edges i)).Type'
    ·rw [d2 (by simpa using f),d2 (by simpa using f),AI (by omega) (by omega),bs];by_cases j:AB m.Nodes (AB a.Edges i).From=(AB b.Edges (AB m.Edges i)).From
     ·rw [d2 (by simpa using j),AI (by omega) (by omega),bs,bs];by_cases o:AB m.Nodes (AB a.Edges i).To=(AB b.Edges (AB m.Edges i)).To
      ·rw [d2 (by simpa using o),d2 (by simp [j,o])]; rfl
      ·rw [d1 (by simpa using o),d1 (.inr o)]; rfl
     ·rw [d1 (by simpa using j),bs,d1 rfl,d1 (.inl j)]; rfl
    ·rw [d1 (by simpa using f),d1 f]; rfl
 ·intro i h u _;unfold Kd;rw [AI h u];simp only [bs,SB];by_cases d:AB m.Nodes i<0∨b.Nodes.length<=AB m.Nodes i
  ·rw [d1 (by simpa using d),d1 d]; rfl
  ·rw [d2 (by simpa using d),d2 d,AI (by omega) (by omega),bs,AI h (by omega),bs];by_cases f:AB b.Nodes (AB m.Nodes i)=AB a.Nodes i
   ·rw [d2 (by simpa using f),d2 (by simpa using f)]; rfl
   ·rw [d1 (by simpa using f),d1 f]; rfl
def Ln (l:Ne):Bool:=!anyR (fun i=>anyR (fun j=>decide (AB l i=AB l j)) 0 i) 0 l.length
theorem QG {l:Ne}:Ln l=true↔l.Nodup:=by
 unfold Ln;rw [Bool.not_eq_true',ET];constructor
 ·intro h;refine Xd (fun i j d f o=>?_);have:=h j (by omega) o;rw [ET] at this;have:=this i d f;rw [decide_eq_false_iff_not] at this;exact fun e=>this e.symm
 ·intro h i y u;rw [ET];intro j w x;rw [decide_eq_false_iff_not];exact fun e=>Xt h w x u e.symm
theorem ZS (l:Ne):Iv l=some (Ln l):=by
 unfold Iv Ln;rw [CR (fun i=>anyR (fun j=>decide (AB l i=AB l j)) 0 i) false]
 ·cases anyR (fun i=>anyR (fun j=>decide (AB l i=AB l j)) 0 i) 0 l.length <;> rfl
 ·intro i d f _;rw [CR (fun j=>decide (AB l i=AB l j)) false]
  ·cases anyR (fun j=>decide (AB l i=AB l j)) 0 i <;> rfl
  ·intro j h o _;rw [AI d f,bs,AI h (by omega),bs,J3]
theorem Wp {l:Ne} (f:l.length<=1000):∃ k,IT l=some k∧decide (k=(l.length:Int))=Ln l:=by
 have d:(Nk l).length=l.length:=(LX l).length_eq;refine ⟨((Go.Lib.compact (Nk l)).length:Int),?_,?_⟩
 ·unfold IT slices_Clone_int slices_Sort_int slices_Compact_int;rw [E5 (by unfold BM; omega),bs,d1 (by unfold BM; omega),bs,d1 (by rw [d]; unfold BM; omega),bs]
 ·rw [Bool.eq_iff_iff,QG,zzX,←(LX l).nodup_iff,←Q2 (Mz l),d];omega
def Na (m:Morphism):Bool:=Ln m.Nodes&&Ln m.Edges
theorem qH {a b:Graph} (h:MN a b m=0):ES a b m=some (Na m):=by
 have ho:=eF h;have:=ho.ga.nodes;have:=ho.ga.edges;have:=ho.nlen;have:=ho.elen;obtain ⟨k,d,f⟩:=Wp (l:=m.Nodes) (by omega);obtain ⟨j,o,u⟩:=Wp (l:=m.Edges) (by omega);unfold ES Na;rw [eG,h,bs,d1 (decide_eq_true rfl),d];simp only [bs,o,f,u];cases Ln m.Nodes <;> rfl
theorem qK {a b:Graph} (h:MN a b m=0):JU a b m=some (Na m):=by
 unfold JU Na;rw [eM,h,bs,d1 (decide_eq_true rfl),ZS];simp only [bs,ZS];cases Ln m.Nodes <;> rfl
def S6 (t:AC) (g:Graph) (i:Int):Bool:=QP t (AB g.Edges i).Type' (AB g.Nodes (AB g.Edges i).From) (AB g.Nodes (AB g.Edges i).To)
end Go.Sf.Sc
namespace Go.Sf.Sc
open Go Go.Sf
structure P9 (p:Pattern):Prop where
 nodes:p.Graph.Nodes.length<=45
 edges:p.Graph.Edges.length<=90
 slots:p.Slots.length<=15
 tests:p.Tests.length<=15
structure bn (m:Morphism):Prop where
 nodes:m.Nodes.length<=140
 edges:m.Edges.length<=140
inductive EE:AA->Prop where
 | mk (c:AA) (hq:P9 c.Pattern) (hm:bn c.Map) (hk:∀ k∈c.Kids,EE k):EE c
variable {c:AA}
theorem EE.q (h:EE c):P9 c.Pattern:=by cases h; assumption
theorem EE.m (h:EE c):bn c.Map:=by cases h; assumption
theorem EE.k (h:EE c):∀ k∈c.Kids,EE k:=by cases h; assumption
theorem D9 {c k:AA} (h:k∈c.Kids):SizeOf.sizeOf k<SizeOf.sizeOf c:=by
 have:=List.sizeOf_lt_of_mem h;cases c;simp only [AA.mk.sizeOf_spec] at *;omega
theorem DP (c:AA):0<SizeOf.sizeOf c:=by
 cases c;simp only [AA.mk.sizeOf_spec];omega
def OT (c:AA):Bool:=decide (c.Map.Nodes.length=0∧c.Map.Edges.length=0∧c.Pattern.Graph.Nodes.length=0∧c.Pattern.Graph.Edges.length=0∧c.Pattern.Slots.length=0∧c.Pattern.Tests.length=0∧c.Pattern.Vars=0)
theorem jF (f:EE c):G3 c=some (OT c):=by
 have d:=f.q;have h:=f.m;have:=d.nodes;have:=d.edges;have:=d.slots;have:=d.tests;have:=h.nodes;have:=h.edges;unfold G3 OT;rw [BI (n:=(c.Map.Nodes.length:Int)+c.Map.Edges.length) (by omega) (by omega),BI (n:=(c.Map.Nodes.length:Int)+c.Map.Edges.length+c.Pattern.Graph.Nodes.length) (by omega) (by omega),
  BI (n:=(c.Map.Nodes.length:Int)+c.Map.Edges.length+c.Pattern.Graph.Nodes.length+c.Pattern.Graph.Edges.length) (by omega) (by omega),
  BI (n:=(c.Map.Nodes.length:Int)+c.Map.Edges.length+c.Pattern.Graph.Nodes.length+c.Pattern.Graph.Edges.length+c.Pattern.Slots.length) (by omega) (by omega),
  BI (n:=(c.Map.Nodes.length:Int)+c.Map.Edges.length+c.Pattern.Graph.Nodes.length+c.Pattern.Graph.Edges.length+c.Pattern.Slots.length+c.Pattern.Tests.length) (by omega) (by omega)]
 congr 1;rw [Bool.eq_iff_iff];simp only [zzZ,zzX];omega
theorem cv (f:EE c):I2 c=some (OT c):=by
 have d:=f.q;have h:=f.m;have:=d.nodes;have:=d.edges;have:=d.slots;have:=d.tests;have:=h.nodes;have:=h.edges;unfold I2 OT;rw [BI (n:=(c.Map.Nodes.length:Int)+c.Map.Edges.length) (by omega) (by omega),BI (n:=(c.Map.Nodes.length:Int)+c.Map.Edges.length+c.Pattern.Graph.Nodes.length) (by omega) (by omega),
  BI (n:=(c.Map.Nodes.length:Int)+c.Map.Edges.length+c.Pattern.Graph.Nodes.length+c.Pattern.Graph.Edges.length) (by omega) (by omega),
  BI (n:=(c.Pattern.Slots.length:Int)+c.Pattern.Tests.length) (by omega) (by omega)]
 congr 1;rw [Bool.eq_iff_iff];simp only [zzZ,zzX];omega
def QV (c:AA):Bool:=
 if c.Kind=1 then decide (c.Kids.length=0)&&OT c else if c.Kind=2 then decide (c.Kids.length=1)&&OT c else
 if c.Kind=3∨c.Kind=4 then decide (1<=c.Kids.length)&&OT c else if c.Kind=5 then decide (c.Kids.length=1) else false
def Pd:Nat->AA->Bool
 | 0,_=>false
 | n+1,c=>QV c&&c.Kids.all (Pd n)
theorem jQ:∀ (N:Nat) (c:AA),SizeOf.sizeOf c<=N->EE c->∀ n,2*N<=n->B8 n c=some (Pd N c)
 | 0,c,h,_,_,_=>by have:=DP c; omega
 | N+1,c,h,y,n,C=>by
  obtain ⟨n,rfl⟩:∃ m,n=m+2:=⟨n - 2,by omega⟩;rw [B8,Pd,jF y];have f:B6 c.Kids (CJ (n+1))=some (!c.Kids.all (Pd N)):=by
   rw [Ot (p:=fun k=>!Pd N k) (fun k f=>by
    have:=D9 f;rw [CJ,jQ N k (by omega) (y.k k f) n (by omega)]; rfl),List.all_eq_not_any_not,Bool.not_not]
  rw [f];unfold QV;simp only [bs,zzX];generalize OT c=b;generalize c.Kids.all (Pd N)=w;have z:decide ((c.Kids.length:Int)=0)=decide (c.Kids.length=0):=by rw [decide_eq_decide]; omega
  have A:decide ((c.Kids.length:Int)=1)=decide (c.Kids.length=1):=by rw [decide_eq_decide]; omega
  have B:decide (1<=(c.Kids.length:Int))=decide (1<=c.Kids.length):=by rw [decide_eq_decide]; omega
  simp only [show ((c.Kids.length:Int)=0)↔c.Kids.length=0 by omega,show ((c.Kids.length:Int)=1)↔c.Kids.length=1 by omega,show (1<=(c.Kids.length:Int))↔1<=c.Kids.length by omega];by_cases j:c.Kind=1
  ·rw [d1 j,d1 j];by_cases d:c.Kids.length=0 <;> cases b <;> cases w <;> simp [d]
  ·rw [d2 j,d2 j];by_cases l:c.Kind=2
   ·rw [d1 l,d1 l];by_cases d:c.Kids.length=1 <;> cases b <;> cases w <;> simp [d]
   ·rw [d2 l,d2 l];by_cases u:c.Kind=3
    ·simp only [u,if_true,true_or];by_cases d:1<=c.Kids.length <;> cases b <;> cases w <;> simp [d]
    ·by_cases x:c.Kind=4
     ·simp only [x,if_true,or_true,show ¬ (4:Int)=3 by decide,if_false];by_cases d:1<=c.Kids.length <;> cases b <;> cases w <;> simp [d]
     ·simp only [u,x,if_false,or_false];by_cases o:c.Kind=5
      ·rw [d1 o,d1 o];by_cases d:c.Kids.length=1 <;> cases w <;> simp [d]
      ·rw [d2 o,d2 o];cases w <;> rfl
theorem jV (u:EE c):MB c=some (QV c):=by
 unfold MB QV;rw [cv u];simp only [bs,zzX];generalize OT c=b;simp only [show ((c.Kids.length:Int)=0)↔c.Kids.length=0 by omega,show ((c.Kids.length:Int)=1)↔c.Kids.length=1 by omega,show (0<(c.Kids.length:Int))↔1<=c.Kids.length by omega];by_cases f:c.Kind=1
 ·rw [d1 f,d1 f];by_cases d:c.Kids.length=0 <;> cases b <;> simp [d]
 ·rw [d2 f,d2 f];by_cases h:c.Kind=2
  ·rw [d1 h,d1 h];by_cases d:c.Kids.length=1 <;> cases b <;> simp [d]
  ·rw [d2 h,d2 h];by_cases l:c.Kind=3
   ·simp only [l,if_true,true_or,decide_true,bs];by_cases d:1<=c.Kids.length <;> cases b <;> simp [d]
   ·by_cases o:c.Kind=4
    ·simp only [o,if_true,or_true,show ¬ (4:Int)=3 by decide,if_false,decide_true,bs];by_cases d:1<=c.Kids.length <;> cases b <;> simp [d]
    ·simp only [l,o,if_false,or_false,decide_false,bs,Bool.false_eq_true];by_cases j:c.Kind=5
     ·rw [d1 j,d1 j]
     ·rw [d2 j,d2 j]
theorem iT {α:Type} [Inhabited α] {l:List α} {p:α->Bool}:l.all p=!anyR (fun i=>!p (AB l i)) 0 l.length:=by
 rw [List.all_eq_not_any_not,Kb]
theorem eK:∀ (N:Nat) (c:AA),SizeOf.sizeOf c<=N->EE c->∀ n,N<=n->GA n c=some (Pd N c)
 | 0,c,h,_,_,_=>by have:=DP c; omega
 | N+1,c,h,o,n,u=>by
  obtain ⟨n,rfl⟩:∃ m,n=m+1:=⟨n - 1,by omega⟩;rw [GA,Pd,jV o,bs,iT,CR (fun i=>!Pd N (AB c.Kids i)) false]
  ·cases QV c
   ·rfl
   ·cases anyR (fun i=>!Pd N (AB c.Kids i)) 0 c.Kids.length <;> rfl
  ·intro i d f _;have j:=AP (l:=c.Kids) d f;have:=D9 j;rw [AI d f,bs,eK N _ (by omega) (o.k _ j) n (by omega),bs,J3]
noncomputable def bh (c:AA):Bool:=Pd (SizeOf.sizeOf c) c
theorem qJ (d:EE c):HT c=some (bh c):=E9 (2*SizeOf.sizeOf c) fun n f=>jQ _ c (d3 _) d n f
theorem qO (d:EE c):Ng c=some (bh c):=E9 (SizeOf.sizeOf c) fun n f=>eK _ c (d3 _) d n f
def KQ:Nat->AA->Int × Int
 | 0,_=>(0,0)
 | n+1,c=>
  let s:=c.Kids.foldl (fun s k=>(A4 (s.1+(KQ n k).1),max s.2 (KQ n k).2)) ((1,0):Int × Int)
  (s.1,if c.Kind=5 then A4 (s.2+1) else s.2)
theorem VD {α σ:Type} [Inhabited α] {l:List α} {g:σ->α->σ} {s:σ} {f:Int->σ->Option σ} (h:∀ (i:Int) s,0<=i->i<l.length->f i s=some (g s (AB l i))):forA f 0 l.length s=some (l.foldl g s):=by
 rw [EF (fun i=>(l.take i.toNat).foldl g s) (by omega) (by simp)]
 ·rw [Int.toNat_natCast,List.take_length]
 ·intro i d j;rw [h i _ d j,Hs d j,List.foldl_append]; rfl
theorem aa:∀ (N:Nat) (c:AA),SizeOf.sizeOf c<=N->∀ n,N<=n->DG n c=some (KQ N c)
 | 0,c,h,_,_=>by have:=DP c; omega
 | N+1,c,h,n,o=>by
  obtain ⟨n,rfl⟩:∃ m,n=m+1:=⟨n - 1,by omega⟩;rw [DG,KQ,VD (g:=fun s k=>(A4 (s.1+(KQ N k).1),max s.2 (KQ N k).2))]
  ·simp only [bs,zzX];by_cases d:c.Kind=5
   ·rw [d1 d,d1 d]; rfl
   ·rw [d2 d,d2 d]; rfl
  ·intro i s f j;have:=D9 (AP (l:=c.Kids) f j);rw [AI f j,bs,aa N _ (by omega) n (by omega)]; rfl
theorem ar:∀ (N:Nat) (c:AA),SizeOf.sizeOf c<=N->∀ n,N<=n->G8 n c=some (KQ N c)
 | 0,c,h,_,_=>by have:=DP c; omega
 | N+1,c,h,n,o=>by
  obtain ⟨n,rfl⟩:∃ m,n=m+1:=⟨n - 1,by omega⟩;rw [G8,KQ,VD (g:=fun s k=>(A4 (s.1+(KQ N k).1),max s.2 (KQ N k).2))]
  ·simp only [bs,zzX];by_cases d:c.Kind=5
   ·rw [d1 d,d1 d]; rfl
   ·rw [d2 d,d2 d]; rfl
  ·intro i s f j;have:=D9 (AP (l:=c.Kids) f j);rw [AI f j,bs,ar N _ (by omega) n (by omega)]; rfl
noncomputable def QZ (c:AA):Int × Int:=KQ (SizeOf.sizeOf c) c
noncomputable def LO (c:AA):Int:=if bh c=false then 1 else if 12<(QZ c).1∨3<(QZ c).2 then 3 else 0
theorem fv (d:EE c):F7 c=some (LO c):=by
 unfold F7 LO;rw [qJ d,bs,show Ic c=some (QZ c) from E9 (SizeOf.sizeOf c) fun n f=>aa _ c (d3 _) n f,bs];exact X9 fun _=>Pr (by simp) fun _=>rfl
theorem gH (d:EE c):L8 c=some (LO c):=by
 unfold L8 LO;rw [qO d,bs,show ON c=some (QZ c) from E9 (SizeOf.sizeOf c) fun n f=>ar _ c (d3 _) n f,bs];exact X9 fun _=>Pr (by simp) fun _=>rfl
theorem Tq (g:Graph):DK g≠9:=by
 unfold DK;split
 ·decide
 ·split
  ·decide
  ·split <;> decide
variable {t:AC} {p:Pattern}
theorem Qk (d:(BE t).2=0) (h:J5 t p=0∨J5 t p=9):0<=p.Vars∧p.Vars<=12:=by
 have f:=Tq p.Graph;unfold J5 at h;rw [d2 (by simp [d])] at h;split at h
 ·omega
 ·split at h
  ·omega
  ·split at h
   ·omega
   ·omega
def MM (t:AC) (q:Pattern) (v:Int):Int:=if J5 t q≠9 then J5 t q else if anyR (fun i=>!LF q i) v q.Vars=true then 9 else 0
variable {P:Prop}
theorem rS {α:Type} [Decidable P] {v:α} {X:Option α} {Y:α} (h:P->X=some Y):(if (!decide P)=true then some v else X)=some (if ¬ P then v else Y):=by
 by_cases d:P
 ·simp [d,h d]
 ·simp [d]
variable {q:Pattern}
theorem qI (f:BY t) (h:(BE t).2=0) {v:Int} (u:0<=v) (j:v<=q.Vars):E3 t q v=some (MM t q v):=by
 unfold E3 MM;rw [Vo f,bs];refine rS fun d=>?_;have hv:=Qk h (.inr d);rw [P7 (c:=fun i=>(if (!LF q i)=true then some () else none).map fun _=>.inr 9) (a:=v) (b:=q.Vars) j]
 ·rw [NY,PM];cases anyR (fun i=>!LF q i) v q.Vars <;> rfl
 ·intro i w o _;rw [d1 (by simpa using o),show (fun l=>I8 l i)=(fun y=>some (decide (y.Term.Var=i))) from rfl,fJ,bs,show (q.Slots.any fun y=>decide (y.Term.Var=i))=LF q i from rfl,d,BI (by omega) (by omega)];cases LF q i <;> rfl
 ·rw [d2 (by simp)]
theorem gG (p:Pattern) (v:Int):M9 p v=some (LF p v):=eP p v
theorem qL (d:BY t) (q:Pattern) (v:Int):MA t v q=some (if q.Vars<v then 20 else MM t q v):=by
 unfold MA MM;refine Pr (by simp) fun _=>?_;rw [ZT d,bs];refine rS fun f=>?_;rw [f,CR (fun i=>!LF q i) 9]
 ·cases anyR (fun i=>!LF q i) v q.Vars <;> rfl
 ·intro i h j _;rw [gG,bs,J3]
def HE:Nat->AC->Pattern->AA->Int
 | 0,_,_,_=>0
 | N+1,t,p,c=>
  if c.Kind=5 then
   if c.Pattern.Vars<p.Vars then 20 else if MM t c.Pattern p.Vars≠0 then MM t c.Pattern p.Vars else
   if MN p.Graph c.Pattern.Graph c.Map≠0 then MN p.Graph c.Pattern.Graph c.Map else if Na c.Map=false then 1 else
   (fst (fun i=>nz (HE N t c.Pattern (AB c.Kids i))) 0 c.Kids.length).getD 0
  else (fst (fun i=>nz (HE N t p (AB c.Kids i))) 0 c.Kids.length).getD 0
theorem cR (d:(BE t).2=0) {v:Int} (h:MM t q v=0):0<=q.Vars:=by
 unfold MM at h;split at h
 ·exact (Qk d (.inl h)).1
 ·rename_i f;exact (Qk d (.inr (Classical.not_not.1 f))).1
theorem ae (w:BY t) (o:(BE t).2=0):∀ (N:Nat) (c:AA) (p:Pattern),0<=p.Vars->SizeOf.sizeOf c<=N->∀ n,N<=n->C2 n t p c=some (HE N t p c)
 | 0,c,p,_,h,_,_=>by have:=DP c; omega
 | N+1,c,p,z,h,n,E=>by
  obtain ⟨n,rfl⟩:∃ m,n=m+1:=⟨n - 1,by omega⟩;rw [C2,HE];have d:∀ q:Pattern,0<=q.Vars->(thenR (forR (ρ:=Int) (fun (A:Int) (_:Unit)=>
    (AM c.Kids A).bind fun u=>
    (C2 n t q u).bind fun f=>
    if (!decide (f=0))=true then
    some (.ret f)
    else
    some (.next ())) 0 (c.Kids.length:Int) ()) (fun _=>
    some 0) (fun B=>some B))=some ((fst (fun i=>nz (HE N t q (AB c.Kids i))) 0 c.Kids.length).getD 0):=by
   intro q D;rw [C5 (fun i=>nz (HE N t q (AB c.Kids i))),Ht];intro i x y _;have:=D9 (AP (l:=c.Kids) x y);rw [AI x y,bs,ae w o N _ q D (by omega) n (by omega),bs,Py]
  by_cases j:c.Kind=5
  ·rw [d1 (by simpa using j),d1 j];refine Pr (by simp) fun hv=>?_;rw [qI w o z (by omega),bs];refine Ib fun hi=>?_;rw [eG,bs];refine Ib fun C=>?_;rw [qH C,bs];exact X9 fun _=>d _ (cR o hi)
  ·rw [d2 (by simpa using j),d2 j];exact d p z
theorem av (u:BY t):∀ (N:Nat) (c:AA) (p:Pattern),SizeOf.sizeOf c<=N->∀ n,N<=n->HL n t p c=some (HE N t p c)
 | 0,c,p,h,_,_=>by have:=DP c; omega
 | N+1,c,p,h,n,B=>by
  obtain ⟨n,rfl⟩:∃ m,n=m+1:=⟨n - 1,by omega⟩;rw [HL,HE];have d:∀ q:Pattern,(thenR (forR (ρ:=Int) (fun (y:Int) (_:Unit)=>
    (AM c.Kids y).bind fun o=>
    (HL n t q o).bind fun f=>
    if (!decide (f=0))=true then
    some (.ret f)
    else
    some (.next ())) 0 (c.Kids.length:Int) ()) (fun _=>
    some 0) (fun z=>some z))=some ((fst (fun i=>nz (HE N t q (AB c.Kids i))) 0 c.Kids.length).getD 0):=by
   intro q;rw [C5 (fun i=>nz (HE N t q (AB c.Kids i))),Ht];intro i w x _;have:=D9 (AP (l:=c.Kids) w x);rw [AI w x,bs,av u N _ q (by omega) n (by omega),bs,Py]
  by_cases j:c.Kind=5
  ·rw [d1 (by simpa using j),d1 j,qL u,bs];by_cases hv:c.Pattern.Vars<p.Vars
   ·simp [hv]
   ·simp only [d2 hv];refine Ib fun hi=>?_;rw [eM,bs];refine Ib fun A=>?_;rw [qK A,bs];exact X9 fun _=>d _
  ·rw [d2 (by simpa using j),d2 j];exact d p
noncomputable def H3 (t:AC) (p:Pattern) (c:AA):Int:=if J5 t p≠0 then J5 t p else if LO c≠0 then LO c else HE (SizeOf.sizeOf c) t p c
theorem jG (d:BY t) (f:(BE t).2=0) (p:Pattern) (j:EE c):EQ t p c=some (H3 t p c):=by
 unfold EQ H3;rw [Vo d,bs];refine Ib fun h=>?_;rw [fv j,bs,Option.bind_fun_some];exact Ib fun _=>E9 (SizeOf.sizeOf c) fun n l=>ae d f _ c p (Qk f (.inl h)).1 (d3 _) n l
theorem Wv (d:BY t) (p:Pattern) (f:EE c):Ku t p c=some (H3 t p c):=by
 unfold Ku H3;rw [ZT d,bs];refine Ib fun h=>?_;rw [gH f,bs,Option.bind_fun_some];exact Ib fun _=>E9 (SizeOf.sizeOf c) fun n j=>av d _ c p (d3 _) n j
end Go.Sf.Sc
namespace Go.Sf.Sc
open Go Go.Sf
def leafB (t:AC) (l:Ne):Bool:=!(l.any fun k=>t.Nodes.any fun n=>decide (n.Parent=k))
end Go.Sf.Sc
namespace Go.Sf
variable {a b:Int}
theorem Sd {ρ:Type} {f:Int->Option (CZ Int ρ)} (p:Int->Bool) (v:ρ) (d:a<=b) (h:∀ i,a<=i->i<b->f i=some (if p i=true then .ret v else .next (i+1))) (j:f b=some (.brk b)):I7 f a=some (if anyR p a b=true then .inr v else .inl b):=by
 rw [P7 (c:=fun i=>(if p i=true then some () else none).map fun _=>.inr v) d]
 ·rw [NY,PM];cases anyR p a b <;> rfl
 ·intro i l o _;rw [h i l o];cases p i <;> rfl
 ·exact j
variable {n:Nat}
theorem Oc {α:Type} {e:α->TV} {l:List α} (h:TV.Sm (.list n (l.map e))):(l.length:Int)<=140737488351232∧∀ x∈l,(e x).Sm:=by
 simp only [TV.Sm,d7] at h;refine ⟨by have:=h.1; unfold reachBytes at this; omega,fun x d=>P2.1 h.2 _ (List.mem_map.2 ⟨x,d,rfl⟩)⟩
end Go.Sf
namespace Go.Sf.Sc
open Go Go.Sf
def V1 (a:Attr):Bool:=(decide (40<(a.Name.size:Int))||decide (25<(a.Names.length:Int)))||anyR (fun i=>decide (40<((AB a.Names i).size:Int))) 0 a.Names.length
theorem b9 {a:Attr} (h:V1 a=false):RG a:=by
 unfold V1 at h;simp only [Bool.or_eq_false_iff,decide_eq_false_iff_not,ET] at h;refine ⟨by omega,by omega,fun x d=>?_⟩;obtain ⟨i,f,j,rfl⟩:=ED d;have:=h.2 i f j;omega
variable {t:AC}
theorem Uw (Z:(AV t).Sm):∃ b,Mb t=some b∧(b=true->BY t):=by
 have L:TV.Sms [_,_]:=Z;obtain ⟨x,Q⟩:=Oc (e:=F9) L.1;unfold Mb;by_cases hl:20<t.Nodes.length∨30<t.Edges.length
 ·rw [d1 (by simp; omega)];exact ⟨false,rfl,fun h=>by cases h⟩
 rw [d2 (by simp; omega)];rcases WQ (f:=(fun (B:Int) (U:Int)=>
 (AM t.Nodes B).bind fun z=>
 (if (decide (30<(A4 (U+(z.Attrs.length:Int)))))=true then some true else ((AM t.Nodes B).bind fun G=>
 some (decide (40<(G.Name.size:Int))))).bind fun H=>
 if H=true then
 some (CZ.ret false)
 else
 thenR (I7 (ρ:=Bool) (fun (s2:Int)=>
 (AM t.Nodes B).bind fun I=>
 if (decide (s2<(I.Attrs.length:Int)))=true then
 (AM t.Nodes B).bind fun J=>
 (AM J.Attrs s2).bind fun w=>
 if ((decide (40<(w.Name.size:Int)))||(decide (25<(w.Names.length:Int))))=true then
 some (.ret false)
 else
 thenR (I7 (ρ:=Bool) (fun (y:Int)=>
 if (decide (y<(w.Names.length:Int)))=true then
 (AM w.Names y).bind fun K=>
 if (decide (40<(K.size:Int)))=true then
 some (.ret false)
 else
 some (.next (A4 (y+1)))
 else
 some (.brk y)) 0) (fun y=>
 some (.next (A4 (s2+1)))) (fun v4=>some (.ret v4))
 else
 some (.brk s2)) 0) (fun s2=>
 some (.next (A4 (U+(z.Attrs.length:Int))))) (fun v2=>some (.ret v2))))
  (fun i s=>0<=s∧s<=30∧∀ j,0<=j->j<i->((AB t.Nodes j).Name.size:Int)<=40∧(AB t.Nodes j).Attrs.length<=30∧∀ a∈(AB t.Nodes j).Attrs,RG a) (fun _=>False) (fun r=>r=false) (a:=0) (b:=t.Nodes.length) (s:=0) (by omega) ⟨by omega,by omega,fun j A u=>by omega⟩ (fun i s C D hI=>by
   have hx:=Q _ (AP (l:=t.Nodes) C D);have M:TV.Sms [_,_,_,_]:=hx;obtain ⟨V,S⟩:=Oc (e:=If) M.2.2.2.1;obtain ⟨hI1,hI2,T⟩:=hI;have hw:A4 (s+(AB t.Nodes i).Attrs.length)=s+(AB t.Nodes i).Attrs.length:=BI (by omega) (by omega);simp only [AI C D,bs,hw,SB];by_cases W:30<s+(AB t.Nodes i).Attrs.length∨40<((AB t.Nodes i).Name.size:Int)
   ·rw [d1 (by simpa using W)];exact .inr (.inr ⟨_,rfl,rfl⟩)
   rw [d2 (by simpa using W)];rw [Sd (fun j=>V1 (AB (AB t.Nodes i).Attrs j)) false (b:=(AB t.Nodes i).Attrs.length) (by omega)]
   ·cases N:anyR (fun j=>V1 (AB (AB t.Nodes i).Attrs j)) 0 (AB t.Nodes i).Attrs.length
    ·refine .inl ⟨_,rfl,by omega,by omega,fun j E F=>?_⟩;by_cases hj:j=i
     ·subst hj;refine ⟨by omega,by omega,fun a V=>?_⟩;obtain ⟨k,o,d,rfl⟩:=ED V;exact b9 (ET.1 N k o d)
     ·exact T j E (by omega)
    ·exact .inr (.inr ⟨_,rfl,rfl⟩)
   ·intro j E F;rw [d1 (by simpa using F),AI E F,bs];have hy:=S _ (AP (l:=(AB t.Nodes i).Attrs) E F);have O:TV.Sms [_,_,_,_]:=hy;obtain ⟨hm,_⟩:=Oc (e:=eS) O.2.2.2.1;unfold V1;cases A:(decide (40<((AB (AB t.Nodes i).Attrs j).Name.size:Int))||decide (25<((AB (AB t.Nodes i).Attrs j).Names.length:Int)))
    ·rw [d2 (by decide),Sd (fun k=>decide (40<((AB (AB (AB t.Nodes i).Attrs j).Names k).size:Int))) false (b:=(AB (AB t.Nodes i).Attrs j).Names.length) (by omega)]
     ·cases anyR (fun k=>decide (40<((AB (AB (AB t.Nodes i).Attrs j).Names k).size:Int))) 0 (AB (AB t.Nodes i).Attrs j).Names.length
      ·rw [Bool.or_false,BI (show -9223372036854775808<=j+1 by omega) (by omega)]; rfl
      ·rfl
     ·intro k o d;rw [d1 (by simpa using d),AI o d,bs,BI (show -9223372036854775808<=k+1 by omega) (by omega),J3]
     ·rw [d2 (by simp)]
    ·rfl
   ·rw [d2 (by simp)]) with ⟨s',A,u⟩ | ⟨r,A,u⟩
 ·rw [A];rcases u with u | u
  ·rw [DX,CR (fun i=>decide (40<((AB t.Edges i).Name.size:Int))) false]
   ·cases N:anyR (fun i=>decide (40<((AB t.Edges i).Name.size:Int))) 0 t.Edges.length
    ·refine ⟨true,rfl,fun _=>⟨by omega,by omega,fun n x=>?_,fun n x=>?_,fun n x=>?_,fun e he=>?_⟩⟩
     ·obtain ⟨k,o,d,rfl⟩:=ED x;exact (u.2.2 k o d).1
     ·obtain ⟨k,o,d,rfl⟩:=ED x;exact (u.2.2 k o d).2.1
     ·obtain ⟨k,o,d,rfl⟩:=ED x;exact (u.2.2 k o d).2.2
     ·obtain ⟨k,o,d,rfl⟩:=ED he;have:=ET.1 N k o d;simpa using this
    ·exact ⟨false,rfl,fun h=>by cases h⟩
   ·intro i C D _;rw [AI C D,bs,J3]
  ·exact u.elim
 ·rw [A];subst u;exact ⟨false,rfl,fun h=>by cases h⟩
theorem UV (p:Pattern):∃ b,Md p=some b∧(b=true->P9 p):=by
 refine ⟨_,rfl,fun h=>?_⟩;simp only [zzZ,zzX] at h;exact ⟨by omega,by omega,by omega,by omega⟩
variable {a b:Int}
theorem fR (h:0<=a) (d:a<=140737488351232) (j:0<=b) (f:b<=140737488351232):A4 (a+b)=a+b:=BI (by omega) (by omega)
variable {m:Morphism}
theorem fQ (f:(CC m).Sm):∃ b,PY m 140=some b∧(b=true->bn m):=by
 have d:TV.Sms [_,_]:=f;have j:=(Oc (e:=eI) d.1).1;have l:=(Oc (e:=eI) d.2.1).1;refine ⟨_,rfl,fun h=>?_⟩;rw [fR (by omega) j (by omega) l] at h;simp only [zzX] at h;exact ⟨by omega,by omega⟩
variable {c:AA}
theorem fL (h:(AE c).Sm):(CC c.Map).Sm∧(c.Kids.length:Int)<=140737488351232∧∀ k∈c.Kids,(AE k).Sm:=by
 have f:TV.Sms [_,_,_,_,_,_,_,_,_]:=h;obtain ⟨_,d,j,l,_⟩:=f;rw [K0] at d;obtain ⟨o,u⟩:=Oc d;exact ⟨⟨j,l,trivial⟩,o,u⟩
end Go.Sf.Sc
