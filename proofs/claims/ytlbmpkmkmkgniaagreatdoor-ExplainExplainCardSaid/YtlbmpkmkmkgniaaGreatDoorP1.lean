/- Plain lemmas: what the functions of the program and of the reference compute. -/
import Derived.Test.YtlbmpkmkmkgniaaGreatDoorSfRead
import Derived.Test.YtlbmpkmkmkgniaaGreatDoorFns
import Derived.Test.YtlbmpkmkmkgniaaGreatDoorSfPl
set_option linter.all false
set_option maxRecDepth 100000
namespace Go.Sf
theorem U1 {ρ τ:Type} {d:Int->Option ρ} {g:ρ->τ}:∀ (n:Nat) (a:Int),FH (fun i=>(d i).map g) n a=(FH d n a).map g
 | 0,_=>rfl
 | n+1,a=>by
  rw [FH,FH];cases d a with
  | some r=>rfl
  | none=>exact U1 n (a+1)
variable {a b:Int}
theorem NX {ρ τ:Type} {d:Int->Option ρ} {g:ρ->τ}:fst (fun i=>(d i).map g) a b=(fst d a b).map g:=U1 _ _
theorem Tl {ρ:Type} {d:Int->Option ρ} {r:ρ}:∀ {n:Nat} {a:Int},FH d n a=some r->∃ i,a<=i∧i<a+n∧d i=some r∧∀ j,a<=j->j<i->d j=none
 | 0,_,h=>by cases h
 | n+1,a,h=>by
  rw [FH] at h;cases f:d a with
  | some A=>
   rw [f] at h;exact ⟨a,Int.le_refl _,by omega,by rw [f]; exact h,fun j l o=>by omega⟩
  | none=>
   rw [f] at h;obtain ⟨i,l,o,x,y⟩:=Tl h;refine ⟨i,by omega,by omega,x,fun j z u=>?_⟩;by_cases w:j=a
   ·subst w; exact f
   ·exact y j (by omega) u
theorem C1 {ρ:Type} {d:Int->Option ρ} {r:ρ} (h:fst d a b=some r):∃ i,a<=i∧i<b∧d i=some r∧∀ j,a<=j->j<i->d j=none:=by
 obtain ⟨i,f,u,l,o⟩:=Tl h;exact ⟨i,f,by omega,l,o⟩
def Ln (p:Int->Bool) (s:ByteArray):Int:=(fst (fun i=>if p (bt s i) then none else some i) 0 s.size).getD s.size
theorem SH (p:Int->Bool) (s:ByteArray):0<=Ln p s∧Ln p s<=s.size∧(∀ j,0<=j->j<Ln p s->p (bt s j)=true)∧(Ln p s<s.size->p (bt s (Ln p s))=false):=by
 unfold Ln;cases h:fst (fun i=>if p (bt s i) then none else some i) 0 s.size with
 | none=>
  rw [DA] at h;simp only [Option.getD];refine ⟨by omega,by omega,fun j f l=>?_,fun f=>by omega⟩;have:=h j f l;cases d:p (bt s j)
  ·simp [d] at this
  ·rfl
 | some r=>
  obtain ⟨i,f,l,o,x⟩:=C1 h;have hi:p (bt s i)=false∧i=r:=by
   cases d:p (bt s i) <;> simp [d] at o;exact ⟨rfl,o⟩
  obtain ⟨hi,rfl⟩:=hi;simp only [Option.getD];refine ⟨f,by omega,fun j u w=>?_,fun _=>hi⟩;have:=x j u w;cases d:p (bt s j)
  ·simp [d] at this
  ·rfl
variable {s:ByteArray}
theorem XG (h:s≠⟨#[]⟩):0<s.size:=by
 rcases Nat.eq_zero_or_pos s.size with f | f
 ·exfalso; apply h;cases s with | mk d=>congr 1; exact Array.eq_empty_of_size_eq_zero f
 ·exact f
end Go.Sf
namespace Go.Sf.Sc
open Go Go.Sf
def Hv (c:Int):Bool:=((decide (97<=c))&&(decide (c<=122)))||((decide (65<=c))&&(decide (c<=90)))
def digitB (c:Int):Bool:=(decide (48<=c))&&(decide (c<=57))
def PW (c:Int):Bool:=Hv c||digitB c||decide (c=95)
theorem Wp (c:Int):LP c=some (Hv c):=rfl
theorem Ua (c:Int):Ku c=some (digitB c):=rfl
theorem Wx (c:Int):LG c=some (Hv c):=rfl
theorem YZ (c:Int):Jf c=some (digitB c):=rfl
theorem jM (c:Int):NE c=some (PW c):=by
 unfold NE PW;rw [Wp,bs,Ua];cases Hv c <;> cases digitB c <;> rfl
variable {s:ByteArray}
theorem ZO (j:(s.size:Int)<=4611686018427387904) {ok:Int->Ne} {p:Int->Bool} (h:∀ c,ok c=some (p c)):Io s ok=some (Ln p s):=by
 unfold Io;rw [P6 (c:=fun i=>(if p (bt s i) then none else some i).map .inl) (a:=0) (b:=s.size) (by omega)]
 ·rw [NX];unfold Ln;cases fst (fun i=>if p (bt s i)=true then none else some i) 0 s.size <;> rfl
 ·intro i f d _;simp only [d,decide_true,if_true,Og f d,bs,h];cases p (bt s i)
  ·simp [cnt]
  ·simp [cnt,BI (show -9223372036854775808<=i+1 by omega) (by omega)]
 ·simp
def HV (s:ByteArray):Bool:=decide (0<s.size)&&Hv (bt s 0)&&decide (s.size<=20)&&decide (Ln PW s=s.size)
theorem UZ (l:List ByteArray) (v:ByteArray):∃ k,slices_Index_string l v=some k∧(0<=k↔v∈l):=by
 unfold slices_Index_string;rw [C5 (fun i=>if (v==AB l i)=true then some i else none)]
 ·cases h:fst (fun i=>if (v==AB l i)=true then some i else none) 0 l.length with
  | none=>
   rw [DA] at h;refine ⟨-1,rfl,by omega,fun u=>?_⟩;obtain ⟨i,d,j,f⟩:=ED u;have:=h i d j;rw [f,ca (beq_self_eq_true v)] at this;cases this
  | some k=>
   obtain ⟨i,d,j,f,_⟩:=C1 h;have o:(v==AB l i)=true∧i=k:=by
    by_cases hv:(v==AB l i)=true
    ·rw [ca hv] at f; exact ⟨hv,by simpa using f⟩
    ·rw [ci hv] at f; cases f
   obtain ⟨o,rfl⟩:=o;refine ⟨i,rfl,fun _=>?_,fun _=>d⟩;rw [eq_of_beq o]; exact AP d j
 ·intro i d j _;simp only [AI d j,bs];split <;> rfl
theorem OO (l:List ByteArray) (v:ByteArray):slices_Contains_string l v=some (l.contains v):=by
 unfold slices_Contains_string;obtain ⟨k,d,f⟩:=UZ l v;rw [d,bs];congr 1;rw [Bool.eq_iff_iff,zzX,f,List.contains_iff_mem]
theorem jK (B:0<s.size) (w:(s.size:Int)<=4611686018427387904):∃ k n e,JX s=some (k,n,e)∧(((decide (e=0))&&(decide (k=1)))&&(decide (n=(s.size:Int))))=HV s:=by
 have H:=SH PW s;unfold JX HV;simp only [Og (Int.le_refl 0) (show (0:Int)<s.size by omega),bs,Wp,Ua,ZO w jM,ZO w Ua,B,decide_true,Bool.true_and];by_cases d:Hv (bt s 0)=true
 ·rw [ca d];by_cases f:20<Ln PW s
  ·refine ⟨0,0,3,by simp [f],?_⟩;simp [d];intro G h;omega
  ·refine ⟨1,_,0,by rw [ci (by simpa using f)],?_⟩;simp only [d,decide_true,Bool.true_and];rw [Bool.eq_iff_iff];simp only [zzX,zzZ];omega
 ·rw [ci d];have j:Hv (bt s 0)=false:=by simpa using d
  rw [j,Bool.false_and,Bool.false_and];by_cases x:digitB (bt s 0)=true
  ·rw [ca x];by_cases y:9<Ln digitB s
   ·exact ⟨0,0,3,by simp [y],by simp⟩
   ·exact ⟨2,_,0,by rw [ci (by simpa using y)],by simp⟩
  ·rw [ci x];by_cases z:bt s 0=34
   ·have C:=Vf (s:=s) (a:=1) (b:=s.size) (by omega) (by omega) (by omega);have l:∀ c,Ld c=some (((decide (32<=c))&&(decide (c<=126)))&&(!decide (c=34))):=fun _=>rfl;have D:=SH (fun c=>((decide (32<=c))&&(decide (c<=126)))&&(!decide (c=34))) (s.extract (1:Int).toNat (s.size:Int).toNat);have o:∃ n e,IM s=some (n,e):=by
     unfold IM;rw [Me (by omega) (by omega) (by omega),bs,ZO (by omega) l,bs];rw [BI (by omega) (by omega)];by_cases A:1+Ln (fun c=>((decide (32<=c))&&(decide (c<=126)))&&(!decide (c=34))) (s.extract (1:Int).toNat (s.size:Int).toNat)=s.size
     ·refine ⟨0,2,?_⟩;simp only [A,decide_true,if_true,bs]
     ·simp only [A,decide_false,Bool.false_eq_true,if_false];rw [Og (by omega) (by omega)];simp only [bs];split
      ·exact ⟨_,_,rfl⟩
      ·split
       ·exact ⟨_,_,rfl⟩
       ·exact ⟨_,_,rfl⟩
    obtain ⟨n,e,u⟩:=o;refine ⟨3,n,e,by rw [ca (by simpa using z),u]; rfl,by simp⟩
   ·rw [ci (by simpa using z)];have E:∃ b,ND s=some b:=by
     unfold ND;by_cases h:2<=(s.size:Int)
     ·rw [ca (by simpa using h),Me (by omega) (by omega) h];simp only [bs,OO];exact ⟨_,rfl⟩
     ·rw [ci (by simpa using h)];exact ⟨_,rfl⟩
    obtain ⟨b,F⟩:=E;rw [F,bs];cases b
    ·simp only [Bool.false_eq_true,if_false,strings_IndexByte,bs];split
     ·exact ⟨_,_,_,rfl,rfl⟩
     ·exact ⟨_,_,_,rfl,rfl⟩
    ·exact ⟨_,_,_,rfl,rfl⟩
theorem Qh (f:(s.size:Int)<=4611686018427387904):FN s=some (HV s):=by
 unfold FN Jk;simp only [show decide ((1:Int)=3)=false from rfl,Bool.false_eq_true,if_false,bs];by_cases d:s=⟨#[]⟩
 ·subst d; rfl
 ·rw [ci (by simpa using d)];obtain ⟨k,n,e,h,j⟩:=jK (XG d) f;rw [h];simp only [bs];rw [j]
theorem jW (u:(s.size:Int)<=4611686018427387904) (d:Bool):∃ n,N4 s 0 d=some n∧0<=n∧n<=s.size∧(d=false->n=Ln PW s):=by
 have j:=SH (fun c=>digitB c||(!d&&(Hv c||decide (c=95)))) s;refine ⟨Ln (fun c=>digitB c||(!d&&(Hv c||decide (c=95)))) s,?_,j.1,j.2.1,fun l=>?_⟩
 ·unfold N4;rw [P6 (c:=fun i=>(if (digitB (bt s i)||(!d&&(Hv (bt s i)||decide (bt s i=95)))) then none else some i).map .inl) (a:=0) (b:=s.size) (by omega)]
  ·rw [NX];unfold Ln;cases fst (fun i=>if (digitB (bt s i)||(!d&&(Hv (bt s i)||decide (bt s i=95))))=true then none else some i) 0 s.size <;> rfl
  ·intro i o h _;have f:A4 (0+i)=i:=by rw [BI (by omega) (by omega)]; omega
   simp only [f,h,decide_true,if_true,Og o h,bs,YZ,Wx];cases digitB (bt s i) <;> cases d <;> cases Hv (bt s i) <;> cases (decide (bt s i=95)) <;> simp [cnt,BI (show -9223372036854775808<=i+1 by omega) (by omega)]
  ·have f:A4 (0+(s.size:Int))=s.size:=by rw [BI (by omega) (by omega)]; omega
   simp only [f,Int.lt_irrefl,decide_false,Bool.false_eq_true,if_false,bs]
 ·subst l;congr 1;funext c;unfold PW;cases Hv c <;> cases digitB c <;> cases decide (c=95) <;> rfl
theorem cr (o:0<s.size) (u:(s.size:Int)<=4611686018427387904):∃ n,LH s 0=some n∧(n=0∨(2<=n∧n<=s.size)):=by
 unfold LH;rw [P6 (c:=fun i=>if decide (bt s i=34)=true then some (Sum.inr (i+1):Int ⊕ Int) else if (decide (bt s i<32)||decide (126<bt s i))=true then some (Sum.inr 0) else none) (a:=1) (b:=s.size) (by omega)]
 ·cases h:fst (fun i=>if decide (bt s i=34)=true then some (Sum.inr (i+1):Int ⊕ Int) else if (decide (bt s i<32)||decide (126<bt s i))=true then some (Sum.inr 0) else none) 1 s.size with
  | none=>exact ⟨0,rfl,.inl rfl⟩
  | some r=>
   obtain ⟨i,l,f,d,_⟩:=C1 h;split at d
   ·cases d; exact ⟨_,rfl,.inr (by omega)⟩
   ·split at d
    ·cases d; exact ⟨_,rfl,.inl rfl⟩
    ·cases d
 ·intro i l f _;have j:A4 (0+i)=i:=by rw [BI (by omega) (by omega)]; omega
  simp only [j,f,decide_true,if_true,Og (show 0<=i by omega) f,bs,BI (show -9223372036854775808<=i+1 by omega) (by omega)];split
  ·rfl
  ·split <;> rfl
 ·have j:A4 (0+(s.size:Int))=s.size:=by rw [BI (by omega) (by omega)]; omega
  simp only [j,Int.lt_irrefl,decide_false,Bool.false_eq_true,if_false]
theorem qL (Q:0<s.size) (S:(s.size:Int)<=4611686018427387904):∃ t n e,N3 s 0=some (t,n,e)∧(((decide (e=0))&&(decide (n=(s.size:Int))))&&(decide (t.Kind=1)))=HV s:=by
 obtain ⟨m,N,w,y,O⟩:=jW S (digitB (bt s 0));unfold N3 HV;simp only [Og (Int.le_refl 0) (show (0:Int)<s.size by omega),bs,Wx,YZ,Q,decide_true,Bool.true_and,N];have T:A4 (0+m)=m:=by rw [BI (by omega) (by omega)]; omega
 by_cases B:Hv (bt s 0)=true
 ·have o:digitB (bt s 0)=false:=by
   unfold Hv at B; unfold digitB;simp only [Bool.or_eq_true,zzZ,zzX] at B;rw [Bool.and_eq_false_iff];simp only [decide_eq_false_iff_not];omega
  have Z:=O o;subst Z;simp only [B,if_true,o,Bool.false_eq_true,if_false,bs,T];by_cases u:20<Ln PW s
  ·refine ⟨_,_,_,by rw [ca (by simpa using u)],?_⟩;rw [Bool.eq_iff_iff];simp only [zzX,zzZ];omega
  ·rw [ci (by simpa using u),Me (Int.le_refl _) w y];refine ⟨_,_,_,rfl,?_⟩;rw [Bool.eq_iff_iff];simp only [zzX,zzZ,true_and,and_true];omega
 ·have H:Hv (bt s 0)=false:=by simpa using B
  simp only [H,Bool.false_eq_true,if_false,bs,Bool.false_and,T];by_cases o:digitB (bt s 0)=true
  ·simp only [o,if_true,bs];by_cases U:9<m
   ·exact ⟨_,_,_,by rw [ca (by simpa using U)],by simp⟩
   ·rw [ci (by simpa using U),Me (Int.le_refl _) w y];exact ⟨_,_,_,rfl,by simp⟩
  ·have I:digitB (bt s 0)=false:=by simpa using o
   simp only [I,Bool.false_eq_true,if_false,bs];by_cases V:bt s 0=34
   ·obtain ⟨n,hn,z⟩:=cr Q S;rw [ca (by simpa using V),hn,bs];rcases z with rfl | z
    ·exact ⟨_,_,_,rfl,by simp⟩
    ·rw [ci (by simp; omega)];split
     ·exact ⟨_,_,_,rfl,by simp⟩
     ·have e1:A4 (0+1)=1:=by decide
      have e2:A4 (0+n)=n:=by rw [BI (by omega) (by omega)]; omega
      rw [e1,e2,BI (show -9223372036854775808<=n - 1 by omega) (by omega),Me (by omega) (by omega) (by omega)];exact ⟨_,_,_,rfl,by simp⟩
   ·rw [ci (by simpa using V)];unfold Nr;rw [bs];generalize hL:([(⟨#[45,62]⟩:ByteArray),(⟨#[60,61]⟩:ByteArray),(⟨#[62,61]⟩:ByteArray),(⟨#[61,61]⟩:ByteArray),(⟨#[33,61]⟩:ByteArray),(⟨#[123]⟩:ByteArray),(⟨#[125]⟩:ByteArray),(⟨#[40]⟩:ByteArray),(⟨#[41]⟩:ByteArray),(⟨#[91]⟩:ByteArray),(⟨#[93]⟩:ByteArray),(⟨#[44]⟩:ByteArray),(⟨#[59]⟩:ByteArray),(⟨#[58]⟩:ByteArray),(⟨#[61]⟩:ByteArray),(⟨#[43]⟩:ByteArray),(⟨#[45]⟩:ByteArray),(⟨#[42]⟩:ByteArray),(⟨#[60]⟩:ByteArray),(⟨#[62]⟩:ByteArray),(⟨#[33]⟩:ByteArray),(⟨#[38]⟩:ByteArray),(⟨#[124]⟩:ByteArray),(⟨#[46]⟩:ByteArray),(⟨#[63]⟩:ByteArray)]:List ByteArray)=L;have J:∀ x∈L,x.size<=2:=by subst hL; decide
    rcases WN (f:=(fun (h:Int) (W:GN)=>
      (AM L h).bind fun C=>
      (if (decide ((A4 (0+(C.size:Int)))<=(s.size:Int)))=true then ((AM L h).bind fun D=>
      (sslc s 0 (A4 (0+(D.size:Int)))).bind fun E=>
      (AM L h).bind fun F=>
      some (E==F)) else some false).bind fun G=>
      if G=true then
      (AM L h).bind fun j=>
      (AM L h).bind fun l=>
      some (CZ.ret (GN.mk 4 j 0,(l.size:Int),(0:Int)))
      else
      some (CZ.next W))) (fun _ s=>True) (fun _=>True) (fun r=>r.1.Kind=4) (a:=0) (b:=L.length) (s:=GN.mk 0 (⟨#[]⟩:ByteArray) 0) (by omega) trivial (fun i t d A _=>by
      have hx:=J _ (AP d A);have K:A4 (0+((AB L i).size:Int))=(AB L i).size:=by rw [BI (by omega) (by omega)]; omega
      simp only [AI d A,bs,K];by_cases M:((AB L i).size:Int)<=s.size
      ·rw [ca (by simpa using M),Me (by omega) (by omega) M];simp only [bs];split
       ·exact .inr (.inr ⟨_,rfl,rfl⟩)
       ·exact .inl ⟨_,rfl,trivial⟩
      ·rw [ci (by simpa using M)];simp only [bs];exact .inl ⟨_,rfl,trivial⟩) with ⟨s',d,_⟩ | ⟨r,d,A⟩
    ·rw [d]; exact ⟨_,_,_,rfl,by simp⟩
    ·rw [d]; exact ⟨_,_,_,rfl,by simp [A]⟩
theorem Qk (f:(s.size:Int)<=4611686018427387904):IH s=some (HV s):=by
 unfold IH Nq OX;simp only [show decide ((1:Int)=3)=false from rfl,Bool.false_eq_true,if_false,bs];by_cases d:s=⟨#[]⟩
 ·subst d; rfl
 ·rw [ci (by simpa using d)];obtain ⟨t,n,e,h,j⟩:=qL (XG d) f;rw [h];simp only [bs];rw [j]
end Go.Sf.Sc
namespace Go.Sf
variable {ρ β:Type}
def nz (e:Int):Pi:=if e=0 then none else some e
theorem Px (e:Int):(if (!decide (e=0))=true then some (CZ.ret e) else some (CZ.next ()))=some (Pf (nz e)):=by
 unfold nz;by_cases h:e=0 <;> simp [h,Pf]
theorem iT (b:Bool) (r:ρ):(if b=true then some (CZ.ret r) else some (CZ.next ()))=some (Pf (if b=true then some r else none)):=by
 cases b <;> rfl
variable {kr:ρ->Option β}
theorem DX {σ:Type} {s:σ} {k:σ->Option β}:thenR (some (.inl s)) k kr=k s:=rfl
variable {r:ρ}
theorem VX {σ:Type} {k:σ->Option β}:thenR (some (.inr r)) k kr=kr r:=rfl
theorem GB (o:Option ρ) (k:Unit->Option β) (kr:ρ->Option β):thenR (some (dx o)) k kr=match o with | none=>k () | some r=>kr r:=by
 cases o <;> rfl
theorem Ht (o:Pi):thenR (some (dx o)) (fun _=>some 0) (fun v=>some v)=some (o.getD 0):=by
 cases o <;> rfl
variable {a b:Int}
theorem Tm {c:Int->Int} (h:(fst (fun i=>nz (c i)) a b).getD 0=0):∀ i,a<=i->i<b->c i=0:=by
 have:fst (fun i=>nz (c i)) a b=none:=by
  cases f:fst (fun i=>nz (c i)) a b with
  | none=>rfl
  | some r=>
   rw [f] at h;simp only [Option.getD] at h;subst h;obtain ⟨i,_,_,d,_⟩:=C1 f;unfold nz at d;split at d
   ·cases d
   ·rename_i j; simp at d; exact (j d).elim
 rw [DA] at this;intro i l o;have:=this i l o;unfold nz at this;split at this
 ·assumption
 ·cases this
variable {e:Int}
theorem Oc:nz e=none↔e=0:=by
 unfold nz;by_cases h:e=0 <;> simp [h]
theorem WT {α:Type} [Inhabited α] {l:List α} {f:α->Ne} {p:α->Bool} (h:∀ x∈l,f x=some (p x)) :
  (thenR (forR (ρ:=Int) (fun (o:Int) (_:Unit)=>(AM l o).bind fun d=>(f d).bind fun j=>if j=true then some (.ret o) else some (.next ())) 0 (l.length:Int) ()) (fun _=>some (-1)) (fun y=>some y)) =
   some ((fst (fun i=>if p (AB l i)=true then some i else none) 0 l.length).getD (-1)):=by
 rw [C5 (fun i=>if p (AB l i)=true then some i else none)]
 ·rw [GB]; cases fst (fun i=>if p (AB l i)=true then some i else none) 0 l.length <;> rfl
 ·intro i u w _;rw [AI u w,bs,h _ (AP u w),bs,iT]
theorem U9 {α:Type} [Inhabited α] {l:List α} {p:α->Bool}:decide (0<=(fst (fun i=>if p (AB l i)=true then some i else none) 0 l.length).getD (-1))=l.any p:=by
 rw [Ka,anyR];cases h:fst (fun i=>if p (AB l i)=true then some i else none) 0 l.length with
 | none=>
  rw [DA] at h;symm;show Option.isSome _=false;rw [Option.isSome_eq_false_iff,Option.isNone_iff_eq_none,DA];intro i f j;have:=h i f j;by_cases o:p (AB l i)=true
  ·rw [ca o] at this; cases this
  ·rw [ci o]
 | some k=>
  obtain ⟨i,f,j,d,_⟩:=C1 h;have w:p (AB l i)=true∧i=k:=by
   by_cases hv:p (AB l i)=true
   ·rw [ca hv] at d; exact ⟨hv,by simpa using d⟩
   ·rw [ci hv] at d; cases d
  simp only [Option.getD];rw [decide_eq_true (show (0:Int)<=k by omega)];symm;show Option.isSome _=true;rw [Option.isSome_iff_ne_none,ne_eq,DA];intro u;have:=u i f j;rw [ca w.1] at this;cases this
theorem GH {α:Type} [Inhabited α] {l:List α} {f:α->Ne} {p:α->Bool} (h:∀ x∈l,f x=some (p x)) :
  ((thenR (forR (ρ:=Int) (fun (o:Int) (_:Unit)=>(AM l o).bind fun d=>(f d).bind fun j=>if j=true then some (.ret o) else some (.next ())) 0 (l.length:Int) ()) (fun _=>some (-1)) (fun u=>some u)).bind fun w=>some (decide (0<=w)))=some (l.any p):=by
 rw [WT h,bs,U9]
end Go.Sf
namespace Go.Sf.Sc
open Go Go.Sf
instance:Inhabited Attr:=⟨⟨⟨#[]⟩,0,0,[]⟩⟩
instance:Inhabited CX:=⟨⟨⟨#[]⟩,0,false,[]⟩⟩
instance:Inhabited DF:=⟨⟨⟨#[]⟩,0,0,0,0,0,0⟩⟩
instance:Inhabited DY:=⟨⟨0,0,0⟩⟩
instance:Inhabited EI:=⟨⟨0,0,⟨0,0⟩⟩⟩
instance:Inhabited Test:=⟨⟨0,⟨0,0⟩,⟨0,0⟩⟩⟩
instance:Inhabited AA:=⟨⟨0,[],⟨[],[]⟩,⟨⟨[],[]⟩,[],0,[]⟩⟩⟩
theorem V3 {l:IO} {f:Int->Ne} {p:Int->Bool} (h:∀ x∈l,f x=some (p x)):B5 l f=some (l.any p):=GH h
theorem X7 {l:List DY} {f:DY->Ne} {p:DY->Bool} (h:∀ x∈l,f x=some (p x)):CL l f=some (l.any p):=GH h
theorem Oq {l:List AA} {f:AA->Ne} {p:AA->Bool} (h:∀ x∈l,f x=some (p x)):B6 l f=some (l.any p):=GH h
theorem Xf {l:List CX} {p:CX->Bool}:DC l (fun x=>some (p x))=some (l.any p):=GH (fun _ _=>rfl)
theorem Xe {l:List DF} {p:DF->Bool}:DB l (fun x=>some (p x))=some (l.any p):=GH (fun _ _=>rfl)
theorem fG {l:List Attr} {p:Attr->Bool}:D3 l (fun x=>some (p x))=some (l.any p):=GH (fun _ _=>rfl)
theorem aB {l:IO} {p:Int->Bool}:B5 l (fun x=>some (p x))=some (l.any p):=GH (fun _ _=>rfl)
theorem fH {l:List DY} {p:DY->Bool}:CL l (fun x=>some (p x))=some (l.any p):=GH (fun _ _=>rfl)
theorem fI {l:List EI} {p:EI->Bool}:D4 l (fun x=>some (p x))=some (l.any p):=GH (fun _ _=>rfl)
theorem im (l:IO) (v:Int):slices_Index_int l v=some ((fst (fun i=>if decide (v=AB l i)=true then some i else none) 0 l.length).getD (-1)):=by
 have:=WT (l:=l) (f:=fun x=>some (decide (v=x))) (p:=fun x=>decide (v=x)) (fun _ _=>rfl);unfold slices_Index_int;simpa only [bs] using this
theorem TY (l:IO) (v:Int):slices_Contains_int l v=some (l.any fun x=>decide (v=x)):=by
 unfold slices_Contains_int;rw [im,bs,U9 (p:=fun x=>decide (v=x))]
theorem fL (l:QQ) (v:Bool):Hr l v=some (l.any fun x=>v==x):=by
 have:=GH (l:=l) (f:=fun x=>some (v==x)) (p:=fun x=>v==x) (fun _ _=>rfl);unfold Hr Jp;simpa only [bs] using this
structure RF (a:Attr):Prop where
 name:(a.Name.size:Int)<=40
 names:a.Names.length<=25
 each:∀ x∈a.Names,(x.size:Int)<=40
structure BY (t:AC):Prop where
 nodes:t.Nodes.length<=20
 edges:t.Edges.length<=30
 name:∀ n∈t.Nodes,(n.Name.size:Int)<=40
 attrs:∀ n∈t.Nodes,n.Attrs.length<=30
 each:∀ n∈t.Nodes,∀ a∈n.Attrs,RF a
 ename:∀ e∈t.Edges,(e.Name.size:Int)<=40
def par (t:AC) (i:Int):Int:=(AB t.Nodes i).Parent
def HD (t:AC) (k:Int):Prop:=∀ i,0<=i->i<k->-1<=par t i∧par t i<i
def C4 (t:AC):Nat->Int->List Attr
 | 0,_=>[]
 | n+1,a=>if a<0 then [] else C4 t n (par t a)++(AB t.Nodes a).Attrs
def BW (t:AC) (a:Int):List Attr:=C4 t (a+1).toNat a
variable {t:AC} {n:Nat} {a:Int}
theorem JI (h:a<0):C4 t n a=[]:=by
 cases n with
 | zero=>rfl
 | succ n=>rw [C4,ca h]
variable {k:Int}
theorem MV (f:HD t k):∀ (n m:Nat) (a:Int),a<k->a<n->a<m->C4 t n a=C4 t m a
 | n,m,a,h,j,l=>by
  by_cases d:a<0
  ·rw [JI d,JI d]
  ·cases n with
   | zero=>omega
   | succ n=>
    cases m with
    | zero=>omega
    | succ m=>
     rw [C4,C4,ci d,ci d];have:=f a (by omega) h;rw [MV f n m (par t a) (by omega) (by omega) (by omega)]
theorem Mj (d:BY t) (h:k<=t.Nodes.length) (f:HD t k):∀ (n:Nat) (a:Int),a<k->((C4 t n a).length:Int)<=30*n
 | 0,_,_=>by simp [C4]
 | n+1,a,j=>by
  rw [C4];split
  ·simp; omega
  ·rename_i o;have u:=f a (by omega) j;have w:=Mj d h f n (par t a) (by omega);have x:=d.attrs _ (AP (l:=t.Nodes) (show 0<=a by omega) (by omega));rw [d0];omega
theorem TQ (f:BY t) (j:k<=t.Nodes.length) (h:HD t k):∀ (n:Nat) (a:Int),a<k->∀ x∈C4 t n a,RF x
 | 0,_,_=>by simp [C4]
 | n+1,a,o=>by
  rw [C4];split
  ·simp
  ·rename_i u;have w:=h a (by omega) o;intro x d;rcases List.mem_append.1 d with d | d
   ·exact TQ f j h n (par t a) (by omega) x d
   ·exact f.each _ (AP (l:=t.Nodes) (show 0<=a by omega) (by omega)) x d
theorem Mm (d:BY t) (f:k<=t.Nodes.length) (h:HD t k) (j:a<k):(BW t a).length<=600:=by
 have:=Mj d f h (a+1).toNat a j;have:=d.nodes;unfold BW;omega
theorem Mk (d:BY t) (f:k<=t.Nodes.length) (h:HD t k) (j:a<k):∀ x∈BW t a,RF x:=TQ d f h _ a j
theorem Wl (h:BY t) (o:k<=t.Nodes.length) (j:HD t k):∀ (n:Nat) (a:Int),0<=a->a<k->a<n->EO n t a=some (C4 t n a)
 | 0,_,_,_,_=>by omega
 | n+1,a,w,B,F=>by
  have C:=j a (by omega) B;have x:=Mj h o j n (par t a) (by omega);have D:=h.attrs _ (AP (l:=t.Nodes) w (by omega));have E:=h.nodes;rw [EO,C4,ci (by omega),AI w (by omega)];simp only [bs];show ((if decide (0<=par t a)=true then (EO n t (par t a)).bind fun f=>some f else some []).bind _)=_;have e:(if decide (0<=par t a)=true then (EO n t (par t a)).bind fun f=>some f else some [])=some (C4 t n (par t a)):=by
   by_cases u:0<=par t a
   ·rw [ca (by simpa using u),Wl h o j n (par t a) u (by omega) (by omega)]; rfl
   ·rw [ci (by simpa using u),JI (by omega)]
  have y:(C4 t n (par t a)).length+(AB t.Nodes a).Attrs.length<=BM:=by
   unfold BM;have:((C4 t n (par t a)).length:Int)<=30*n:=x;have z:C4 t n (par t a)=C4 t 20 (par t a):=by
    by_cases d:par t a<0
    ·rw [JI d,JI d]
    ·exact MV j n 20 (par t a) (by omega) (by omega) (by omega)
   have A:=Mj h o j 20 (par t a) (by omega);rw [←z] at A;omega
  rw [e,bs,B7 y];rfl
theorem YR (h:BY t) (j:k<=t.Nodes.length) (d:HD t k) (l:0<=a) (f:a<k):Kv t a=some (BW t a):=
 E9 (a+1).toNat fun n o=>by
  rw [Wl h j d n a l f (by omega),BW,MV d n (a+1).toNat a f (by omega) (by omega)]
theorem Ws (f:BY t) (j:k<=t.Nodes.length) (h:HD t k):∀ (n:Nat) (a:Int),-1<=a->a<k->a+1<n->IJ n t a=some (C4 t n a)
 | 0,_,_,_,_=>by omega
 | n+1,a,B,x,C=>by
  rw [IJ,C4];by_cases d:a<0
  ·rw [ca (by simpa using d),ca d]
  ·have y:=h a (by omega) x;have z:=f.attrs _ (AP (l:=t.Nodes) (show 0<=a by omega) (by omega));have A:=f.nodes;rw [ci (by simpa using d),ci d,AI (by omega) (by omega)];simp only [bs];have o:C4 t n (par t a)=C4 t 20 (par t a):=by
    by_cases d:par t a<0
    ·rw [JI d,JI d]
    ·exact MV h n 20 (par t a) (by omega) (by omega) (by omega)
   have u:=Mj f j h 20 (par t a) (by omega);rw [←o] at u;have w:(C4 t n (par t a)).length+(AB t.Nodes a).Attrs.length<=BM:=by unfold BM; omega
   rw [show (AB t.Nodes a).Parent=par t a from rfl,Ws f j h n (par t a) (by omega) (by omega) (by omega),bs,B7 (by simp; unfold BM; omega)];simp only [bs,List.nil_append];rw [B7 w]; rfl
theorem YX (h:BY t) (j:k<=t.Nodes.length) (d:HD t k) (l:0<=a) (f:a<k):Ns t a=some (BW t a):=
 E9 (a+2).toNat fun n o=>by
  rw [Ws h j d n a (by omega) f (by omega),BW,MV d n (a+1).toNat a f (by omega) (by omega)]
end Go.Sf.Sc
namespace Go.Sf.Sc
open Go Go.Sf
def J3 (l:List ByteArray):Int:=
 if (20:Int)<l.length then 3 else (fst (fun i=>if HV (AB l i)=false then some 2 else if anyR (fun j=>AB l j==AB l i) 0 i=true then some 5 else none) 0 l.length).getD 0
variable {b:Int}
theorem V6 {l:List ByteArray} {x:ByteArray} (d:0<=b) (f:b<=l.length):(l.take b.toNat).contains x=anyR (fun j=>AB l j==x) 0 b:=by
 rw [List.contains_eq_any_beq,QA d f];exact TP (fun i _ _=>by rw [Bool.beq_comm])
theorem ft {l:List ByteArray} (o:∀ x∈l,(x.size:Int)<=40):Iq l=some (J3 l):=by
 unfold Iq J3;by_cases d:(20:Int)<l.length
 ·rw [ca (by simpa using d),ca d]
 ·rw [ci (by simpa using d),ci d];rw [C5 (fun i=>if HV (AB l i)=false then some 2 else if anyR (fun j=>AB l j==AB l i) 0 i=true then some 5 else none),Ht];intro i f h _;have u:=o _ (AP f h);rw [AI f h,bs,Qh (by omega),bs,MR f (by omega)];simp only [bs,OO,V6 f (show i<=l.length by omega)];cases HV (AB l i) <;> cases anyR (fun j=>AB l j==AB l i) 0 i <;> rfl
theorem gE {l:List ByteArray} (o:∀ x∈l,(x.size:Int)<=40):Lz l=some (J3 l):=by
 unfold Lz J3;by_cases d:(20:Int)<l.length
 ·rw [ca (by simpa using d),ca d]
 ·rw [ci (by simpa using d),ci d];rw [C5 (fun i=>if HV (AB l i)=false then some 2 else if anyR (fun j=>AB l j==AB l i) 0 i=true then some 5 else none),Ht];intro i f h _;have y:=o _ (AP f h);rw [AI f h,bs,Qk (by omega),bs,CR (fun j=>AB l j==AB l i) 5]
  ·cases HV (AB l i) <;> cases anyR (fun j=>AB l j==AB l i) 0 i <;> rfl
  ·intro j u w _;rw [AI u (by omega),bs,bs];split <;> rfl
def MB (all:List Attr) (k:Int):Int:=
 let x:=AB all k
 if HV x.Name=false then 2 else if anyR (fun j=>(AB all j).Name==x.Name) 0 k=true then 5 else
 if x.Names.length=0 then (if -1000000<=x.Low∧x.Low<=x.High∧x.High<=1000000 then 0 else 6) else
 if J3 x.Names≠0 then J3 x.Names else if x.Low=0∧x.High=x.Names.length - 1 then 0 else 6
variable {k:Int}
theorem Xr {d:List Attr} (o:∀ x∈d,RF x) (l:0<=k) (u:k<d.length):GD (AB d k) (d.take k.toNat)=some (MB d k):=by
 have j:=o _ (AP l u);have A:=j.name;unfold GD MB;dsimp only;rw [Qh (by omega),bs,show (fun f=>Jr f (AB d k))=(fun f=>some (f.Name==(AB d k).Name)) from rfl,fG,bs,QA l (by omega),ft j.each,bs];have w:=j.names;have y:A4 ((AB d k).Names.length - 1)=(AB d k).Names.length - 1:=BI (by omega) (by omega);rw [y];have z:(AB d k).Names.length=0->J3 (AB d k).Names=0:=fun h=>by rw [List.eq_nil_of_length_eq_zero h]; rfl
 generalize J3 (AB d k).Names=e at z ⊢;simp only [bs,zzX,Bool.or_eq_true,zzZ,Bool.not_eq_true',decide_eq_false_iff_not,Bool.not_eq_false',Bool.or_eq_false_iff,Bool.and_eq_false_iff,ne_eq]
 repeat' (first | rfl | (exfalso; omega; done) | split)
 all_goals (first | rfl | (exfalso; omega) | omega | simp_all | (simp_all; omega))
theorem Xt {x:Attr} (d:RF x):JS x=some (
 if x.Names.length=0 then (if -1000000<=x.Low∧x.Low<=x.High∧x.High<=1000000 then 0 else 6) else
 if J3 x.Names≠0 then J3 x.Names else if x.Low=0∧x.High=x.Names.length - 1 then 0 else 6):=by
 have f:=d.names;have h:A4 (x.Names.length - 1)=x.Names.length - 1:=BI (by omega) (by omega);unfold JS E6;simp only [bs,h,gE d.each];generalize J3 x.Names=e;simp only [bs,zzX,Bool.or_eq_true,zzZ,Bool.not_eq_true',decide_eq_false_iff_not,Bool.not_eq_false',Bool.or_eq_false_iff,Bool.and_eq_false_iff,ne_eq]
 repeat' (first | rfl | (exfalso; omega; done) | split)
 all_goals (first | rfl | (exfalso; omega) | omega | simp_all | (simp_all; omega))
def I9 (t:AC) (i:Int):Int:=
 let n:=AB t.Nodes i
 if HV n.Name=false then 2 else if anyR (fun j=>(AB t.Nodes j).Name==n.Name) 0 i=true then 5 else
 if n.Parent < -1∨i<=n.Parent then 6 else if 4<n.Attrs.length∨8<(BW t i).length then 3 else
 (fst (fun k=>nz (MB (BW t i) k)) ((BW t i).length - n.Attrs.length) (BW t i).length).getD 0
variable {t:AC} {i:Int}
theorem TT (d:0<=i):(AB t.Nodes i).Attrs.length<=(BW t i).length:=by
 unfold BW;rw [show (i+1).toNat=i.toNat+1 by omega,C4,ci (by omega),d0];omega
theorem HD.next (h:HD t i) (d:-1<=par t i) (f:par t i<i):HD t (i+1):=by
 intro j l u;by_cases o:j=i
 ·subst o; exact ⟨d,f⟩
 ·exact h j l (by omega)
theorem jL (o:BY t) (f:0<=i) (x:i<t.Nodes.length) (B:HD t i):Ja t i=some (I9 t i):=by
 have D:=o.name _ (AP f x);unfold Ja I9;dsimp only;rw [AI f x,bs,Qh (by omega),bs,MR f (by omega),bs,show (fun u=>NH u (AB t.Nodes i))=(fun u=>some (u.Name==(AB t.Nodes i).Name)) from rfl,Xf,bs,QA f (by omega)];cases HV (AB t.Nodes i).Name
 ·rfl
 ·cases anyR (fun j=>(AB t.Nodes j).Name==(AB t.Nodes i).Name) 0 i
  ·by_cases h:(AB t.Nodes i).Parent < -1∨i<=(AB t.Nodes i).Parent
   ·rcases h with h | h <;> simp [h]
   ·have d:HD t (i+1):=B.next (by unfold par; omega) (by unfold par; omega)
    have w:(decide ((AB t.Nodes i).Parent < -1)||decide (i<=(AB t.Nodes i).Parent))=false:=by
     rw [Bool.eq_false_iff]; simpa using h
    rw [YR o (k:=i+1) (by omega) d f (by omega),bs];have z:=Mm o (k:=i+1) (a:=i) (by omega) d (by omega);have A:=TT (t:=t) f;have l:=Mk o (k:=i+1) (a:=i) (by omega) d (by omega);rw [BI (by omega) (by omega),C5 (fun k=>nz (MB (BW t i) k)),Ht]
    ·simp only [w,h,Bool.not_true,Bool.false_eq_true,if_false];simp only [bs,zzX,Bool.or_eq_true,zzZ,Bool.not_eq_true',decide_eq_false_iff_not,Bool.not_eq_false',Bool.or_eq_false_iff,Bool.and_eq_false_iff,ne_eq]
     repeat' (first | rfl | (exfalso; omega; done) | split)
     all_goals (first | rfl | (exfalso; omega) | omega | simp_all | (simp_all; omega))
    ·intro k C y _;rw [AI (by omega) y,bs,MR (by omega) (by omega),bs,Xr l (by omega) y,bs,Px]
  ·rfl
theorem jV (f:BY t) (l:0<=i) (u:i<t.Nodes.length) (B:HD t i):M5 t i=some (I9 t i):=by
 have F:=f.name _ (AP l u);have G:=f.nodes;unfold M5 I9 E6;dsimp only;rw [AI l u,bs,Qk (by omega),bs,CR (fun j=>(AB t.Nodes j).Name==(AB t.Nodes i).Name) 5]
 ·cases HV (AB t.Nodes i).Name
  ·rfl
  ·cases anyR (fun j=>(AB t.Nodes j).Name==(AB t.Nodes i).Name) 0 i
   ·simp only [Bool.not_true,Bool.false_eq_true,if_false,DX,bs];rw [BI (by omega) (by omega)];by_cases x:(AB t.Nodes i).Parent < -1∨i<=(AB t.Nodes i).Parent
    ·rw [ca,ci (by decide),ca x];simp; omega
    ·have d:HD t (i+1):=B.next (by unfold par; omega) (by unfold par; omega)
     rw [ci (by simp; omega),ci (by decide),ci x];rw [YX f (k:=i+1) (by omega) d l (by omega),bs];have y:=Mm f (k:=i+1) (a:=i) (by omega) d (by omega);have z:=TT (t:=t) l;have h:=Mk f (k:=i+1) (a:=i) (by omega) d (by omega);rw [BI (by omega) (by omega)];rw [C5 (fun k=>nz (MB (BW t i) k)),Ht]
     ·simp only [bs,zzX,Bool.or_eq_true,zzZ,Bool.not_eq_true',decide_eq_false_iff_not,Bool.not_eq_false',Bool.or_eq_false_iff,Bool.and_eq_false_iff,ne_eq]
      repeat' (first | rfl | (exfalso; omega; done) | split)
      all_goals (first | rfl | (exfalso; omega) | omega | simp_all | (simp_all; omega))
     ·intro k w o _;have A:=h _ (AP (show 0<=k by omega) o);have D:=A.name;simp only [AI (show 0<=k by omega) o,bs];rw [Qk (by omega),bs,CR (fun j=>(AB (BW t i) j).Name==(AB (BW t i) k).Name) 5]
      ·rw [Xt A];simp only [bs,Px];unfold MB;dsimp only;cases HV (AB (BW t i) k).Name
       ·rfl
       ·cases anyR (fun j=>(AB (BW t i) j).Name==(AB (BW t i) k).Name) 0 k <;> rfl
      ·intro j C E _;rw [AI C (by omega),bs];split <;> rfl
   ·rfl
 ·intro j w o _;rw [AI w (by omega),bs];split <;> rfl
def Mn (low high:Int):Bool:=((decide (0<=low))&&(decide (low<=40)))&&((decide (high=(-1)))||((decide (low<=high))&&(decide (high<=40))))
theorem gB (low high:Int):Km low high=some (Mn low high):=by
 unfold Km Mn E6;simp only [bs];cases (decide (0<=low)&&decide (low<=40)) <;> cases decide (high=-1) <;> rfl
def Jo (t:AC) (i:Int):Int:=
 let x:=AB t.Edges i
 if HV x.Name=false then 2 else if anyR (fun j=>(AB t.Edges j).Name==x.Name) 0 i=true then 5 else
 if (0<=x.From∧x.From<t.Nodes.length)∧(0<=x.To∧x.To<t.Nodes.length)∧Mn x.OutLow x.OutHigh=true∧Mn x.InLow x.InHigh=true then 0 else 6
theorem jG (u:BY t) (d:0<=i) (o:i<t.Edges.length):JZ t i=some (Jo t i):=by
 have w:=u.ename _ (AP d o);unfold JZ Jo LQ;dsimp only;rw [AI d o,bs,Qh (by omega),bs,MR d (by omega),bs,show (fun h=>NG h (AB t.Edges i))=(fun h=>some (h.Name==(AB t.Edges i).Name)) from rfl,Xe,bs,QA d (by omega)];simp only [show ∀ a b,Kf a b=some (Mn a b) from fun _ _=>rfl,bs];generalize HV (AB t.Edges i).Name=b1;generalize anyR (fun j=>(AB t.Edges j).Name==(AB t.Edges i).Name) 0 i=b2;generalize Mn (AB t.Edges i).OutLow (AB t.Edges i).OutHigh=b3;generalize Mn (AB t.Edges i).InLow (AB t.Edges i).InHigh=b4;cases b1
 ·rfl
 ·cases b2
  ·cases b3 <;> cases b4
   all_goals
    by_cases f:0<=(AB t.Edges i).From∧(AB t.Edges i).From<t.Nodes.length
    ·by_cases l:0<=(AB t.Edges i).To∧(AB t.Edges i).To<t.Nodes.length
     ·simp [f,l]
     ·have:(decide (0<=(AB t.Edges i).To)&&decide ((AB t.Edges i).To<t.Nodes.length))=false:=by rw [Bool.eq_false_iff]; simpa using l
      simp [f,l,this]
    ·have:(decide (0<=(AB t.Edges i).From)&&decide ((AB t.Edges i).From<t.Nodes.length))=false:=by rw [Bool.eq_false_iff]; simpa using f
     simp [f,this]
  ·rfl
theorem jS (l:BY t) (o:0<=i) (u:i<t.Edges.length):M4 t i=some (Jo t i):=by
 have z:=l.ename _ (AP o u);have A:=l.nodes;unfold M4 Jo E6;dsimp only;rw [AI o u,bs,Qk (by omega),bs,CR (fun j=>(AB t.Edges j).Name==(AB t.Edges i).Name) 5]
 ·simp only [BI (show -9223372036854775808<=(t.Nodes.length:Int) - 1 by omega) (by omega),gB,bs];generalize HV (AB t.Edges i).Name=b1;generalize anyR (fun j=>(AB t.Edges j).Name==(AB t.Edges i).Name) 0 i=b2;generalize Mn (AB t.Edges i).OutLow (AB t.Edges i).OutHigh=b3;generalize Mn (AB t.Edges i).InLow (AB t.Edges i).InHigh=b4;cases b1
  ·rfl
  ·cases b2
   ·cases b3 <;> cases b4
    all_goals
     by_cases f:0<=(AB t.Edges i).From∧(AB t.Edges i).From<t.Nodes.length
     ·have d:(AB t.Edges i).From<=(t.Nodes.length:Int) - 1:=by omega
      by_cases w:0<=(AB t.Edges i).To∧(AB t.Edges i).To<t.Nodes.length
      ·have h:(AB t.Edges i).To<=(t.Nodes.length:Int) - 1:=by omega
       simp [f,w,d,h,DX]
      ·have:(decide (0<=(AB t.Edges i).To)&&decide ((AB t.Edges i).To<=(t.Nodes.length:Int) - 1))=false:=by rw [Bool.eq_false_iff]; simp; omega
       simp [f,w,d,this,DX]
     ·have:(decide (0<=(AB t.Edges i).From)&&decide ((AB t.Edges i).From<=(t.Nodes.length:Int) - 1))=false:=by rw [Bool.eq_false_iff]; simp; omega
      simp [f,this,DX]
   ·rfl
 ·intro j x y _;rw [AI x (by omega),bs];split <;> rfl
def BE (t:AC):ByteArray × Int:=
 if t.Nodes.length=0 then (⟨#[]⟩,7) else if 12<t.Nodes.length∨20<t.Edges.length then (⟨#[]⟩,3) else
 match fst (fun i=>(nz (I9 t i)).map fun e=>((AB t.Nodes i).Name,e)) 0 t.Nodes.length with
 | some r=>r
 | none=>(fst (fun i=>(nz (Jo t i)).map fun e=>((AB t.Edges i).Name,e)) 0 t.Edges.length).getD (⟨#[]⟩,0)
theorem aQ (h:I9 t i=0):-1<=par t i∧par t i<i:=by
 unfold I9 at h;dsimp only at h;unfold par;by_cases d:(AB t.Nodes i).Parent < -1∨i<=(AB t.Nodes i).Parent
 ·rw [ca d] at h;split at h
  ·cases h
  ·split at h <;> cases h
 ·omega
theorem Na {α β:Type} {o:Option α} {g:α->β}:o.map g=none↔o=none:=by cases o <;> simp
theorem TB (h:∀ j,0<=j->j<i->I9 t j=0):HD t i:=fun j d f=>aQ (h j d f)
theorem SS {ρ:Type} (e:Int) (n:ByteArray):(if (!decide (e=0))=true then some (CZ.ret (n,e)) else some (CZ.next ()))=some (Pf ((nz e).map fun e=>(n,e))):=by
 unfold nz;by_cases h:e=0 <;> simp [h,Pf]
theorem SW (h:BY t):GM t=some (BE t):=by
 unfold GM BE;rw [C5 (fun i=>(nz (I9 t i)).map fun e=>((AB t.Nodes i).Name,e)),GB]
 ·rw [C5 (fun i=>(nz (Jo t i)).map fun e=>((AB t.Edges i).Name,e)),GB]
  ·cases fst (fun i=>(nz (I9 t i)).map fun e=>((AB t.Nodes i).Name,e)) 0 t.Nodes.length <;> cases fst (fun i=>(nz (Jo t i)).map fun e=>((AB t.Edges i).Name,e)) 0 t.Edges.length
   all_goals dsimp only
   all_goals try simp only [Option.getD]
   all_goals
    simp only [bs,zzX,Bool.or_eq_true,zzZ,Bool.not_eq_true',decide_eq_false_iff_not,Bool.not_eq_false',Bool.or_eq_false_iff,Bool.and_eq_false_iff,ne_eq]
    repeat' (first | rfl | (exfalso; omega; done) | split)
    all_goals (first | rfl | (exfalso; omega) | omega | simp_all | (simp_all; omega))
  ·intro i d f _;rw [AI d f,bs,jG h d f,bs];exact SS (ρ:=Unit) _ _
 ·intro i d f u;have w:HD t i:=TB fun j l o=>Oc.1 (Na.1 (u j l o));rw [AI d f,bs,jL h d f w,bs];exact SS (ρ:=Unit) _ _
theorem SY (h:BY t):Il t=some (BE t):=by
 unfold Il BE;rw [C5 (fun i=>(nz (I9 t i)).map fun e=>((AB t.Nodes i).Name,e)),GB]
 ·rw [C5 (fun i=>(nz (Jo t i)).map fun e=>((AB t.Edges i).Name,e)),GB]
  ·cases fst (fun i=>(nz (I9 t i)).map fun e=>((AB t.Nodes i).Name,e)) 0 t.Nodes.length <;> cases fst (fun i=>(nz (Jo t i)).map fun e=>((AB t.Edges i).Name,e)) 0 t.Edges.length
   all_goals dsimp only
   all_goals try simp only [Option.getD]
   all_goals
    simp only [bs,zzX,Bool.or_eq_true,zzZ,Bool.not_eq_true',decide_eq_false_iff_not,Bool.not_eq_false',Bool.or_eq_false_iff,Bool.and_eq_false_iff,ne_eq]
    repeat' (first | rfl | (exfalso; omega; done) | split)
    all_goals (first | rfl | (exfalso; omega) | omega | simp_all | (simp_all; omega))
  ·intro i d f _;simp only [jS h d f,AI d f,bs];exact SS (ρ:=Unit) _ _
 ·intro i d f u;have w:HD t i:=TB fun j l o=>Oc.1 (Na.1 (u j l o));simp only [jV h d f w,AI d f,bs];exact SS (ρ:=Unit) _ _
end Go.Sf.Sc
namespace Go.Sf.Sc
open Go Go.Sf
theorem J2 {α:Type} {c:Bool} {a b:α}:(if c=true then some a else some b)=some (if c=true then a else b):=by cases c <;> rfl
def LX (n:Int):Bool:=(decide (0<=n))&&(decide (n<=99))
def QN (e:DY) (n:Int):Bool:=LX e.Type'&&(decide (0<=e.From)&&decide (e.From<n))&&(decide (0<=e.To)&&decide (e.To<n))
def DK (g:Graph):Int:=
 if 40<g.Nodes.length∨80<g.Edges.length then 3 else if (g.Nodes.any fun n=>!LX n)=true then 6 else if (g.Edges.any fun e=>!QN e g.Nodes.length)=true then 6 else 0
structure Kh (g:Graph):Prop where
 nodes:g.Nodes.length<=40
 edges:g.Edges.length<=80
 kind:∀ n∈g.Nodes,0<=n∧n<=99
 fit:∀ e∈g.Edges,(0<=e.Type'∧e.Type'<=99)∧(0<=e.From∧e.From<g.Nodes.length)∧(0<=e.To∧e.To<g.Nodes.length)
variable {g:Graph}
theorem GE (h:DK g=0):Kh g:=by
 unfold DK at h;split at h
 ·cases h
 ·split at h
  ·cases h
  ·split at h
   ·cases h
   ·rename_i o d f;refine ⟨by omega,by omega,fun n j=>?_,fun e l=>?_⟩
    ·rw [Bool.not_eq_true,List.any_eq_false] at d;have:=d n j;simp [LX] at this;exact this
    ·rw [Bool.not_eq_true,List.any_eq_false] at f;have:=f e l;simp only [QN,LX,Bool.not_eq_true',Bool.not_eq_false,zzZ,zzX] at this;omega
variable {n:Nat}
theorem jJ {e:DY} (h:n<=40):Mw e n=some (QN e n):=by
 unfold Mw Iz QN LX;simp only [bs,BI (show -9223372036854775808<=(n:Int) - 1 by omega) (by omega)];have d:decide (e.From<=(n:Int) - 1)=decide (e.From<n):=by rw [decide_eq_decide]; omega
 have f:decide (e.To<=(n:Int) - 1)=decide (e.To<n):=by rw [decide_eq_decide]; omega
 rw [d,f];generalize (decide (0<=e.Type')&&decide (e.Type'<=99))=b1;generalize (decide (0<=e.From)&&decide (e.From<n))=b2;cases b1 <;> cases b2 <;> simp
theorem Od (g:Graph):EZ g=some (DK g):=by
 unfold EZ DK;by_cases h:40<g.Nodes.length∨80<g.Edges.length
 ·rw [ca (by simp; omega),ca h]
 ·rw [ci (by simp; omega),ci h,show ME=(fun n=>some (!LX n)) from rfl,aB,X7 (p:=fun e=>!QN e g.Nodes.length) (fun e _=>by
   unfold MF;rw [jJ (by omega)]; rfl)]
  simp only [bs];cases g.Nodes.any fun n=>!LX n
  ·cases g.Edges.any fun e=>!QN e g.Nodes.length <;> rfl
  ·rfl
theorem Of (g:Graph):HK g=some (DK g):=by
 unfold HK DK;by_cases h:40<g.Nodes.length∨80<g.Edges.length
 ·rw [ca (by simp; omega),ca h]
 ·rw [ci (by simp; omega),ci h,Ka,Ka,CR (fun i=>!LX (AB g.Nodes i)) 6]
  ·rw [CR (fun i=>!QN (AB g.Edges i) g.Nodes.length) 6]
   ·cases anyR (fun i=>!LX (AB g.Nodes i)) 0 g.Nodes.length
    ·cases anyR (fun i=>!QN (AB g.Edges i) g.Nodes.length) 0 g.Edges.length <;> rfl
    ·rfl
   ·intro i d f _;rw [AI d f,bs];unfold Nt QN;simp only [show ∀ n,La n=some (LX n) from fun _=>rfl,bs];generalize LX (AB g.Edges i).Type'=b1;cases b1 <;> cases decide (0<=(AB g.Edges i).From) <;> cases decide ((AB g.Edges i).From<g.Nodes.length) <;> cases decide (0<=(AB g.Edges i).To) <;> cases decide ((AB g.Edges i).To<g.Nodes.length) <;> rfl
  ·intro i d f _;rw [AI d f,bs,show La (AB g.Nodes i)=some (LX (AB g.Nodes i)) from rfl,bs];cases LX (AB g.Nodes i) <;> rfl
def GL (t:AC) (g:Graph):Bool:=!(g.Nodes.any fun n=>decide (t.Nodes.length<=n))&&!(g.Edges.any fun e=>decide (t.Edges.length<=e.Type'))
variable {t:AC}
theorem Nh (d:Kh g) (h:GL t g=true):(∀ n∈g.Nodes,0<=n∧n<t.Nodes.length)∧∀ e∈g.Edges,0<=e.Type'∧e.Type'<t.Edges.length:=by
 unfold GL at h;simp only [zzZ,Bool.not_eq_true',List.any_eq_false,zzX] at h;refine ⟨fun n f=>?_,fun e j=>?_⟩
 ·have:=h.1 n f;have:=d.kind n f;omega
 ·have:=h.2 e j;have:=d.fit e j;omega
theorem Uc (h:Kh g):Jg t g=some (GL t g):=by
 unfold Jg GL;rw [Ka,Ka,CR (fun i=>decide (t.Nodes.length<=AB g.Nodes i)) false]
 ·rw [CR (fun i=>decide (t.Edges.length<=(AB g.Edges i).Type')) false]
  ·cases anyR (fun i=>decide (t.Nodes.length<=AB g.Nodes i)) 0 g.Nodes.length
   ·cases anyR (fun i=>decide (t.Edges.length<=(AB g.Edges i).Type')) 0 g.Edges.length <;> rfl
   ·rfl
  ·intro i d f _;have:=(h.fit _ (AP d f)).1.1;simp only [AI d f,bs];rw [ci (by simp; omega),bs,J2]
 ·intro i d f _;have:=(h.kind _ (AP d f)).1;simp only [AI d f,bs];rw [ci (by simp; omega),bs,J2]
structure IP (t:AC):Prop where
 nodes:t.Nodes.length<=12
 edges:t.Edges.length<=20
 node:∀ i:Int,0<=i->i<t.Nodes.length->I9 t i=0
 edge:∀ i:Int,0<=i->i<t.Edges.length->Jo t i=0
theorem HC (h:(BE t).2=0):IP t:=by
 unfold BE at h;split at h
 ·cases h
 ·split at h
  ·cases h
  ·rename_i x y;have u:∀ i:Int,0<=i->i<t.Nodes.length->I9 t i=0:=by
    split at h
    ·rename_i r f;obtain ⟨i,_,_,d,_⟩:=C1 f;unfold nz at d;split at d
     ·cases d
     ·rename_i j;cases d; exact absurd h j
    ·rename_i f;intro i l o;exact Oc.1 (Na.1 (DA.1 f i l o))
   have w:∀ i:Int,0<=i->i<t.Edges.length->Jo t i=0:=by
    split at h
    ·rename_i r f;obtain ⟨i,l,o,d,_⟩:=C1 f;rw [u i l o] at d;cases d
    ·cases f:fst (fun i=>(nz (Jo t i)).map fun e=>((AB t.Edges i).Name,e)) 0 t.Edges.length with
     | some r=>
      rw [f] at h;obtain ⟨i,_,_,d,_⟩:=C1 f;unfold nz at d;split at d
      ·cases d
      ·rename_i j;cases d; exact absurd h j
     | none=>
      intro i l o;exact Oc.1 (Na.1 (DA.1 f i l o))
   exact ⟨by omega,by omega,u,w⟩
theorem IP.par (h:IP t):HD t t.Nodes.length:=TB h.node
variable {i:Int}
theorem IP.ends (h:IP t) (f:0<=i) (j:i<t.Edges.length):(0<=(AB t.Edges i).From∧(AB t.Edges i).From<t.Nodes.length)∧(0<=(AB t.Edges i).To∧(AB t.Edges i).To<t.Nodes.length):=by
 have:=h.edge i f j;unfold Jo at this;dsimp only at this;split at this
 ·cases this
 ·split at this
  ·cases this
  ·split at this
   ·rename_i d; exact ⟨d.1,d.2.1⟩
   ·cases this
def JB (t:AC) (a:Int):Bool:=decide (0<=a)&&decide (a<t.Nodes.length)
variable {a:Int}
theorem MW:JB t a=true↔0<=a∧a<t.Nodes.length:=by unfold JB; simp
theorem Ub (d:BY t) (l:IO):HM t l=some (if (BE t).2≠0 then (BE t).2 else if (l.all (JB t))=true then 0 else 6):=by
 unfold HM;rw [SW d,bs,V3 (p:=fun a=>!JB t a) (fun a _=>by unfold MJ JB; rw [show decide (a<0)=!decide (0<=a) from by rw [←decide_not,decide_eq_decide]; omega,show decide ((t.Nodes.length:Int)<=a)=!decide (a<t.Nodes.length) from by rw [←decide_not,decide_eq_decide]; omega,Bool.not_and]),bs];rw [show (l.any fun a=>!JB t a)=!(l.all (JB t)) from by rw [List.all_eq_not_any_not,Bool.not_not]];cases l.all (JB t) <;> by_cases h:(BE t).2=0 <;> simp [h]
theorem Ya (f:BY t) (a b:Int):Kn t a b=some (if (BE t).2≠0 then (BE t).2 else if (JB t a&&JB t b)=true then 0 else 6):=by
 have j:=f.nodes;have e:∀ a,decide (a<=(t.Nodes.length:Int) - 1)=decide (a<(t.Nodes.length:Int)):=fun a=>by rw [decide_eq_decide]; omega
 unfold Kn E6;rw [SY f,bs];simp only [BI (show -9223372036854775808<=(t.Nodes.length:Int) - 1 by omega) (by omega),bs,e];change (if (!decide ((BE t).snd=0))=true then some (BE t).snd else (if (!JB t a)=true then some true else some (!JB t b)).bind fun d=>if d=true then some 6 else some 0)=_;cases JB t a <;> cases JB t b <;> by_cases h:(BE t).2=0 <;> simp [h]
theorem bJ {α:Type} [Inhabited α] {l:List α} (d:0<=i) (f:i<l.length):B1 l i (AB l i)=l:=by
 unfold B1 AB;rw [List.getD_eq_getElem?_getD,List.getElem?_eq_getElem (by omega)];exact List.set_getElem_self _
theorem Hs {α:Type} [Inhabited α] {l:List α} (d:0<=i) (f:i<l.length):l.take (i+1).toNat=l.take i.toNat++[AB l i]:=by
 unfold AB;rw [show (i+1).toNat=i.toNat+1 by omega,List.take_add_one,List.getD_eq_getElem?_getD,List.getElem?_eq_getElem (by omega)];rfl
theorem E5 {α:Type} {l:List α} (h:l.length<=BM):B0 [] l=some l:=by rw [B7 (by simpa using h)]; rfl
def JJ (t:AC) (a:Int):List Attr × Int:=if (BE t).2≠0 then ([],(BE t).2) else if JB t a=true then (BW t a,0) else ([],6)
theorem YQ (l:BY t) (a:Int):IC t a=some (JJ t a):=by
 unfold IC JJ;rw [Ub l,bs];by_cases h:(BE t).2=0
 ·have j:=HC h;have e:[a].all (JB t)=JB t a:=by simp
  rw [e];simp only [h,ne_eq,not_true_eq_false,if_false];cases hi:JB t a
  ·rfl
  ·rw [ca rfl,ca rfl];have o:=MW.1 hi;have E:=Mm l (Int.le_refl _) j.par o.2;have C:=Mk l (Int.le_refl _) j.par o.2;rw [ci (by decide),YR l (Int.le_refl _) j.par o.1 o.2,bs];obtain ⟨s',D,rfl⟩:=WL (f:=(fun (u:Int) (w:List Attr)=>
 (AM w u).bind fun x=>
 (slices_Clone_string x.Names).bind fun y=>
 (AM w u).bind fun d=>
 some (B1 w u (Attr.mk d.Name d.Low d.High y)))) (fun _ s=>s=BW t a) (a:=0) (b:=(BW t a).length) (s:=BW t a) (by omega) rfl (fun i s z A B=>by
     subst B;have:=(C _ (AP z A)).names;refine ⟨BW t a,?_,rfl⟩;unfold slices_Clone_string;rw [AI z A,bs,E5 (by unfold BM; omega),bs,bs];congr 1;exact bJ z A)
   rw [D]; rfl
 ·simp only [h,ne_eq,not_false_eq_true,if_true,decide_false,Bool.not_false]
theorem YW (f:BY t) (a:Int):Kl t a=some (JJ t a):=by
 unfold Kl JJ;rw [Ya f,bs];by_cases h:(BE t).2=0
 ·have d:=HC h;rw [Bool.and_self];simp only [h,ne_eq,not_true_eq_false,if_false];cases hi:JB t a
  ·rfl
  ·rw [ca rfl,ca rfl];have j:=MW.1 hi;have w:=Mm f (Int.le_refl _) d.par j.2;have u:=Mk f (Int.le_refl _) d.par j.2;rw [ci (by decide),YX f (Int.le_refl _) d.par j.1 j.2,bs];rw [EF (fun i=>(BW t a).take i.toNat) (by omega) (by simp)]
   ·rw [bs,Int.toNat_natCast,List.take_length]
   ·intro i l o;have:=(u _ (AP l o)).names;rw [AI l o,bs,E5 (by unfold BM; omega),bs,B7 (by rw [d1]; simp; unfold BM; omega),Hs l o];rfl
 ·simp only [h,ne_eq,not_false_eq_true,if_true,decide_false,Bool.not_false]
end Go.Sf.Sc
namespace Go.Sf.Sc
open Go Go.Sf
def N9 (t:AC):Nat->Int->IO
 | 0,_=>[]
 | n+1,a=>if a<0 then [] else a::N9 t n (par t a)
theorem Yl (t:AC):∀ (n:Nat) (a:Int),(N9 t n a).length<=n
 | 0,_=>by simp [N9]
 | n+1,a=>by
  rw [N9];split
  ·simp
  ·have:=Yl t n (par t a); simp; omega
def JC (t:AC) (a b:Int):Bool:=(N9 t (a+1).toNat a).any fun x=>decide (b=x)
variable {t:AC}
theorem YL (f:t.Nodes.length<=12) (u:HD t t.Nodes.length):∀ (n:Nat) (a:Int) (l:IO),a<t.Nodes.length->a<n->l.length+n<=1000 ->
  ∃ x,Mi (ρ:=IO) (fun (d:Int × IO)=>
 if (decide (0<=d.1))=true then
 (B0 d.2 [d.1]).bind fun h=>
 (AM t.Nodes d.1).bind fun j=>
 some (.next (j.Parent,h))
 else
 some (.brk (d.1,d.2))) (a,l) (.inl (x,l++N9 t n a))
 | 0,a,l,o,z,_=>by
  refine ⟨a,.brk ?_⟩;rw [ci (by simp; omega)];simp [N9]
 | n+1,a,l,o,z,B=>by
  by_cases w:a<0
  ·refine ⟨a,.brk ?_⟩;rw [ci (by simp; omega)];simp [N9,w]
  ·have A:=u a (by omega) o;obtain ⟨x,y⟩:=YL f u n (par t a) (l++[a]) (by omega) (by omega) (by simp; omega);refine ⟨x,.next (s':=(par t a,l++[a])) ?_ ?_⟩
   ·rw [ca (by simp; omega),B7 (by simp; unfold BM; omega),bs,AI (by omega) o]; rfl
   ·rw [N9,ci w,show l++a::N9 t n (par t a)=(l++[a])++N9 t n (par t a) by simp];exact y
variable {a b:Int}
theorem cm (h:IP t) (l:0<=a) (d:a<t.Nodes.length):Jl t a b=some (JC t a b):=by
 have f:=h.nodes;obtain ⟨x,j⟩:=YL f h.par (a+1).toNat a [] d (by omega) (by simp; omega);have o:=Yl t (a+1).toNat a;unfold Jl KU;rw [j.eq,DX];simp only [List.nil_append];unfold slices_Reverse_int;rw [ca (by unfold BM; omega)];simp only [bs];rw [TY,bs];unfold JC;rw [List.any_reverse]
theorem TF (f:HD t t.Nodes.length) (l:0<=b):∀ (n m:Nat) (a:Int),-1<=a->a<t.Nodes.length->a+1<n->a<m->Hw n t a b=some ((N9 t m a).any fun x=>decide (b=x))
 | 0,_,_,_,_,_,_=>by omega
 | n+1,m,a,u,j,w,y=>by
  rw [Hw];by_cases h:a<0
  ·rw [ci (by simp; omega),ci (by simp; omega)];cases m <;> simp [N9,h]
  ·cases m with
   | zero=>omega
   | succ m=>
    have o:=f a (by omega) j;rw [N9,ci h,List.any_cons,ca (show decide (0<=a)=true by simp; omega),AI (by omega) j];simp only [bs];rw [show (AB t.Nodes a).Parent=par t a from rfl,TF f l n m (par t a) (by omega) (by omega) (by omega) (by omega)];by_cases d:a=b
    ·simp [d]
    ·have:¬ b=a:=fun e=>d e.symm;simp [d,this]
theorem SZ (h:IP t) (j:0<=a) (d:a<t.Nodes.length) (f:0<=b):II t a b=some (JC t a b):=
 E9 (a+2).toNat fun n l=>TF h.par f n (a+1).toNat a (by omega) d (by omega) (by omega)
def QO (t:AC) (e f g:Int):Bool:=
 decide ((BE t).2=0)&&(JB t f&&JB t g)&&(decide (0<=e)&&decide (e<t.Edges.length))&&(JC t f (AB t.Edges e).From&&JC t g (AB t.Edges e).To)
theorem jD (l:BY t) (e f g:Int):JY t e f g=some (QO t e f g):=by
 unfold JY QO;rw [Ub l,bs,show [f,g].all (JB t)=(JB t f&&JB t g) by simp];by_cases h:(BE t).2=0
 ·simp only [h,ne_eq,not_true_eq_false,if_false];have d:=HC h;cases hi:(JB t f&&JB t g)
  ·rfl
  ·rw [zzZ,MW,MW] at hi;by_cases j:0<=e∧e<t.Edges.length
   ·rw [ci (by simp; omega),AI j.1 j.2];simp only [bs,cm d hi.1.1 hi.1.2,cm d hi.2.1 hi.2.2,j.1,j.2,decide_true,Bool.true_and];cases JC t f (AB t.Edges e).From <;> rfl
   ·rw [ca (by simp; omega)];have:(decide (0<=e)&&decide (e<t.Edges.length))=false:=by rw [Bool.eq_false_iff]; simpa using j
    rw [this]; simp
 ·simp [h]
theorem jQ (u:BY t) (e f g:Int):M3 t e f g=some (QO t e f g):=by
 have x:=u.edges;unfold M3 QO E6;rw [Ya u,bs];by_cases h:(BE t).2=0
 ·simp only [h,ne_eq,not_true_eq_false,if_false];have j:=HC h;cases hi:(JB t f&&JB t g)
  ·rfl
  ·rw [zzZ,MW,MW] at hi;rw [BI (by omega) (by omega)];simp only [bs];by_cases d:0<=e∧e<t.Edges.length
   ·have l:=j.ends d.1 d.2;have o:e<=(t.Edges.length:Int) - 1:=by omega
    rw [ci (by simp),bs,ci (by simp [d.1,o]),AI d.1 d.2];simp only [bs,SZ j hi.1.1 hi.1.2 l.1.1,SZ j hi.2.1 hi.2.2 l.2.1,d.1,d.2,decide_true,Bool.true_and];cases JC t f (AB t.Edges e).From <;> rfl
   ·have:(decide (0<=e)&&decide (e<t.Edges.length))=false:=by rw [Bool.eq_false_iff]; simpa using d
    have w:(decide (0<=e)&&decide (e<=(t.Edges.length:Int) - 1))=false:=by rw [Bool.eq_false_iff]; simp; omega
    rw [this,w]; simp
 ·simp [h]
def NC (n:Int) (x:Term):Bool:=(((decide ((-1)<=x.Var))&&(decide (x.Var<n)))&&(decide ((-1000000)<=x.Add)))&&(decide (x.Add<=1000000))
def MI (n:Int) (x:Test):Int:=if ¬ x.Kind=1∧¬ x.Kind=2 then 1 else if (NC n x.Left&&NC n x.Right)=true then 0 else 6
def JW (n:Int) (l:List Test):Int:=if n<0∨12<n then 6 else if 40<l.length then 3 else (fst (fun i=>nz (MI n (AB l i))) 0 l.length).getD 0
theorem jN (n:Int) (x:Test):Jy n x=some (MI n x):=by
 unfold Jy MI;simp only [show ∀ n x,JL n x=some (NC n x) from fun _ _=>rfl,bs];generalize NC n x.Left=b1;generalize NC n x.Right=b2;cases b1 <;> cases b2
 all_goals
  simp only [bs,zzX,Bool.or_eq_true,zzZ,Bool.not_eq_true',decide_eq_false_iff_not,Bool.not_eq_false',Bool.or_eq_false_iff,Bool.and_eq_false_iff,ne_eq]
  repeat' (first | rfl | (exfalso; omega; done) | split)
  all_goals (first | rfl | (exfalso; omega) | omega | simp_all | (simp_all; omega))
theorem cv (n:Int) (x:Term):J5 n x=some (if NC n x=true then 0 else 6):=by
 unfold J5 NC;simp only [bs,zzX,Bool.or_eq_true,zzZ,Bool.not_eq_true',decide_eq_false_iff_not,Bool.not_eq_false',Bool.or_eq_false_iff,Bool.and_eq_false_iff,ne_eq]
 repeat' (first | rfl | (exfalso; omega; done) | split)
 all_goals (first | rfl | (exfalso; omega) | omega | simp_all | (simp_all; omega))
theorem jX (n:Int) (x:Test):N5 n x=some (MI n x):=by
 unfold N5 MI;simp only [cv,bs];generalize NC n x.Left=b1;generalize NC n x.Right=b2;cases b1 <;> cases b2
 all_goals
  simp only [bs,zzX,Bool.or_eq_true,zzZ,Bool.not_eq_true',decide_eq_false_iff_not,Bool.not_eq_false',Bool.or_eq_false_iff,Bool.and_eq_false_iff,ne_eq]
  repeat' (first | rfl | (exfalso; omega; done) | split)
  all_goals (first | rfl | (exfalso; omega) | omega | simp_all | (simp_all; omega))
theorem fw (n:Int) (l:List Test):Ix n l=some (JW n l):=by
 unfold Ix JW;rw [C5 (fun i=>nz (MI n (AB l i))),Ht]
 ·simp only [bs,zzX,Bool.or_eq_true,zzZ,Bool.not_eq_true',decide_eq_false_iff_not,Bool.not_eq_false',Bool.or_eq_false_iff,Bool.and_eq_false_iff,ne_eq]
  repeat' (first | rfl | (exfalso; omega; done) | split)
  all_goals (first | rfl | (exfalso; omega) | omega | simp_all | (simp_all; omega))
 ·intro i d f _;rw [AI d f,bs,jN,bs,Px]
theorem gI (n:Int) (l:List Test):Ly n l=some (JW n l):=by
 unfold Ly JW;rw [C5 (fun i=>nz (MI n (AB l i))),Ht]
 ·simp only [bs,zzX,Bool.or_eq_true,zzZ,Bool.not_eq_true',decide_eq_false_iff_not,Bool.not_eq_false',Bool.or_eq_false_iff,Bool.and_eq_false_iff,ne_eq]
  repeat' (first | rfl | (exfalso; omega; done) | split)
  all_goals (first | rfl | (exfalso; omega) | omega | simp_all | (simp_all; omega))
 ·intro i d f _;rw [AI d f,bs,jX,bs,Px]
def PB (t:AC) (p:Pattern) (node ix:Int):Attr × Bool:=
 if node<0∨p.Graph.Nodes.length<=node then (default,false) else
 let l:=(JJ t (AB p.Graph.Nodes node)).1
 if ix<0∨l.length<=ix then (default,false) else (AB l ix,true)
theorem TS (f:BY t) (a:Int):(JJ t a).1.length<=600∧((JJ t a).2≠0->(JJ t a).1=[]):=by
 unfold JJ;split
 ·simp
 ·rename_i h;have d:=HC (t:=t) (by omega);split
  ·rename_i hi;exact ⟨Mm f (Int.le_refl _) d.par (MW.1 hi).2,by simp⟩
  ·simp
variable {p:Pattern}
theorem fk (d:BY t) (j:Kh p.Graph) (s:EI):G2 t p s=some (PB t p s.Node s.Attr):=by
 have l:=j.nodes;unfold G2 PB D2;dsimp only;rw [BI (by omega) (by omega),bs];by_cases h:s.Node<0∨p.Graph.Nodes.length<=s.Node
 ·rw [ca (by simp; omega),ca h]; rfl
 ·rw [ci (by simp; omega),ci h,AI (by omega) (by omega),bs,YQ d,bs];have o:=(TS d (AB p.Graph.Nodes s.Node)).1;rw [BI (by omega) (by omega),bs];by_cases f:s.Attr<0∨(JJ t (AB p.Graph.Nodes s.Node)).1.length<=s.Attr
  ·rw [ca (by simp; omega),ca f]; rfl
  ·rw [ci (by simp; omega),ci f,AI (by omega) (by omega)]; rfl
theorem gA (j:BY t) (node d:Int):M7 t p node d=some (PB t p node d):=by
 unfold M7 PB;dsimp only;by_cases h:node<0∨p.Graph.Nodes.length<=node
 ·rw [ca (by simp; omega),ca h]; rfl
 ·rw [ci (by simp; omega),ci h,AI (by omega) (by omega),bs,YW j,bs];have o:=(TS j (AB p.Graph.Nodes node)).2;by_cases f:d<0∨(JJ t (AB p.Graph.Nodes node)).1.length<=d
  ·rw [ca (by simp; omega),ca f]; rfl
  ·by_cases l:(JJ t (AB p.Graph.Nodes node)).2=0
   ·rw [ci (by simp [l]; omega),ci f,AI (by omega) (by omega)]; rfl
   ·rw [o l] at f; simp at f; omega
end Go.Sf.Sc
namespace Go.Sf
variable {σ ρ:Type}
def kD (s:σ) (o:Option ρ):CZ σ ρ:=match o with
 | none=>.next s
 | some r=>.ret r
def ec (s:σ) (o:Option ρ):σ ⊕ ρ:=match o with
 | none=>.inl s
 | some r=>.inr r
theorem WM {f:Int->σ->Option (CZ σ ρ)} (g:Int->σ) (c:Int->Option ρ):∀ (n:Nat) (a:Int),
  (∀ i,a<=i->i<a+n->(∀ j,a<=j->j<i->c j=none)->f i (g i)=some (kD (g (i+1)) (c i)))->forGo f n a (g a)=some (ec (g (a+n)) (FH c n a))
 | 0,a,_=>by simp [forGo,FH,ec]
 | n+1,a,h=>by
  have w:=h a (Int.le_refl _) (by omega) (fun j d l=>by omega);rw [H6,w,FH];cases x:c a with
  | some r=>rfl
  | none=>
   simp only [kD];rw [show a+((n+1:Nat):Int)=a+1+n by omega];refine WM g c n (a+1) (fun i d l o=>h i (by omega) (by omega) (fun j z u=>?_));by_cases y:j=a
   ·subst y; exact x
   ·exact o j (by omega) u
variable {a b:Int}
theorem Ki {f:Int->σ->Option (CZ σ ρ)} (g:Int->σ) (c:Int->Option ρ) {s:σ} (d:a<=b) (l:s=g a) (h:∀ i,a<=i->i<b->(∀ j,a<=j->j<i->c j=none)->f i (g i)=some (kD (g (i+1)) (c i))):forR f a b s=some (ec (g b) (fst c a b)):=by
 subst l;unfold forR fst;have:=WM g c (b - a).toNat a (fun i o w u=>h i o (by omega) u)
 rwa [show a+((b - a).toNat:Int)=b by omega] at this
variable {α:Type}
variable {e:Int}
theorem Ib {X:Pi} {Y:Int} (h:e=0->X=some Y):(if (!decide (e=0))=true then some e else X)=some (if e≠0 then e else Y):=by
 by_cases d:e=0
 ·simp [d,h d]
 ·simp [d]
variable {v:α} {X:Option α} {Y:α}
theorem K7 (h:e=0->X=some Y):(if (!decide (e=0))=true then some v else X)=some (if e≠0 then v else Y):=by
 by_cases d:e=0
 ·simp [d,h d]
 ·simp [d]
variable {P:Prop}
theorem Pq [Decidable P] {b:Bool} (f:b=true↔P) (h:¬ P->X=some Y):(if b=true then some v else X)=some (if P then v else Y):=by
 by_cases d:P
 ·rw [ca (f.2 d),ca d]
 ·rw [ci (fun h=>d (f.1 h)),ci d,h d]
theorem X8 {b:Bool} (h:b=true->X=some Y):(if (!b)=true then some v else X)=some (if b=false then v else Y):=by
 cases b
 ·rfl
 ·simpa using h rfl
theorem rS {b:Bool} (h:b=false->X=some Y):(if b=true then some v else X)=some (if b=true then v else Y):=by
 cases b
 ·simpa using h rfl
 ·rfl
end Go.Sf
namespace Go.Sf.Sc
open Go Go.Sf
def QC (t:AC) (p:Pattern) (s:EI):Bool:=!(PB t p s.Node s.Attr).2||decide (s.Term.Var < -1)||decide (p.Vars<=s.Term.Var)||(decide (s.Term.Add < -1000000)||decide (1000000<s.Term.Add))
def LE (p:Pattern) (v:Int):Bool:=p.Slots.any fun s=>decide (s.Term.Var=v)
def J4 (t:AC) (p:Pattern):Int:=
 if (BE t).2≠0 then (BE t).2 else if DK p.Graph≠0 then DK p.Graph else if GL t p.Graph=false then 13 else
 if p.Vars<0∨12<p.Vars then 6 else if 10<p.Slots.length∨10<p.Tests.length then 3 else
 if (p.Slots.any (QC t p))=true then 6 else if JW p.Vars p.Tests≠0 then JW p.Vars p.Tests else
 if anyR (fun v=>!LE p v) 0 p.Vars=true then 9 else 0
def KV (p:Pattern) (i:Int):QQ:=(List.range p.Vars.toNat).map fun (v:Nat)=>(p.Slots.take i.toNat).any fun s=>decide (s.Term.Var=(v:Int))
variable {p:Pattern}
theorem Zt:KV p 0=List.replicate p.Vars.toNat false:=by
 unfold KV;refine List.ext_getElem (by simp) (fun n d f=>by simp)
theorem bd (p:Pattern) (i:Int):(KV p i).length=p.Vars.toNat:=by simp [KV]
variable {i:Int}
theorem be (f:0<=i) (h:i<p.Slots.length) (hv:0<=(AB p.Slots i).Term.Var):B1 (KV p i) (AB p.Slots i).Term.Var true=KV p (i+1):=by
 unfold B1;refine List.ext_getElem (by simp [KV]) (fun n j l=>?_);simp only [KV,List.getElem_set,List.getElem_map,List.getElem_range,Hs f h,List.any_append,List.any_cons,List.any_nil,Bool.or_false];by_cases d:(AB p.Slots i).Term.Var.toNat=n
 ·rw [ca d,decide_eq_true (show (AB p.Slots i).Term.Var=(n:Int) by omega),Bool.or_true]
 ·rw [ci d,decide_eq_false (show ¬ (AB p.Slots i).Term.Var=(n:Int) by omega),Bool.or_false]
theorem Zs (d:0<=i) (f:i<p.Slots.length) (hv:(AB p.Slots i).Term.Var<0):KV p i=KV p (i+1):=by
 refine List.ext_getElem (by simp [KV]) (fun n h j=>?_);simp only [KV,List.getElem_map,List.getElem_range,Hs d f,List.any_append,List.any_cons,List.any_nil,Bool.or_false];rw [decide_eq_false (show ¬ (AB p.Slots i).Term.Var=(n:Int) by omega),Bool.or_false]
theorem bc (p:Pattern):((KV p p.Slots.length).any fun x=>false==x)=anyR (fun v=>!LE p v) 0 p.Vars:=by
 rw [Bool.eq_iff_iff,List.any_eq_true,IW];simp only [KV,Int.toNat_natCast,List.take_length,List.mem_map,List.mem_range];constructor
 ·rintro ⟨x,⟨v,hv,rfl⟩,d⟩;refine ⟨v,by omega,by omega,?_⟩;unfold LE;revert d;cases p.Slots.any fun s=>decide (s.Term.Var=(v:Int)) <;> simp
 ·rintro ⟨v,f,h,d⟩;refine ⟨_,⟨v.toNat,by omega,rfl⟩,?_⟩;rw [Int.toNat_of_nonneg f];unfold LE at d;revert d;cases p.Slots.any fun s=>decide (s.Term.Var=v) <;> simp
theorem fS {α ρ:Type} [Inhabited α] {l:List α} {q:α->Bool} {v:ρ}:fst (fun i=>if q (AB l i)=true then some v else none) 0 l.length=if l.any q=true then some v else none:=by
 rw [PL,Ka]
variable {t:AC}
theorem Vn (C:BY t) (p:Pattern):EP t p=some (J4 t p):=by
 unfold EP J4;rw [SW C,bs,Od,bs];refine Ib fun G=>Ib fun E=>?_;have x:=GE E;have e:((B5 p.Graph.Nodes (fun d=>IZ d t)).bind fun l=>
   (if l=true then some true else ((CL p.Graph.Edges (fun d=>Ia d t)).bind fun o=>some (o))))=some (!GL t p.Graph):=by
  unfold GL;rw [show (fun d=>IZ d t)=(fun (n:Int)=>some (decide (t.Nodes.length<=n))) from rfl,aB,show (fun d=>Ia d t)=(fun (e:DY)=>some (decide (t.Edges.length<=e.Type'))) from rfl,fH];simp only [bs];cases p.Graph.Nodes.any fun n=>decide (t.Nodes.length<=n) <;> simp
 rw [←Option.bind_assoc,e,bs];refine X8 fun F=>?_;unfold D2;simp only [bs];refine Pq (by simp; try omega) fun hv=>Pq (by simp; try omega) fun H=>?_;unfold Jm;rw [ca (by omega),bs,←Zt,BI (show -9223372036854775808<=p.Vars - 1 by omega) (by omega),Ki (KV p) (fun i=>if QC t p (AB p.Slots i)=true then some 6 else none) (by omega) rfl,fS]
 ·cases f:p.Slots.any (QC t p)
  ·simp only [Bool.false_eq_true,if_false,ec,DX,fw,bs,fL,bc];by_cases h:JW p.Vars p.Tests=0
   ·simp only [h];cases anyR (fun v=>!LE p v) 0 p.Vars <;> rfl
   ·simp [h]
  ·rfl
 ·intro i u w _;rw [AI u w,bs,fk C x,bs];unfold QC;by_cases f:(PB t p (AB p.Slots i).Node (AB p.Slots i).Attr).2=true
  ·by_cases D:(AB p.Slots i).Term.Var < -1∨p.Vars<=(AB p.Slots i).Term.Var
   ·have y:(decide (-1<=(AB p.Slots i).Term.Var)&&decide ((AB p.Slots i).Term.Var<=p.Vars - 1))=false:=by rw [Bool.eq_false_iff]; simp; omega
    have z:(decide ((AB p.Slots i).Term.Var < -1)||decide (p.Vars<=(AB p.Slots i).Term.Var))=true:=by simp; omega
    rw [f,y,Bool.or_assoc (!true),z]; rfl
   ·have y:(decide (-1<=(AB p.Slots i).Term.Var)&&decide ((AB p.Slots i).Term.Var<=p.Vars - 1))=true:=by simp; omega
    have z:(decide ((AB p.Slots i).Term.Var < -1)||decide (p.Vars<=(AB p.Slots i).Term.Var))=false:=by rw [Bool.eq_false_iff]; simp; omega
    rw [f,y,Bool.or_assoc (!true),z];by_cases I:(AB p.Slots i).Term.Add < -1000000∨1000000<(AB p.Slots i).Term.Add
    ·have A:(decide (-1000000<=(AB p.Slots i).Term.Add)&&decide ((AB p.Slots i).Term.Add<=1000000))=false:=by rw [Bool.eq_false_iff]; simp; omega
     have B:(decide ((AB p.Slots i).Term.Add < -1000000)||decide (1000000<(AB p.Slots i).Term.Add))=true:=by simp; omega
     rw [A,B]; rfl
    ·have A:(decide (-1000000<=(AB p.Slots i).Term.Add)&&decide ((AB p.Slots i).Term.Add<=1000000))=true:=by simp; omega
     have B:(decide ((AB p.Slots i).Term.Add < -1000000)||decide (1000000<(AB p.Slots i).Term.Add))=false:=by rw [Bool.eq_false_iff]; simp; omega
     rw [A,B];by_cases j:0<=(AB p.Slots i).Term.Var
     ·simp only [Bool.not_true,Bool.false_eq_true,if_false,bs,j,decide_true,if_true,Bool.or_false];rw [AI j (by rw [bd]; omega),bs,be u w j]; rfl
     ·simp only [Bool.not_true,Bool.false_eq_true,if_false,bs,j,decide_false,Bool.or_false];rw [Zs u w (by omega)]; rfl
  ·rw [Bool.not_eq_true] at f;rw [f]; rfl
theorem eO (p:Pattern) (v:Int):LK p v=some (LE p v):=by
 unfold LK LE;rw [CR (fun i=>decide ((AB p.Slots i).Term.Var=v)) true,Ka]
 ·cases anyR (fun i=>decide ((AB p.Slots i).Term.Var=v)) 0 p.Slots.length <;> rfl
 ·intro i d f _;rw [AI d f,bs,J2]
theorem ZS (h:BY t) (p:Pattern):Ji t p=some (J4 t p):=by
 unfold Ji J4;rw [SY h,bs,Of,bs];refine Ib fun w=>Ib fun o=>?_;have f:=GE o;rw [Uc f,bs];refine X8 fun u=>Pq (by simp; try omega) fun hv=>Pq (by simp; try omega) fun x=>?_;rw [CR (fun i=>QC t p (AB p.Slots i)) 6,←Ka]
 ·cases y:p.Slots.any (QC t p)
  ·simp only [Bool.false_eq_true,if_false,DX,gI,bs];by_cases d:JW p.Vars p.Tests=0
   ·simp only [d];rw [CR (fun v=>!LE p v) 9]
    ·cases anyR (fun v=>!LE p v) 0 p.Vars <;> rfl
    ·intro i j l _;rw [eO,bs,J2]
   ·simp [d]
  ·rfl
 ·intro i j l _;rw [AI j l,bs,gA h,bs];unfold QC MG;simp only [bs];have e:(!(decide (-1000000<=(AB p.Slots i).Term.Add)&&decide ((AB p.Slots i).Term.Add<=1000000)))=(decide ((AB p.Slots i).Term.Add < -1000000)||decide (1000000<(AB p.Slots i).Term.Add)):=by
   rw [Bool.not_and,←decide_not,←decide_not];congr 1 <;> rw [decide_eq_decide] <;> omega
  rw [e];cases (!(PB t p (AB p.Slots i).Node (AB p.Slots i).Attr).2||decide ((AB p.Slots i).Term.Var < -1)||decide (p.Vars<=(AB p.Slots i).Term.Var))
  ·simp only [Bool.false_eq_true,if_false,bs,Bool.false_or,J2]
  ·rfl
end Go.Sf.Sc
namespace Go.Sf
variable {R:Int->Int->Prop}
theorem Xs {l:IO} (h:l.Pairwise R) {i j:Int} (d:0<=i) (f:i<j) (o:j<l.length):R (AB l i) (AB l j):=by
 have:=(List.pairwise_iff_getElem.1 h) i.toNat j.toNat (by omega) (by omega) (by omega);unfold AB;rw [List.getD_eq_getElem?_getD,List.getD_eq_getElem?_getD,List.getElem?_eq_getElem (by omega),List.getElem?_eq_getElem (by omega)];exact this
theorem Xc {l:IO} (h:∀ i j:Int,0<=i->i<j->j<l.length->R (AB l i) (AB l j)):l.Pairwise R:=by
 refine List.pairwise_iff_getElem.2 (fun i j d f o=>?_);have:=h i j (by omega) (by omega) (by omega);unfold AB at this;rw [List.getD_eq_getElem?_getD,List.getD_eq_getElem?_getD,Int.toNat_natCast,Int.toNat_natCast,List.getElem?_eq_getElem d,List.getElem?_eq_getElem f] at this;exact this
end Go.Sf
namespace Go.Sf.Sc
open Go Go.Sf
def cN (l:IO) (v:Int):Bool:=l.any fun x=>decide (v=x)
theorem cO {l:IO} {v:Int}:cN l v=true↔v∈l:=by
 unfold cN;rw [List.any_eq_true];simp
variable {a b:Int}
theorem U2 {c:Int->Pi} (f:∀ i,c i≠some 0) (h:(fst c a b).getD 0=0):∀ i,a<=i->i<b->c i=none:=by
 have:fst c a b=none:=by
  cases d:fst c a b with
  | none=>rfl
  | some r=>
   rw [d] at h;simp only [Option.getD] at h;subst h;obtain ⟨i,_,_,j,_⟩:=C1 d;exact (f i j).elim
 exact DA.1 this
end Go.Sf.Sc
namespace Go.Sf.Sc
open Go Go.Sf
def Kc (a b:Graph) (m:Morphism) (i:Int):Pi:=
 if AB m.Nodes i<0∨b.Nodes.length<=AB m.Nodes i then some 6 else if AB b.Nodes (AB m.Nodes i)≠AB a.Nodes i then some 13 else none
def Hz (a b:Graph) (m:Morphism) (i:Int):Pi:=
 if AB m.Edges i<0∨b.Edges.length<=AB m.Edges i then some 6 else
 if (AB a.Edges i).Type'≠(AB b.Edges (AB m.Edges i)).Type' then some 13 else
 if AB m.Nodes (AB a.Edges i).From≠(AB b.Edges (AB m.Edges i)).From∨AB m.Nodes (AB a.Edges i).To≠(AB b.Edges (AB m.Edges i)).To then some 11 else none
def MM (a b:Graph) (m:Morphism):Int:=
 if DK a≠0 then DK a else if DK b≠0 then DK b else if m.Nodes.length≠a.Nodes.length∨m.Edges.length≠a.Edges.length then 20 else
 match fst (Kc a b m) 0 m.Nodes.length with
 | some e=>e
 | none=>(fst (Hz a b m) 0 m.Edges.length).getD 0
structure dt (a b:Graph) (m:Morphism):Prop where
 ga:Kh a
 gb:Kh b
 nlen:m.Nodes.length=a.Nodes.length
 elen:m.Edges.length=a.Edges.length
 node:∀ i:Int,0<=i->i<m.Nodes.length->(0<=AB m.Nodes i∧AB m.Nodes i<b.Nodes.length)∧AB b.Nodes (AB m.Nodes i)=AB a.Nodes i
 edge:∀ i:Int,0<=i->i<m.Edges.length->(0<=AB m.Edges i∧AB m.Edges i<b.Edges.length)∧(AB a.Edges i).Type'=(AB b.Edges (AB m.Edges i)).Type' ∧
  AB m.Nodes (AB a.Edges i).From=(AB b.Edges (AB m.Edges i)).From∧AB m.Nodes (AB a.Edges i).To=(AB b.Edges (AB m.Edges i)).To
variable {m:Morphism}
theorem eE {a b:Graph} (h:MM a b m=0):dt a b m:=by
 unfold MM at h;split at h
 ·omega
 split at h
 ·omega
 split at h
 ·cases h
 rename_i u w A;have j:fst (Kc a b m) 0 m.Nodes.length=none:=by
  split at h
  ·rename_i r l;obtain ⟨i,_,_,k,_⟩:=C1 l;subst h;unfold Kc at k;split at k
   ·cases k
   ·split at k <;> cases k
  ·assumption
 rw [j] at h;have o:=U2 (fun i=>by
  unfold Hz;split
  ·simp
  ·split
   ·simp
   ·split <;> simp) h
 refine ⟨GE (by omega),GE (by omega),by omega,by omega,fun i d f=>?_,fun i d f=>?_⟩
 ·have:=DA.1 j i d f;unfold Kc at this;split at this
  ·cases this
  ·split at this
   ·cases this
   ·rename_i x y;exact ⟨by omega,Classical.not_not.1 y⟩
 ·have:=o i d f;unfold Hz at this;split at this
  ·cases this
  ·split at this
   ·cases this
   ·split at this
    ·cases this
    ·rename_i x y z;exact ⟨by omega,Classical.not_not.1 y,Classical.not_not.1 (fun h=>z (.inl h)),Classical.not_not.1 (fun h=>z (.inr h))⟩
theorem eF (a b:Graph) (m:Morphism):FR a b m=some (MM a b m):=by
 unfold FR MM;rw [Od,bs,Od,bs];refine Ib fun w=>Ib fun x=>Pq (by simp; try omega) fun A=>?_;have ga:=GE w;have gb:=GE x;rw [C5 (Kc a b m),GB]
 ·cases y:fst (Kc a b m) 0 m.Nodes.length with
  | some e=>rfl
  | none=>
   have z:=DA.1 y;dsimp only;rw [C5 (Hz a b m),Ht];intro i h u _;unfold Hz;rw [AI h u,bs];by_cases d:AB m.Edges i<0∨b.Edges.length<=AB m.Edges i
   ·rw [ca (by simpa using d),ca d]; rfl
   ·have B:=ga.fit _ (AP (l:=a.Edges) h (by omega));rw [ci (by simpa using d),ci d,AI h (by omega),bs,AI (by omega) (by omega),bs];by_cases f:(AB a.Edges i).Type'=(AB b.Edges (AB m.Edges i)).Type'
    ·rw [ci (by simpa using f),ci (by simpa using f),AI (by omega) (by omega),bs];by_cases j:AB m.Nodes (AB a.Edges i).From=(AB b.Edges (AB m.Edges i)).From
     ·rw [ci (by simpa using j),AI (by omega) (by omega),bs,bs];by_cases o:AB m.Nodes (AB a.Edges i).To=(AB b.Edges (AB m.Edges i)).To
      ·rw [ci (by simpa using o),ci (by simp [j,o])]; rfl
      ·rw [ca (by simpa using o),ca (.inr o)]; rfl
     ·rw [ca (by simpa using j),bs,ca rfl,ca (.inl j)]; rfl
    ·rw [ca (by simpa using f),ca f]; rfl
 ·intro i h u _;unfold Kc;rw [AI h u,bs];by_cases d:AB m.Nodes i<0∨b.Nodes.length<=AB m.Nodes i
  ·rw [ca (by simpa using d),ca d]; rfl
  ·rw [ci (by simpa using d),ci d,AI (by omega) (by omega),bs,AI h (by omega),bs];by_cases f:AB b.Nodes (AB m.Nodes i)=AB a.Nodes i
   ·rw [ci (by simpa using f),ci (by simpa using f)]; rfl
   ·rw [ca (by simpa using f),ca f]; rfl
theorem SA {x y:Prop} [Decidable x] [Decidable y]:(if decide x=true then some true else some (decide y))=some (decide (x∨y)):=by
 by_cases d:x <;> simp [d]
theorem eK (a b:Graph) (m:Morphism):Ko a b m=some (MM a b m):=by
 unfold Ko MM;rw [Of,bs,Of,bs];refine Ib fun w=>Ib fun x=>Pq (by simp; try omega) fun A=>?_;have ga:=GE w;have gb:=GE x;rw [show (a.Nodes.length:Int)=m.Nodes.length by omega,show (a.Edges.length:Int)=m.Edges.length by omega,C5 (Kc a b m),GB]
 ·cases y:fst (Kc a b m) 0 m.Nodes.length with
  | some e=>rfl
  | none=>
   have z:=DA.1 y;dsimp only;rw [C5 (Hz a b m),Ht];intro i h u _;unfold Hz;rw [AI h u];simp only [bs,SA];by_cases d:AB m.Edges i<0∨b.Edges.length<=AB m.Edges i
   ·rw [ca (by simpa using d),ca d]; rfl
   ·have B:=ga.fit _ (AP (l:=a.Edges) h (by omega));rw [ci (by simpa using d),ci d,AI h (by omega),bs,AI (by omega) (by omega),bs];by_cases f:(AB a.Edges i).Type'=(AB b.Edges (AB m.Edges i)).Type'
    ·rw [ci (by simpa using f),ci (by simpa using f),AI (by omega) (by omega),bs];by_cases j:AB m.Nodes (AB a.Edges i).From=(AB b.Edges (AB m.Edges i)).From
     ·rw [ci (by simpa using j),AI (by omega) (by omega),bs,bs];by_cases o:AB m.Nodes (AB a.Edges i).To=(AB b.Edges (AB m.Edges i)).To
      ·rw [ci (by simpa using o),ci (by simp [j,o])]; rfl
      ·rw [ca (by simpa using o),ca (.inr o)]; rfl
     ·rw [ca (by simpa using j),bs,ca rfl,ca (.inl j)]; rfl
    ·rw [ca (by simpa using f),ca f]; rfl
 ·intro i h u _;unfold Kc;rw [AI h u];simp only [bs,SA];by_cases d:AB m.Nodes i<0∨b.Nodes.length<=AB m.Nodes i
  ·rw [ca (by simpa using d),ca d]; rfl
  ·rw [ci (by simpa using d),ci d,AI (by omega) (by omega),bs,AI h (by omega),bs];by_cases f:AB b.Nodes (AB m.Nodes i)=AB a.Nodes i
   ·rw [ci (by simpa using f),ci (by simpa using f)]; rfl
   ·rw [ca (by simpa using f),ca f]; rfl
def Ll (l:IO):Bool:=!anyR (fun i=>anyR (fun j=>decide (AB l i=AB l j)) 0 i) 0 l.length
theorem QF {l:IO}:Ll l=true↔l.Nodup:=by
 unfold Ll;rw [Bool.not_eq_true',ET];constructor
 ·intro h;refine Xc (fun i j d f o=>?_);have:=h j (by omega) o;rw [ET] at this;have:=this i d f;rw [decide_eq_false_iff_not] at this;exact fun e=>this e.symm
 ·intro h i y u;rw [ET];intro j w x;rw [decide_eq_false_iff_not];exact fun e=>Xs h w x u e.symm
theorem ZR (l:IO):Iv l=some (Ll l):=by
 unfold Iv Ll;rw [CR (fun i=>anyR (fun j=>decide (AB l i=AB l j)) 0 i) false]
 ·cases anyR (fun i=>anyR (fun j=>decide (AB l i=AB l j)) 0 i) 0 l.length <;> rfl
 ·intro i d f _;rw [CR (fun j=>decide (AB l i=AB l j)) false]
  ·cases anyR (fun j=>decide (AB l i=AB l j)) 0 i <;> rfl
  ·intro j h o _;rw [AI d f,bs,AI h (by omega),bs,J2]
theorem Wo {l:IO} (f:l.length<=1000):∃ k,IT l=some k∧decide (k=(l.length:Int))=Ll l:=by
 have d:(Nj l).length=l.length:=(LV l).length_eq;refine ⟨((Go.Lib.compact (Nj l)).length:Int),?_,?_⟩
 ·unfold IT slices_Clone_int slices_Sort_int slices_Compact_int;rw [E5 (by unfold BM; omega),bs,ca (by unfold BM; omega),bs,ca (by rw [d]; unfold BM; omega),bs]
 ·rw [Bool.eq_iff_iff,QF,zzX,←(LV l).nodup_iff,←Q1 (My l),d];omega
def NZ (m:Morphism):Bool:=Ll m.Nodes&&Ll m.Edges
theorem qG {a b:Graph} (h:MM a b m=0):ES a b m=some (NZ m):=by
 have ho:=eE h;have:=ho.ga.nodes;have:=ho.ga.edges;have:=ho.nlen;have:=ho.elen;obtain ⟨k,d,f⟩:=Wo (l:=m.Nodes) (by omega);obtain ⟨j,o,u⟩:=Wo (l:=m.Edges) (by omega);unfold ES NZ;rw [eF,h,bs,ca (decide_eq_true rfl),d];simp only [bs,o,f,u];cases Ll m.Nodes <;> rfl
theorem qJ {a b:Graph} (h:MM a b m=0):JT a b m=some (NZ m):=by
 unfold JT NZ;rw [eK,h,bs,ca (decide_eq_true rfl),ZR];simp only [bs,ZR];cases Ll m.Nodes <;> rfl
def S5 (t:AC) (g:Graph) (i:Int):Bool:=QO t (AB g.Edges i).Type' (AB g.Nodes (AB g.Edges i).From) (AB g.Nodes (AB g.Edges i).To)
end Go.Sf.Sc
namespace Go.Sf.Sc
open Go Go.Sf
structure P8 (p:Pattern):Prop where
 nodes:p.Graph.Nodes.length<=45
 edges:p.Graph.Edges.length<=90
 slots:p.Slots.length<=15
 tests:p.Tests.length<=15
structure bm (m:Morphism):Prop where
 nodes:m.Nodes.length<=140
 edges:m.Edges.length<=140
inductive EE:AA->Prop where
 | mk (c:AA) (hq:P8 c.Pattern) (hm:bm c.Map) (hk:∀ k∈c.Kids,EE k):EE c
variable {c:AA}
theorem EE.q (h:EE c):P8 c.Pattern:=by cases h; assumption
theorem EE.m (h:EE c):bm c.Map:=by cases h; assumption
theorem EE.k (h:EE c):∀ k∈c.Kids,EE k:=by cases h; assumption
theorem D9 {c k:AA} (h:k∈c.Kids):SizeOf.sizeOf k<SizeOf.sizeOf c:=by
 have:=List.sizeOf_lt_of_mem h;cases c;simp only [AA.mk.sizeOf_spec] at *;omega
theorem DP (c:AA):0<SizeOf.sizeOf c:=by
 cases c;simp only [AA.mk.sizeOf_spec];omega
def OS (c:AA):Bool:=decide (c.Map.Nodes.length=0∧c.Map.Edges.length=0∧c.Pattern.Graph.Nodes.length=0∧c.Pattern.Graph.Edges.length=0∧c.Pattern.Slots.length=0∧c.Pattern.Tests.length=0∧c.Pattern.Vars=0)
theorem jE (f:EE c):G3 c=some (OS c):=by
 have d:=f.q;have h:=f.m;have:=d.nodes;have:=d.edges;have:=d.slots;have:=d.tests;have:=h.nodes;have:=h.edges;unfold G3 OS;rw [BI (n:=(c.Map.Nodes.length:Int)+c.Map.Edges.length) (by omega) (by omega),BI (n:=(c.Map.Nodes.length:Int)+c.Map.Edges.length+c.Pattern.Graph.Nodes.length) (by omega) (by omega),
  BI (n:=(c.Map.Nodes.length:Int)+c.Map.Edges.length+c.Pattern.Graph.Nodes.length+c.Pattern.Graph.Edges.length) (by omega) (by omega),
  BI (n:=(c.Map.Nodes.length:Int)+c.Map.Edges.length+c.Pattern.Graph.Nodes.length+c.Pattern.Graph.Edges.length+c.Pattern.Slots.length) (by omega) (by omega),
  BI (n:=(c.Map.Nodes.length:Int)+c.Map.Edges.length+c.Pattern.Graph.Nodes.length+c.Pattern.Graph.Edges.length+c.Pattern.Slots.length+c.Pattern.Tests.length) (by omega) (by omega)]
 congr 1;rw [Bool.eq_iff_iff];simp only [zzZ,zzX];omega
theorem cu (f:EE c):I2 c=some (OS c):=by
 have d:=f.q;have h:=f.m;have:=d.nodes;have:=d.edges;have:=d.slots;have:=d.tests;have:=h.nodes;have:=h.edges;unfold I2 OS;rw [BI (n:=(c.Map.Nodes.length:Int)+c.Map.Edges.length) (by omega) (by omega),BI (n:=(c.Map.Nodes.length:Int)+c.Map.Edges.length+c.Pattern.Graph.Nodes.length) (by omega) (by omega),
  BI (n:=(c.Map.Nodes.length:Int)+c.Map.Edges.length+c.Pattern.Graph.Nodes.length+c.Pattern.Graph.Edges.length) (by omega) (by omega),
  BI (n:=(c.Pattern.Slots.length:Int)+c.Pattern.Tests.length) (by omega) (by omega)]
 congr 1;rw [Bool.eq_iff_iff];simp only [zzZ,zzX];omega
def QU (c:AA):Bool:=
 if c.Kind=1 then decide (c.Kids.length=0)&&OS c else if c.Kind=2 then decide (c.Kids.length=1)&&OS c else
 if c.Kind=3∨c.Kind=4 then decide (1<=c.Kids.length)&&OS c else if c.Kind=5 then decide (c.Kids.length=1) else false
def Pc:Nat->AA->Bool
 | 0,_=>false
 | n+1,c=>QU c&&c.Kids.all (Pc n)
theorem jP:∀ (N:Nat) (c:AA),SizeOf.sizeOf c<=N->EE c->∀ n,2*N<=n->B8 n c=some (Pc N c)
 | 0,c,h,_,_,_=>by have:=DP c; omega
 | N+1,c,h,y,n,C=>by
  obtain ⟨n,rfl⟩:∃ m,n=m+2:=⟨n - 2,by omega⟩;rw [B8,Pc,jE y];have f:B6 c.Kids (CJ (n+1))=some (!c.Kids.all (Pc N)):=by
   rw [Oq (p:=fun k=>!Pc N k) (fun k f=>by
    have:=D9 f;rw [CJ,jP N k (by omega) (y.k k f) n (by omega)]; rfl),List.all_eq_not_any_not,Bool.not_not]
  rw [f];unfold QU;simp only [bs,zzX];generalize OS c=b;generalize c.Kids.all (Pc N)=w;have z:decide ((c.Kids.length:Int)=0)=decide (c.Kids.length=0):=by rw [decide_eq_decide]; omega
  have A:decide ((c.Kids.length:Int)=1)=decide (c.Kids.length=1):=by rw [decide_eq_decide]; omega
  have B:decide (1<=(c.Kids.length:Int))=decide (1<=c.Kids.length):=by rw [decide_eq_decide]; omega
  simp only [show ((c.Kids.length:Int)=0)↔c.Kids.length=0 by omega,show ((c.Kids.length:Int)=1)↔c.Kids.length=1 by omega,show (1<=(c.Kids.length:Int))↔1<=c.Kids.length by omega];by_cases j:c.Kind=1
  ·rw [ca j,ca j];by_cases d:c.Kids.length=0 <;> cases b <;> cases w <;> simp [d]
  ·rw [ci j,ci j];by_cases l:c.Kind=2
   ·rw [ca l,ca l];by_cases d:c.Kids.length=1 <;> cases b <;> cases w <;> simp [d]
   ·rw [ci l,ci l];by_cases u:c.Kind=3
    ·simp only [u,if_true,true_or];by_cases d:1<=c.Kids.length <;> cases b <;> cases w <;> simp [d]
    ·by_cases x:c.Kind=4
     ·simp only [x,if_true,or_true,show ¬ (4:Int)=3 by decide,if_false];by_cases d:1<=c.Kids.length <;> cases b <;> cases w <;> simp [d]
     ·simp only [u,x,if_false,or_false];by_cases o:c.Kind=5
      ·rw [ca o,ca o];by_cases d:c.Kids.length=1 <;> cases w <;> simp [d]
      ·rw [ci o,ci o];cases w <;> rfl
theorem jU (u:EE c):MA c=some (QU c):=by
 unfold MA QU;rw [cu u];simp only [bs,zzX];generalize OS c=b;simp only [show ((c.Kids.length:Int)=0)↔c.Kids.length=0 by omega,show ((c.Kids.length:Int)=1)↔c.Kids.length=1 by omega,show (0<(c.Kids.length:Int))↔1<=c.Kids.length by omega];by_cases f:c.Kind=1
 ·rw [ca f,ca f];by_cases d:c.Kids.length=0 <;> cases b <;> simp [d]
 ·rw [ci f,ci f];by_cases h:c.Kind=2
  ·rw [ca h,ca h];by_cases d:c.Kids.length=1 <;> cases b <;> simp [d]
  ·rw [ci h,ci h];by_cases l:c.Kind=3
   ·simp only [l,if_true,true_or,decide_true,bs];by_cases d:1<=c.Kids.length <;> cases b <;> simp [d]
   ·by_cases o:c.Kind=4
    ·simp only [o,if_true,or_true,show ¬ (4:Int)=3 by decide,if_false,decide_true,bs];by_cases d:1<=c.Kids.length <;> cases b <;> simp [d]
    ·simp only [l,o,if_false,or_false,decide_false,bs,Bool.false_eq_true];by_cases j:c.Kind=5
     ·rw [ca j,ca j]
     ·rw [ci j,ci j]
theorem iS {α:Type} [Inhabited α] {l:List α} {p:α->Bool}:l.all p=!anyR (fun i=>!p (AB l i)) 0 l.length:=by
 rw [List.all_eq_not_any_not,Ka]
theorem eJ:∀ (N:Nat) (c:AA),SizeOf.sizeOf c<=N->EE c->∀ n,N<=n->GA n c=some (Pc N c)
 | 0,c,h,_,_,_=>by have:=DP c; omega
 | N+1,c,h,o,n,u=>by
  obtain ⟨n,rfl⟩:∃ m,n=m+1:=⟨n - 1,by omega⟩;rw [GA,Pc,jU o,bs,iS,CR (fun i=>!Pc N (AB c.Kids i)) false]
  ·cases QU c
   ·rfl
   ·cases anyR (fun i=>!Pc N (AB c.Kids i)) 0 c.Kids.length <;> rfl
  ·intro i d f _;have j:=AP (l:=c.Kids) d f;have:=D9 j;rw [AI d f,bs,eJ N _ (by omega) (o.k _ j) n (by omega),bs,J2]
noncomputable def bg (c:AA):Bool:=Pc (SizeOf.sizeOf c) c
theorem qI (d:EE c):HT c=some (bg c):=E9 (2*SizeOf.sizeOf c) fun n f=>jP _ c (dD _) d n f
theorem qN (d:EE c):Nf c=some (bg c):=E9 (SizeOf.sizeOf c) fun n f=>eJ _ c (dD _) d n f
def KP:Nat->AA->Int × Int
 | 0,_=>(0,0)
 | n+1,c=>
  let s:=c.Kids.foldl (fun s k=>(A4 (s.1+(KP n k).1),max s.2 (KP n k).2)) ((1,0):Int × Int)
  (s.1,if c.Kind=5 then A4 (s.2+1) else s.2)
theorem VC {α σ:Type} [Inhabited α] {l:List α} {g:σ->α->σ} {s:σ} {f:Int->σ->Option σ} (h:∀ (i:Int) s,0<=i->i<l.length->f i s=some (g s (AB l i))):forA f 0 l.length s=some (l.foldl g s):=by
 rw [EF (fun i=>(l.take i.toNat).foldl g s) (by omega) (by simp)]
 ·rw [Int.toNat_natCast,List.take_length]
 ·intro i d j;rw [h i _ d j,Hs d j,List.foldl_append]; rfl
theorem aZ:∀ (N:Nat) (c:AA),SizeOf.sizeOf c<=N->∀ n,N<=n->DG n c=some (KP N c)
 | 0,c,h,_,_=>by have:=DP c; omega
 | N+1,c,h,n,o=>by
  obtain ⟨n,rfl⟩:∃ m,n=m+1:=⟨n - 1,by omega⟩;rw [DG,KP,VC (g:=fun s k=>(A4 (s.1+(KP N k).1),max s.2 (KP N k).2))]
  ·simp only [bs,zzX];by_cases d:c.Kind=5
   ·rw [ca d,ca d]; rfl
   ·rw [ci d,ci d]; rfl
  ·intro i s f j;have:=D9 (AP (l:=c.Kids) f j);rw [AI f j,bs,aZ N _ (by omega) n (by omega)]; rfl
theorem aq:∀ (N:Nat) (c:AA),SizeOf.sizeOf c<=N->∀ n,N<=n->G8 n c=some (KP N c)
 | 0,c,h,_,_=>by have:=DP c; omega
 | N+1,c,h,n,o=>by
  obtain ⟨n,rfl⟩:∃ m,n=m+1:=⟨n - 1,by omega⟩;rw [G8,KP,VC (g:=fun s k=>(A4 (s.1+(KP N k).1),max s.2 (KP N k).2))]
  ·simp only [bs,zzX];by_cases d:c.Kind=5
   ·rw [ca d,ca d]; rfl
   ·rw [ci d,ci d]; rfl
  ·intro i s f j;have:=D9 (AP (l:=c.Kids) f j);rw [AI f j,bs,aq N _ (by omega) n (by omega)]; rfl
noncomputable def QY (c:AA):Int × Int:=KP (SizeOf.sizeOf c) c
noncomputable def LN (c:AA):Int:=if bg c=false then 1 else if 12<(QY c).1∨3<(QY c).2 then 3 else 0
theorem fu (d:EE c):F7 c=some (LN c):=by
 unfold F7 LN;rw [qI d,bs,show Ic c=some (QY c) from E9 (SizeOf.sizeOf c) fun n f=>aZ _ c (dD _) n f,bs];exact X8 fun _=>Pq (by simp) fun _=>rfl
theorem gG (d:EE c):L7 c=some (LN c):=by
 unfold L7 LN;rw [qN d,bs,show OM c=some (QY c) from E9 (SizeOf.sizeOf c) fun n f=>aq _ c (dD _) n f,bs];exact X8 fun _=>Pq (by simp) fun _=>rfl
theorem Tp (g:Graph):DK g≠9:=by
 unfold DK;split
 ·decide
 ·split
  ·decide
  ·split <;> decide
variable {t:AC} {p:Pattern}
theorem Qj (d:(BE t).2=0) (h:J4 t p=0∨J4 t p=9):0<=p.Vars∧p.Vars<=12:=by
 have f:=Tp p.Graph;unfold J4 at h;rw [ci (by simp [d])] at h;split at h
 ·omega
 ·split at h
  ·omega
  ·split at h
   ·omega
   ·omega
def ML (t:AC) (q:Pattern) (v:Int):Int:=if J4 t q≠9 then J4 t q else if anyR (fun i=>!LE q i) v q.Vars=true then 9 else 0
variable {P:Prop}
theorem rR {α:Type} [Decidable P] {v:α} {X:Option α} {Y:α} (h:P->X=some Y):(if (!decide P)=true then some v else X)=some (if ¬ P then v else Y):=by
 by_cases d:P
 ·simp [d,h d]
 ·simp [d]
variable {q:Pattern}
theorem qH (f:BY t) (h:(BE t).2=0) {v:Int} (u:0<=v) (j:v<=q.Vars):E3 t q v=some (ML t q v):=by
 unfold E3 ML;rw [Vn f,bs];refine rR fun d=>?_;have hv:=Qj h (.inr d);rw [P6 (c:=fun i=>(if (!LE q i)=true then some () else none).map fun _=>.inr 9) (a:=v) (b:=q.Vars) j]
 ·rw [NX,PL];cases anyR (fun i=>!LE q i) v q.Vars <;> rfl
 ·intro i w o _;rw [ca (by simpa using o),show (fun l=>I8 l i)=(fun y=>some (decide (y.Term.Var=i))) from rfl,fI,bs,show (q.Slots.any fun y=>decide (y.Term.Var=i))=LE q i from rfl,d,BI (by omega) (by omega)];cases LE q i <;> rfl
 ·rw [ci (by simp)]
theorem gF (p:Pattern) (v:Int):M8 p v=some (LE p v):=eO p v
theorem qK (d:BY t) (q:Pattern) (v:Int):L9 t v q=some (if q.Vars<v then 20 else ML t q v):=by
 unfold L9 ML;refine Pq (by simp) fun _=>?_;rw [ZS d,bs];refine rR fun f=>?_;rw [f,CR (fun i=>!LE q i) 9]
 ·cases anyR (fun i=>!LE q i) v q.Vars <;> rfl
 ·intro i h j _;rw [gF,bs,J2]
def HE:Nat->AC->Pattern->AA->Int
 | 0,_,_,_=>0
 | N+1,t,p,c=>
  if c.Kind=5 then
   if c.Pattern.Vars<p.Vars then 20 else if ML t c.Pattern p.Vars≠0 then ML t c.Pattern p.Vars else
   if MM p.Graph c.Pattern.Graph c.Map≠0 then MM p.Graph c.Pattern.Graph c.Map else if NZ c.Map=false then 1 else
   (fst (fun i=>nz (HE N t c.Pattern (AB c.Kids i))) 0 c.Kids.length).getD 0
  else (fst (fun i=>nz (HE N t p (AB c.Kids i))) 0 c.Kids.length).getD 0
theorem cQ (d:(BE t).2=0) {v:Int} (h:ML t q v=0):0<=q.Vars:=by
 unfold ML at h;split at h
 ·exact (Qj d (.inl h)).1
 ·rename_i f;exact (Qj d (.inr (Classical.not_not.1 f))).1
theorem ac (w:BY t) (o:(BE t).2=0):∀ (N:Nat) (c:AA) (p:Pattern),0<=p.Vars->SizeOf.sizeOf c<=N->∀ n,N<=n->C2 n t p c=some (HE N t p c)
 | 0,c,p,_,h,_,_=>by have:=DP c; omega
 | N+1,c,p,z,h,n,E=>by
  obtain ⟨n,rfl⟩:∃ m,n=m+1:=⟨n - 1,by omega⟩;rw [C2,HE];have d:∀ q:Pattern,0<=q.Vars->(thenR (forR (ρ:=Int) (fun (A:Int) (_:Unit)=>
    (AM c.Kids A).bind fun u=>
    (C2 n t q u).bind fun f=>
    if (!decide (f=0))=true then
    some (.ret f)
    else
    some (.next ())) 0 (c.Kids.length:Int) ()) (fun _=>
    some 0) (fun B=>some B))=some ((fst (fun i=>nz (HE N t q (AB c.Kids i))) 0 c.Kids.length).getD 0):=by
   intro q D;rw [C5 (fun i=>nz (HE N t q (AB c.Kids i))),Ht];intro i x y _;have:=D9 (AP (l:=c.Kids) x y);rw [AI x y,bs,ac w o N _ q D (by omega) n (by omega),bs,Px]
  by_cases j:c.Kind=5
  ·rw [ca (by simpa using j),ca j];refine Pq (by simp) fun hv=>?_;rw [qH w o z (by omega),bs];refine Ib fun hi=>?_;rw [eF,bs];refine Ib fun C=>?_;rw [qG C,bs];exact X8 fun _=>d _ (cQ o hi)
  ·rw [ci (by simpa using j),ci j];exact d p z
theorem ar (u:BY t):∀ (N:Nat) (c:AA) (p:Pattern),SizeOf.sizeOf c<=N->∀ n,N<=n->HL n t p c=some (HE N t p c)
 | 0,c,p,h,_,_=>by have:=DP c; omega
 | N+1,c,p,h,n,B=>by
  obtain ⟨n,rfl⟩:∃ m,n=m+1:=⟨n - 1,by omega⟩;rw [HL,HE];have d:∀ q:Pattern,(thenR (forR (ρ:=Int) (fun (y:Int) (_:Unit)=>
    (AM c.Kids y).bind fun o=>
    (HL n t q o).bind fun f=>
    if (!decide (f=0))=true then
    some (.ret f)
    else
    some (.next ())) 0 (c.Kids.length:Int) ()) (fun _=>
    some 0) (fun z=>some z))=some ((fst (fun i=>nz (HE N t q (AB c.Kids i))) 0 c.Kids.length).getD 0):=by
   intro q;rw [C5 (fun i=>nz (HE N t q (AB c.Kids i))),Ht];intro i w x _;have:=D9 (AP (l:=c.Kids) w x);rw [AI w x,bs,ar u N _ q (by omega) n (by omega),bs,Px]
  by_cases j:c.Kind=5
  ·rw [ca (by simpa using j),ca j,qK u,bs];by_cases hv:c.Pattern.Vars<p.Vars
   ·simp [hv]
   ·simp only [ci hv];refine Ib fun hi=>?_;rw [eK,bs];refine Ib fun A=>?_;rw [qJ A,bs];exact X8 fun _=>d _
  ·rw [ci (by simpa using j),ci j];exact d p
noncomputable def H3 (t:AC) (p:Pattern) (c:AA):Int:=if J4 t p≠0 then J4 t p else if LN c≠0 then LN c else HE (SizeOf.sizeOf c) t p c
theorem jF (d:BY t) (f:(BE t).2=0) (p:Pattern) (j:EE c):EQ t p c=some (H3 t p c):=by
 unfold EQ H3;rw [Vn d,bs];refine Ib fun h=>?_;rw [fu j,bs,Option.bind_fun_some];exact Ib fun _=>E9 (SizeOf.sizeOf c) fun n l=>ac d f _ c p (Qj f (.inl h)).1 (dD _) n l
theorem Wu (d:BY t) (p:Pattern) (f:EE c):Kt t p c=some (H3 t p c):=by
 unfold Kt H3;rw [ZS d,bs];refine Ib fun h=>?_;rw [gG f,bs,Option.bind_fun_some];exact Ib fun _=>E9 (SizeOf.sizeOf c) fun n j=>ar d _ c p (dD _) n j
end Go.Sf.Sc
namespace Go.Sf.Sc
open Go Go.Sf
def leafB (t:AC) (l:IO):Bool:=!(l.any fun k=>t.Nodes.any fun n=>decide (n.Parent=k))
end Go.Sf.Sc
namespace Go.Sf
variable {a b:Int}
theorem Sb {ρ:Type} {f:Int->Option (CZ Int ρ)} (p:Int->Bool) (v:ρ) (d:a<=b) (h:∀ i,a<=i->i<b->f i=some (if p i=true then .ret v else .next (i+1))) (j:f b=some (.brk b)):I7 f a=some (if anyR p a b=true then .inr v else .inl b):=by
 rw [P6 (c:=fun i=>(if p i=true then some () else none).map fun _=>.inr v) d]
 ·rw [NX,PL];cases anyR p a b <;> rfl
 ·intro i l o _;rw [h i l o];cases p i <;> rfl
 ·exact j
variable {n:Nat}
theorem Ob {α:Type} {e:α->TV} {l:List α} (h:TV.Sm (.list n (l.map e))):(l.length:Int)<=140737488351232∧∀ x∈l,(e x).Sm:=by
 simp only [TV.Sm,d3] at h;refine ⟨by have:=h.1; unfold reachBytes at this; omega,fun x d=>P1.1 h.2 _ (List.mem_map.2 ⟨x,d,rfl⟩)⟩
end Go.Sf
namespace Go.Sf.Sc
open Go Go.Sf
def V0 (a:Attr):Bool:=(decide (40<(a.Name.size:Int))||decide (25<(a.Names.length:Int)))||anyR (fun i=>decide (40<((AB a.Names i).size:Int))) 0 a.Names.length
theorem b8 {a:Attr} (h:V0 a=false):RF a:=by
 unfold V0 at h;simp only [Bool.or_eq_false_iff,decide_eq_false_iff_not,ET] at h;refine ⟨by omega,by omega,fun x d=>?_⟩;obtain ⟨i,f,j,rfl⟩:=ED d;have:=h.2 i f j;omega
variable {t:AC}
theorem Uv (Z:(AV t).Sm):∃ b,Ma t=some b∧(b=true->BY t):=by
 have L:TV.Sms [_,_]:=Z;obtain ⟨x,Q⟩:=Ob (e:=F9) L.1;unfold Ma;by_cases hl:20<t.Nodes.length∨30<t.Edges.length
 ·rw [ca (by simp; omega)];exact ⟨false,rfl,fun h=>by cases h⟩
 rw [ci (by simp; omega)];rcases WN (f:=(fun (B:Int) (U:Int)=>
 (AM t.Nodes B).bind fun z=>
 (if (decide (30<(A4 (U+(z.Attrs.length:Int)))))=true then some true else ((AM t.Nodes B).bind fun G=>
 some (decide (40<(G.Name.size:Int))))).bind fun H=>
 if H=true then
 some (CZ.ret false)
 else
 thenR (I7 (ρ:=Bool) (fun (s2:Int)=>
 (AM t.Nodes B).bind fun I=>
 if (decide (s2<(I.Attrs.length:Int)))=true then
 (AM t.Nodes B).bind fun J=>
 (AM J.Attrs s2).bind fun w=>
 if ((decide (40<(w.Name.size:Int)))||(decide (25<(w.Names.length:Int))))=true then
 some (.ret false)
 else
 thenR (I7 (ρ:=Bool) (fun (y:Int)=>
 if (decide (y<(w.Names.length:Int)))=true then
 (AM w.Names y).bind fun K=>
 if (decide (40<(K.size:Int)))=true then
 some (.ret false)
 else
 some (.next (A4 (y+1)))
 else
 some (.brk y)) 0) (fun y=>
 some (.next (A4 (s2+1)))) (fun v4=>some (.ret v4))
 else
 some (.brk s2)) 0) (fun s2=>
 some (.next (A4 (U+(z.Attrs.length:Int))))) (fun v2=>some (.ret v2))))
  (fun i s=>0<=s∧s<=30∧∀ j,0<=j->j<i->((AB t.Nodes j).Name.size:Int)<=40∧(AB t.Nodes j).Attrs.length<=30∧∀ a∈(AB t.Nodes j).Attrs,RF a) (fun _=>False) (fun r=>r=false) (a:=0) (b:=t.Nodes.length) (s:=0) (by omega) ⟨by omega,by omega,fun j A u=>by omega⟩ (fun i s C D hI=>by
   have hx:=Q _ (AP (l:=t.Nodes) C D);have M:TV.Sms [_,_,_,_]:=hx;obtain ⟨V,S⟩:=Ob (e:=If) M.2.2.2.1;obtain ⟨hI1,hI2,T⟩:=hI;have hw:A4 (s+(AB t.Nodes i).Attrs.length)=s+(AB t.Nodes i).Attrs.length:=BI (by omega) (by omega);simp only [AI C D,bs,hw,SA];by_cases W:30<s+(AB t.Nodes i).Attrs.length∨40<((AB t.Nodes i).Name.size:Int)
   ·rw [ca (by simpa using W)];exact .inr (.inr ⟨_,rfl,rfl⟩)
   rw [ci (by simpa using W)];rw [Sb (fun j=>V0 (AB (AB t.Nodes i).Attrs j)) false (b:=(AB t.Nodes i).Attrs.length) (by omega)]
   ·cases N:anyR (fun j=>V0 (AB (AB t.Nodes i).Attrs j)) 0 (AB t.Nodes i).Attrs.length
    ·refine .inl ⟨_,rfl,by omega,by omega,fun j E F=>?_⟩;by_cases hj:j=i
     ·subst hj;refine ⟨by omega,by omega,fun a V=>?_⟩;obtain ⟨k,o,d,rfl⟩:=ED V;exact b8 (ET.1 N k o d)
     ·exact T j E (by omega)
    ·exact .inr (.inr ⟨_,rfl,rfl⟩)
   ·intro j E F;rw [ca (by simpa using F),AI E F,bs];have hy:=S _ (AP (l:=(AB t.Nodes i).Attrs) E F);have O:TV.Sms [_,_,_,_]:=hy;obtain ⟨hm,_⟩:=Ob (e:=eS) O.2.2.2.1;unfold V0;cases A:(decide (40<((AB (AB t.Nodes i).Attrs j).Name.size:Int))||decide (25<((AB (AB t.Nodes i).Attrs j).Names.length:Int)))
    ·rw [ci (by decide),Sb (fun k=>decide (40<((AB (AB (AB t.Nodes i).Attrs j).Names k).size:Int))) false (b:=(AB (AB t.Nodes i).Attrs j).Names.length) (by omega)]
     ·cases anyR (fun k=>decide (40<((AB (AB (AB t.Nodes i).Attrs j).Names k).size:Int))) 0 (AB (AB t.Nodes i).Attrs j).Names.length
      ·rw [Bool.or_false,BI (show -9223372036854775808<=j+1 by omega) (by omega)]; rfl
      ·rfl
     ·intro k o d;rw [ca (by simpa using d),AI o d,bs,BI (show -9223372036854775808<=k+1 by omega) (by omega),J2]
     ·rw [ci (by simp)]
    ·rfl
   ·rw [ci (by simp)]) with ⟨s',A,u⟩ | ⟨r,A,u⟩
 ·rw [A];rcases u with u | u
  ·rw [DX,CR (fun i=>decide (40<((AB t.Edges i).Name.size:Int))) false]
   ·cases N:anyR (fun i=>decide (40<((AB t.Edges i).Name.size:Int))) 0 t.Edges.length
    ·refine ⟨true,rfl,fun _=>⟨by omega,by omega,fun n x=>?_,fun n x=>?_,fun n x=>?_,fun e he=>?_⟩⟩
     ·obtain ⟨k,o,d,rfl⟩:=ED x;exact (u.2.2 k o d).1
     ·obtain ⟨k,o,d,rfl⟩:=ED x;exact (u.2.2 k o d).2.1
     ·obtain ⟨k,o,d,rfl⟩:=ED x;exact (u.2.2 k o d).2.2
     ·obtain ⟨k,o,d,rfl⟩:=ED he;have:=ET.1 N k o d;simpa using this
    ·exact ⟨false,rfl,fun h=>by cases h⟩
   ·intro i C D _;rw [AI C D,bs,J2]
  ·exact u.elim
 ·rw [A];subst u;exact ⟨false,rfl,fun h=>by cases h⟩
theorem UU (p:Pattern):∃ b,Mc p=some b∧(b=true->P8 p):=by
 refine ⟨_,rfl,fun h=>?_⟩;simp only [zzZ,zzX] at h;exact ⟨by omega,by omega,by omega,by omega⟩
variable {a b:Int}
theorem fQ (h:0<=a) (d:a<=140737488351232) (j:0<=b) (f:b<=140737488351232):A4 (a+b)=a+b:=BI (by omega) (by omega)
variable {m:Morphism}
theorem fP (f:(CC m).Sm):∃ b,PX m 140=some b∧(b=true->bm m):=by
 have d:TV.Sms [_,_]:=f;have j:=(Ob (e:=eI) d.1).1;have l:=(Ob (e:=eI) d.2.1).1;refine ⟨_,rfl,fun h=>?_⟩;rw [fQ (by omega) j (by omega) l] at h;simp only [zzX] at h;exact ⟨by omega,by omega⟩
variable {c:AA}
theorem fK (h:(AE c).Sm):(CC c.Map).Sm∧(c.Kids.length:Int)<=140737488351232∧∀ k∈c.Kids,(AE k).Sm:=by
 have f:TV.Sms [_,_,_,_,_,_,_,_,_]:=h;obtain ⟨_,d,j,l,_⟩:=f;rw [Kz] at d;obtain ⟨o,u⟩:=Ob d;exact ⟨⟨j,l,trivial⟩,o,u⟩
end Go.Sf.Sc
