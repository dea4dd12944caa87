/- Plain lemmas: what the functions of the program and of the reference compute. -/
import Derived.Test.YtlbmpkmkmkgniaaGreatDoorSfRead
import Derived.Test.YtlbmpkmkmkgniaaGreatDoorFns
import Derived.Test.YtlbmpkmkmkgniaaGreatDoorSfPl
set_option linter.all false
set_option maxRecDepth 100000
namespace Go.Sf
theorem Ui {ρ τ:Type} {d:Int->Option ρ} {g:ρ->τ}:∀ (n:Nat) (a:Int),EM (fun i=>(d i).map g) n a=(EM d n a).map g
 | 0,_=>rfl
 | n+1,a=>by
  rw [EM,EM];cases d a with
  | some r=>rfl
  | none=>exact Ui n (a+1)
theorem MX {ρ τ:Type} {d:Int->Option ρ} {g:ρ->τ} {a b:Int}:fst (fun i=>(d i).map g) a b=(fst d a b).map g:=Ui _ _
theorem TN {ρ:Type} {d:Int->Option ρ} {r:ρ}:∀ {n:Nat} {a:Int},EM d n a=some r->∃ i,a<=i∧i<a+n∧d i=some r∧∀ j,a<=j->j<i->d j=none
 | 0,_,h=>by cases h
 | n+1,a,h=>by
  rw [EM] at h;cases b:d a with
  | some o=>
   rw [b] at h;exact ⟨a,Int.le_refl _,by omega,by rw [b]; exact h,fun j c e=>by omega⟩
  | none=>
   rw [b] at h;obtain ⟨i,c,e,k,l⟩:=TN h;refine ⟨i,by omega,by omega,k,fun j m f=>?_⟩;by_cases g:j=a
   ·subst g; exact b
   ·exact l j (by omega) f
theorem C8 {ρ:Type} {d:Int->Option ρ} {r:ρ} {a b:Int} (h:fst d a b=some r):∃ i,a<=i∧i<b∧d i=some r∧∀ j,a<=j->j<i->d j=none:=by
 obtain ⟨i,c,g,e,f⟩:=TN h;exact ⟨i,c,by omega,e,f⟩
def Ln (p:Int->Bool) (s:ByteArray):Int:=(fst (fun i=>if p (bt s i) then none else some i) 0 s.size).getD s.size
theorem RQ (p:Int->Bool) (s:ByteArray):0<=Ln p s∧Ln p s<=s.size∧(∀ j,0<=j->j<Ln p s->p (bt s j)=true)∧(Ln p s<s.size->p (bt s (Ln p s))=false):=by
 unfold Ln;cases h:fst (fun i=>if p (bt s i) then none else some i) 0 s.size with
 | none=>
  rw [C0] at h;simp only [Option.getD];refine ⟨by omega,by omega,fun j b c=>?_,fun b=>by omega⟩;have:=h j b c;cases a:p (bt s j)
  ·simp [a] at this
  ·rfl
 | some r=>
  obtain ⟨i,b,c,d,g⟩:=C8 h;have hi:p (bt s i)=false∧i=r:=by
   cases a:p (bt s i) <;> simp [a] at d;exact ⟨rfl,d⟩
  obtain ⟨hi,rfl⟩:=hi;simp only [Option.getD];refine ⟨b,by omega,fun j e f=>?_,fun _=>hi⟩;have:=g j e f;cases a:p (bt s j)
  ·simp [a] at this
  ·rfl
theorem Wu {s:ByteArray} (h:s≠⟨#[]⟩):0<s.size:=by
 rcases Nat.eq_zero_or_pos s.size with a | a
 ·exfalso; apply h;cases s with | mk d=>congr 1; exact Array.eq_empty_of_size_eq_zero a
 ·exact a
end Go.Sf
namespace Go.Sf.Sc
open Go Go.Sf
def HM (c:Int):Bool:=((decide (97<=c))&&(decide (c<=122)))||((decide (65<=c))&&(decide (c<=90)))
def digitB (c:Int):Bool:=(decide (48<=c))&&(decide (c<=57))
def PK (c:Int):Bool:=HM c||digitB c||decide (c=95)
theorem WY (c:Int):LP c=some (HM c):=rfl
theorem UH (c:Int):Kk c=some (digitB c):=rfl
theorem Wg (c:Int):LD c=some (HM c):=rfl
theorem YD (c:Int):JY c=some (digitB c):=rfl
theorem jF (c:Int):M6 c=some (PK c):=by
 unfold M6 PK;rw [WY,bs,UH];cases HM c <;> cases digitB c <;> rfl
theorem Y1 {s:ByteArray} (f:(s.size:Int)<=4611686018427387904) {ok:Int->ca} {p:Int->Bool} (h:∀ c,ok c=some (p c)):Ib s ok=some (Ln p s):=by
 unfold Ib;rw [OQ (c:=fun i=>(if p (bt s i) then none else some i).map .inl) (a:=0) (b:=s.size) (by omega)]
 ·rw [MX];unfold Ln;cases fst (fun i=>if p (bt s i)=true then none else some i) 0 s.size <;> rfl
 ·intro i e d _;simp only [d,decide_true,if_true,OO e d,bs,h];cases p (bt s i)
  ·simp [cnt]
  ·simp [cnt,BC (show -9223372036854775808<=i+1 by omega) (by omega)]
 ·simp
def HE (s:ByteArray):Bool:=decide (0<s.size)&&HM (bt s 0)&&decide (s.size<=20)&&decide (Ln PK s=s.size)
theorem UG (l:List ByteArray) (v:ByteArray):∃ k,slices_Index_string l v=some k∧(0<=k↔v∈l):=by
 unfold slices_Index_string;rw [CW (fun i=>if (v==AB l i)=true then some i else none)]
 ·cases h:fst (fun i=>if (v==AB l i)=true then some i else none) 0 l.length with
  | none=>
   rw [C0] at h;refine ⟨-1,rfl,by omega,fun e=>?_⟩;obtain ⟨i,a,c,b⟩:=EH e;have:=h i a c;rw [b,d1 (beq_self_eq_true v)] at this;cases this
  | some k=>
   obtain ⟨i,a,c,b,_⟩:=C8 h;have d:(v==AB l i)=true∧i=k:=by
    by_cases hv:(v==AB l i)=true
    ·rw [d1 hv] at b; exact ⟨hv,by simpa using b⟩
    ·rw [d2 hv] at b; cases b
   obtain ⟨d,rfl⟩:=d;refine ⟨i,rfl,fun _=>?_,fun _=>a⟩;rw [eq_of_beq d]; exact AS a c
 ·intro i a c _;simp only [AK a c,bs];split <;> rfl
theorem N8 (l:List ByteArray) (v:ByteArray):slices_Contains_string l v=some (l.contains v):=by
 unfold slices_Contains_string;obtain ⟨k,a,b⟩:=UG l v;rw [a,bs];congr 1;rw [Bool.eq_iff_iff,zzX,b,List.contains_iff_mem]
theorem jD {s:ByteArray} (t:0<s.size) (m:(s.size:Int)<=4611686018427387904):∃ k n e,JS s=some (k,n,e)∧(((decide (e=0))&&(decide (k=1)))&&(decide (n=(s.size:Int))))=HE s:=by
 have z:=RQ PK s;unfold JS HE;simp only [OO (Int.le_refl 0) (show (0:Int)<s.size by omega),bs,WY,UH,Y1 m jF,Y1 m UH,t,decide_true,Bool.true_and];by_cases d:HM (bt s 0)=true
 ·rw [d1 d];by_cases f:20<Ln PK s
  ·refine ⟨0,0,3,by simp [f],?_⟩;simp [d];intro y g;omega
  ·refine ⟨1,_,0,by rw [d2 (by simpa using f)],?_⟩;simp only [d,decide_true,Bool.true_and];rw [Bool.eq_iff_iff];simp only [zzX,zzZ];omega
 ·rw [d2 d];have h:HM (bt s 0)=false:=by simpa using d
  rw [h,Bool.false_and,Bool.false_and];by_cases o:digitB (bt s 0)=true
  ·rw [d1 o];by_cases p:9<Ln digitB s
   ·exact ⟨0,0,3,by simp [p],by simp⟩
   ·exact ⟨2,_,0,by rw [d2 (by simpa using p)],by simp⟩
  ·rw [d2 o];by_cases q:bt s 0=34
   ·have u:=VR (s:=s) (a:=1) (b:=s.size) (by omega) (by omega) (by omega);have i:∀ c,Lb c=some (((decide (32<=c))&&(decide (c<=126)))&&(!decide (c=34))):=fun _=>rfl;have v:=RQ (fun c=>((decide (32<=c))&&(decide (c<=126)))&&(!decide (c=34))) (s.extract (1:Int).toNat (s.size:Int).toNat);have j:∃ n e,H8 s=some (n,e):=by
     unfold H8;rw [Mh (by omega) (by omega) (by omega),bs,Y1 (by omega) i,bs];rw [BC (by omega) (by omega)];by_cases r:1+Ln (fun c=>((decide (32<=c))&&(decide (c<=126)))&&(!decide (c=34))) (s.extract (1:Int).toNat (s.size:Int).toNat)=s.size
     ·refine ⟨0,2,?_⟩;simp only [r,decide_true,if_true,bs]
     ·simp only [r,decide_false,Bool.false_eq_true,if_false];rw [OO (by omega) (by omega)];simp only [bs];split
      ·exact ⟨_,_,rfl⟩
      ·split
       ·exact ⟨_,_,rfl⟩
       ·exact ⟨_,_,rfl⟩
    obtain ⟨n,e,l⟩:=j;refine ⟨3,n,e,by rw [d1 (by simpa using q),l]; rfl,by simp⟩
   ·rw [d2 (by simpa using q)];have w:∃ b,M5 s=some b:=by
     unfold M5;by_cases g:2<=(s.size:Int)
     ·rw [d1 (by simpa using g),Mh (by omega) (by omega) g];simp only [bs,N8];exact ⟨_,rfl⟩
     ·rw [d2 (by simpa using g)];exact ⟨_,rfl⟩
    obtain ⟨b,x⟩:=w;rw [x,bs];cases b
    ·simp only [Bool.false_eq_true,if_false,strings_IndexByte,bs];split
     ·exact ⟨_,_,_,rfl,rfl⟩
     ·exact ⟨_,_,_,rfl,rfl⟩
    ·exact ⟨_,_,_,rfl,rfl⟩
theorem QL {s:ByteArray} (b:(s.size:Int)<=4611686018427387904):FK s=some (HE s):=by
 unfold FK Jd;simp only [show decide ((1:Int)=3)=false from rfl,Bool.false_eq_true,if_false,bs];by_cases a:s=⟨#[]⟩
 ·subst a; rfl
 ·rw [d2 (by simpa using a)];obtain ⟨k,n,e,c,d⟩:=jD (Wu a) b;rw [c];simp only [bs];rw [d]
theorem jR {s:ByteArray} (k:(s.size:Int)<=4611686018427387904) (d:Bool):∃ n,Nl s 0 d=some n∧0<=n∧n<=s.size∧(d=false->n=Ln PK s):=by
 have g:=RQ (fun c=>digitB c||(!d&&(HM c||decide (c=95)))) s;refine ⟨Ln (fun c=>digitB c||(!d&&(HM c||decide (c=95)))) s,?_,g.1,g.2.1,fun h=>?_⟩
 ·unfold Nl;rw [OQ (c:=fun i=>(if (digitB (bt s i)||(!d&&(HM (bt s i)||decide (bt s i=95)))) then none else some i).map .inl) (a:=0) (b:=s.size) (by omega)]
  ·rw [MX];unfold Ln;cases fst (fun i=>if (digitB (bt s i)||(!d&&(HM (bt s i)||decide (bt s i=95))))=true then none else some i) 0 s.size <;> rfl
  ·intro i j f _;have e:A3 (0+i)=i:=by rw [BC (by omega) (by omega)]; omega
   simp only [e,f,decide_true,if_true,OO j f,bs,YD,Wg];cases digitB (bt s i) <;> cases d <;> cases HM (bt s i) <;> cases (decide (bt s i=95)) <;> simp [cnt,BC (show -9223372036854775808<=i+1 by omega) (by omega)]
  ·have e:A3 (0+(s.size:Int))=s.size:=by rw [BC (by omega) (by omega)]; omega
   simp only [e,Int.lt_irrefl,decide_false,Bool.false_eq_true,if_false,bs]
 ·subst h;congr 1;funext c;unfold PK;cases HM c <;> cases digitB c <;> cases decide (c=95) <;> rfl
theorem cX {s:ByteArray} (j:0<s.size) (k:(s.size:Int)<=4611686018427387904):∃ n,LE s 0=some n∧(n=0∨(2<=n∧n<=s.size)):=by
 unfold LE;rw [OQ (c:=fun i=>if decide (bt s i=34)=true then some (Sum.inr (i+1):Int ⊕ Int) else if (decide (bt s i<32)||decide (126<bt s i))=true then some (Sum.inr 0) else none) (a:=1) (b:=s.size) (by omega)]
 ·cases h:fst (fun i=>if decide (bt s i=34)=true then some (Sum.inr (i+1):Int ⊕ Int) else if (decide (bt s i<32)||decide (126<bt s i))=true then some (Sum.inr 0) else none) 1 s.size with
  | none=>exact ⟨0,rfl,.inl rfl⟩
  | some r=>
   obtain ⟨i,g,e,d,_⟩:=C8 h;split at d
   ·cases d; exact ⟨_,rfl,.inr (by omega)⟩
   ·split at d
    ·cases d; exact ⟨_,rfl,.inl rfl⟩
    ·cases d
 ·intro i g e _;have f:A3 (0+i)=i:=by rw [BC (by omega) (by omega)]; omega
  simp only [f,e,decide_true,if_true,OO (show 0<=i by omega) e,bs,BC (show -9223372036854775808<=i+1 by omega) (by omega)];split
  ·rfl
  ·split <;> rfl
 ·have f:A3 (0+(s.size:Int))=s.size:=by rw [BC (by omega) (by omega)]; omega
  simp only [f,Int.lt_irrefl,decide_false,Bool.false_eq_true,if_false]
theorem qF {s:ByteArray} (I:0<s.size) (J:(s.size:Int)<=4611686018427387904):∃ t n e,Nk s 0=some (t,n,e)∧(((decide (e=0))&&(decide (n=(s.size:Int))))&&(decide (t.Kind=1)))=HE s:=by
 obtain ⟨m,G,l,o,H⟩:=jR J (digitB (bt s 0));unfold Nk HE;simp only [OO (Int.le_refl 0) (show (0:Int)<s.size by omega),bs,Wg,YD,I,decide_true,Bool.true_and,G];have K:A3 (0+m)=m:=by rw [BC (by omega) (by omega)]; omega
 by_cases u:HM (bt s 0)=true
 ·have j:digitB (bt s 0)=false:=by
   unfold HM at u; unfold digitB;simp only [Bool.or_eq_true,zzZ,zzX] at u;rw [Bool.and_eq_false_iff];simp only [decide_eq_false_iff_not];omega
  have P:=H j;subst P;simp only [u,if_true,j,Bool.false_eq_true,if_false,bs,K];by_cases k:20<Ln PK s
  ·refine ⟨_,_,_,by rw [d1 (by simpa using k)],?_⟩;rw [Bool.eq_iff_iff];simp only [zzX,zzZ];omega
  ·rw [d2 (by simpa using k),Mh (Int.le_refl _) l o];refine ⟨_,_,_,rfl,?_⟩;rw [Bool.eq_iff_iff];simp only [zzX,zzZ,true_and,and_true];omega
 ·have B:HM (bt s 0)=false:=by simpa using u
  simp only [B,Bool.false_eq_true,if_false,bs,Bool.false_and,K];by_cases j:digitB (bt s 0)=true
  ·simp only [j,if_true,bs];by_cases M:9<m
   ·exact ⟨_,_,_,by rw [d1 (by simpa using M)],by simp⟩
   ·rw [d2 (by simpa using M),Mh (Int.le_refl _) l o];exact ⟨_,_,_,rfl,by simp⟩
  ·have C:digitB (bt s 0)=false:=by simpa using j
   simp only [C,Bool.false_eq_true,if_false,bs];by_cases N:bt s 0=34
   ·obtain ⟨n,T,p⟩:=cX I J;rw [d1 (by simpa using N),T,bs];rcases p with rfl | p
    ·exact ⟨_,_,_,rfl,by simp⟩
    ·rw [d2 (by simp; omega)];split
     ·exact ⟨_,_,_,rfl,by simp⟩
     ·have Q:A3 (0+1)=1:=by decide
      have R:A3 (0+n)=n:=by rw [BC (by omega) (by omega)]; omega
      rw [Q,R,BC (show -9223372036854775808<=n - 1 by omega) (by omega),Mh (by omega) (by omega) (by omega)];exact ⟨_,_,_,rfl,by simp⟩
   ·rw [d2 (by simpa using N)];unfold Na;rw [bs];generalize S:([(⟨#[45,62]⟩:ByteArray),(⟨#[60,61]⟩:ByteArray),(⟨#[62,61]⟩:ByteArray),(⟨#[61,61]⟩:ByteArray),(⟨#[33,61]⟩:ByteArray),(⟨#[123]⟩:ByteArray),(⟨#[125]⟩:ByteArray),(⟨#[40]⟩:ByteArray),(⟨#[41]⟩:ByteArray),(⟨#[91]⟩:ByteArray),(⟨#[93]⟩:ByteArray),(⟨#[44]⟩:ByteArray),(⟨#[59]⟩:ByteArray),(⟨#[58]⟩:ByteArray),(⟨#[61]⟩:ByteArray),(⟨#[43]⟩:ByteArray),(⟨#[45]⟩:ByteArray),(⟨#[42]⟩:ByteArray),(⟨#[60]⟩:ByteArray),(⟨#[62]⟩:ByteArray),(⟨#[33]⟩:ByteArray),(⟨#[38]⟩:ByteArray),(⟨#[124]⟩:ByteArray),(⟨#[46]⟩:ByteArray),(⟨#[63]⟩:ByteArray)]:List ByteArray)=L;have D:∀ x∈L,x.size<=2:=by subst S; decide
    rcases V3 (f:=(fun (d:Int) (O:GK)=>
      (AL L d).bind fun v=>
      (if (decide ((A3 (0+(v.size:Int)))<=(s.size:Int)))=true then ((AL L d).bind fun w=>
      (sslc s 0 (A3 (0+(w.size:Int)))).bind fun y=>
      (AL L d).bind fun z=>
      some (y==z)) else some false).bind fun A=>
      if A=true then
      (AL L d).bind fun g=>
      (AL L d).bind fun h=>
      some (C2.ret (GK.mk 4 g 0,(h.size:Int),(0:Int)))
      else
      some (C2.next O))) (fun _ s=>True) (fun _=>True) (fun r=>r.1.Kind=4) (a:=0) (b:=L.length) (s:=GK.mk 0 (⟨#[]⟩:ByteArray) 0) (by omega) trivial (fun i t c q _=>by
      have U:=D _ (AS c q);have E:A3 (0+((AB L i).size:Int))=(AB L i).size:=by rw [BC (by omega) (by omega)]; omega
      simp only [AK c q,bs,E];by_cases F:((AB L i).size:Int)<=s.size
      ·rw [d1 (by simpa using F),Mh (by omega) (by omega) F];simp only [bs];split
       ·exact .inr (.inr ⟨_,rfl,rfl⟩)
       ·exact .inl ⟨_,rfl,trivial⟩
      ·rw [d2 (by simpa using F)];simp only [bs];exact .inl ⟨_,rfl,trivial⟩) with ⟨s',c,_⟩ | ⟨r,c,q⟩
    ·rw [c]; exact ⟨_,_,_,rfl,by simp⟩
    ·rw [c]; exact ⟨_,_,_,rfl,by simp [q]⟩
theorem QN {s:ByteArray} (b:(s.size:Int)<=4611686018427387904):H3 s=some (HE s):=by
 unfold H3 NZ OG;simp only [show decide ((1:Int)=3)=false from rfl,Bool.false_eq_true,if_false,bs];by_cases a:s=⟨#[]⟩
 ·subst a; rfl
 ·rw [d2 (by simpa using a)];obtain ⟨t,n,e,c,d⟩:=qF (Wu a) b;rw [c];simp only [bs];rw [d]
end Go.Sf.Sc
namespace Go.Sf
variable {ρ β:Type}
def nz (e:Int):dD:=if e=0 then none else some e
theorem Ph (e:Int):(if (!decide (e=0))=true then some (C2.ret e) else some (C2.next ()))=some (PT (nz e)):=by
 unfold nz;by_cases h:e=0 <;> simp [h,PT]
theorem iN (b:Bool) (r:ρ):(if b=true then some (C2.ret r) else some (C2.next ()))=some (PT (if b=true then some r else none)):=by
 cases b <;> rfl
theorem D5 {σ:Type} {s:σ} {k:σ->Option β} {a:ρ->Option β}:thenR (some (.inl s)) k a=k s:=rfl
theorem VG {σ:Type} {r:ρ} {k:σ->Option β} {a:ρ->Option β}:thenR (some (.inr r)) k a=a r:=rfl
theorem GA (o:Option ρ) (k:Unit->Option β) (a:ρ->Option β):thenR (some (di o)) k a=match o with | none=>k () | some r=>a r:=by
 cases o <;> rfl
theorem HL (o:dD):thenR (some (di o)) (fun _=>some 0) (fun v=>some v)=some (o.getD 0):=by
 cases o <;> rfl
theorem TO {c:Int->Int} {a b:Int} (h:(fst (fun i=>nz (c i)) a b).getD 0=0):∀ i,a<=i->i<b->c i=0:=by
 have:fst (fun i=>nz (c i)) a b=none:=by
  cases e:fst (fun i=>nz (c i)) a b with
  | none=>rfl
  | some r=>
   rw [e] at h;simp only [Option.getD] at h;subst h;obtain ⟨i,_,_,d,_⟩:=C8 e;unfold nz at d;split at d
   ·cases d
   ·rename_i f; simp at d; exact (f d).elim
 rw [C0] at this;intro i g j;have:=this i g j;unfold nz at this;split at this
 ·assumption
 ·cases this
theorem Mb {e:Int}:nz e=none↔e=0:=by
 unfold nz;by_cases h:e=0 <;> simp [h]
theorem WB {α:Type} [Inhabited α] {l:List α} {f:α->ca} {p:α->Bool} (h:∀ x∈l,f x=some (p x)) :
  (thenR (forR (ρ:=Int) (fun (c:Int) (_:Unit)=>(AL l c).bind fun a=>(f a).bind fun b=>if b=true then some (.ret c) else some (.next ())) 0 (l.length:Int) ()) (fun _=>some (-1)) (fun g=>some g)) =
   some ((fst (fun i=>if p (AB l i)=true then some i else none) 0 l.length).getD (-1)):=by
 rw [CW (fun i=>if p (AB l i)=true then some i else none)]
 ·rw [GA]; cases fst (fun i=>if p (AB l i)=true then some i else none) 0 l.length <;> rfl
 ·intro i d e _;rw [AK d e,bs,h _ (AS d e),bs,iN]
theorem Up {α:Type} [Inhabited α] {l:List α} {p:α->Bool}:decide (0<=(fst (fun i=>if p (AB l i)=true then some i else none) 0 l.length).getD (-1))=l.any p:=by
 rw [Jo,anyR];cases h:fst (fun i=>if p (AB l i)=true then some i else none) 0 l.length with
 | none=>
  rw [C0] at h;symm;show Option.isSome _=false;rw [Option.isSome_eq_false_iff,Option.isNone_iff_eq_none,C0];intro i b c;have:=h i b c;by_cases d:p (AB l i)=true
  ·rw [d1 d] at this; cases this
  ·rw [d2 d]
 | some k=>
  obtain ⟨i,b,c,a,_⟩:=C8 h;have f:p (AB l i)=true∧i=k:=by
   by_cases hv:p (AB l i)=true
   ·rw [d1 hv] at a; exact ⟨hv,by simpa using a⟩
   ·rw [d2 hv] at a; cases a
  simp only [Option.getD];rw [decide_eq_true (show (0:Int)<=k by omega)];symm;show Option.isSome _=true;rw [Option.isSome_iff_ne_none,ne_eq,C0];intro e;have:=e i b c;rw [d1 f.1] at this;cases this
theorem G3 {α:Type} [Inhabited α] {l:List α} {f:α->ca} {p:α->Bool} (h:∀ x∈l,f x=some (p x)) :
  ((thenR (forR (ρ:=Int) (fun (c:Int) (_:Unit)=>(AL l c).bind fun a=>(f a).bind fun b=>if b=true then some (.ret c) else some (.next ())) 0 (l.length:Int) ()) (fun _=>some (-1)) (fun d=>some d)).bind fun e=>some (decide (0<=e)))=some (l.any p):=by
 rw [WB h,bs,Up]
end Go.Sf
namespace Go.Sf.Sc
open Go Go.Sf
instance:Inhabited Attr:=⟨⟨⟨#[]⟩,0,0,[]⟩⟩
instance:Inhabited CU:=⟨⟨⟨#[]⟩,0,false,[]⟩⟩
instance:Inhabited DD:=⟨⟨⟨#[]⟩,0,0,0,0,0,0⟩⟩
instance:Inhabited DK:=⟨⟨0,0,0⟩⟩
instance:Inhabited EG:=⟨⟨0,0,⟨0,0⟩⟩⟩
instance:Inhabited Test:=⟨⟨0,⟨0,0⟩,⟨0,0⟩⟩⟩
instance:Inhabited AA:=⟨⟨0,[],⟨[],[]⟩,⟨⟨[],[]⟩,[],0,[]⟩⟩⟩
theorem Vm {l:Ne} {f:Int->ca} {p:Int->Bool} (h:∀ x∈l,f x=some (p x)):B0 l f=some (l.any p):=G3 h
theorem Xj {l:List DK} {f:DK->ca} {p:DK->Bool} (h:∀ x∈l,f x=some (p x)):CD l f=some (l.any p):=G3 h
theorem Vl {l:List AA} {f:AA->ca} {p:AA->Bool} (h:∀ x∈l,f x=some (p x)):B1 l f=some (l.any p):=G3 h
theorem XI {l:List CU} {p:CU->Bool}:DA l (fun x=>some (p x))=some (l.any p):=G3 (fun _ _=>rfl)
theorem XH {l:List DD} {p:DD->Bool}:C9 l (fun x=>some (p x))=some (l.any p):=G3 (fun _ _=>rfl)
theorem e9 {l:List Attr} {p:Attr->Bool}:DX l (fun x=>some (p x))=some (l.any p):=G3 (fun _ _=>rfl)
theorem Zq {l:Ne} {p:Int->Bool}:B0 l (fun x=>some (p x))=some (l.any p):=G3 (fun _ _=>rfl)
theorem fA {l:List DK} {p:DK->Bool}:CD l (fun x=>some (p x))=some (l.any p):=G3 (fun _ _=>rfl)
theorem fB {l:List EG} {p:EG->Bool}:DY l (fun x=>some (p x))=some (l.any p):=G3 (fun _ _=>rfl)
theorem ia (l:Ne) (v:Int):slices_Index_int l v=some ((fst (fun i=>if decide (v=AB l i)=true then some i else none) 0 l.length).getD (-1)):=by
 have:=WB (l:=l) (f:=fun x=>some (decide (v=x))) (p:=fun x=>decide (v=x)) (fun _ _=>rfl);unfold slices_Index_int;simpa only [bs] using this
theorem TC (l:Ne) (v:Int):slices_Contains_int l v=some (l.any fun x=>decide (v=x)):=by
 unfold slices_Contains_int;rw [ia,bs,Up (p:=fun x=>decide (v=x))]
theorem fE (l:d0) (v:Bool):HK l v=some (l.any fun x=>v==x):=by
 have:=G3 (l:=l) (f:=fun x=>some (v==x)) (p:=fun x=>v==x) (fun _ _=>rfl);unfold HK Jh;simpa only [bs] using this
structure Qm (a:Attr):Prop where
 name:(a.Name.size:Int)<=40
 names:a.Names.length<=25
 each:∀ x∈a.Names,(x.size:Int)<=40
structure BX (t:AC):Prop where
 nodes:t.Nodes.length<=20
 edges:t.Edges.length<=30
 name:∀ n∈t.Nodes,(n.Name.size:Int)<=40
 attrs:∀ n∈t.Nodes,n.Attrs.length<=30
 each:∀ n∈t.Nodes,∀ a∈n.Attrs,Qm a
 ename:∀ e∈t.Edges,(e.Name.size:Int)<=40
def par (t:AC) (i:Int):Int:=(AB t.Nodes i).Parent
def G1 (t:AC) (k:Int):Prop:=∀ i,0<=i->i<k->-1<=par t i∧par t i<i
def C5 (t:AC):Nat->Int->List Attr
 | 0,_=>[]
 | n+1,a=>if a<0 then [] else C5 t n (par t a)++(AB t.Nodes a).Attrs
def BQ (t:AC) (a:Int):List Attr:=C5 t (a+1).toNat a
theorem JE {t:AC} {n:Nat} {a:Int} (h:a<0):C5 t n a=[]:=by
 cases n with
 | zero=>rfl
 | succ n=>rw [C5,d1 h]
theorem MW {t:AC} {k:Int} (c:G1 t k):∀ (n m:Nat) (a:Int),a<k->a<n->a<m->C5 t n a=C5 t m a
 | n,m,a,d,e,f=>by
  by_cases b:a<0
  ·rw [JE b,JE b]
  ·cases n with
   | zero=>omega
   | succ n=>
    cases m with
    | zero=>omega
    | succ m=>
     rw [C5,C5,d2 b,d2 b];have:=c a (by omega) d;rw [MW c n m (par t a) (by omega) (by omega) (by omega)]
theorem Mj {t:AC} (b:BX t) {k:Int} (d:k<=t.Nodes.length) (c:G1 t k):∀ (n:Nat) (a:Int),a<k->((C5 t n a).length:Int)<=30*n
 | 0,_,_=>by simp [C5]
 | n+1,a,e=>by
  rw [C5];split
  ·simp; omega
  ·rename_i f;have g:=c a (by omega) e;have h:=Mj b d c n (par t a) (by omega);have i:=b.attrs _ (AS (l:=t.Nodes) (show 0<=a by omega) (by omega));rw [d4];omega
theorem S4 {t:AC} (c:BX t) {k:Int} (e:k<=t.Nodes.length) (d:G1 t k):∀ (n:Nat) (a:Int),a<k->∀ x∈C5 t n a,Qm x
 | 0,_,_=>by simp [C5]
 | n+1,a,f=>by
  rw [C5];split
  ·simp
  ·rename_i g;have h:=d a (by omega) f;intro x b;rcases List.mem_append.1 b with b | b
   ·exact S4 c e d n (par t a) (by omega) x b
   ·exact c.each _ (AS (l:=t.Nodes) (show 0<=a by omega) (by omega)) x b
theorem Mm {t:AC} (b:BX t) {k a:Int} (c:k<=t.Nodes.length) (d:G1 t k) (e:a<k):(BQ t a).length<=600:=by
 have:=Mj b c d (a+1).toNat a e;have:=b.nodes;unfold BQ;omega
theorem Mk {t:AC} (b:BX t) {k a:Int} (c:k<=t.Nodes.length) (d:G1 t k) (e:a<k):∀ x∈BQ t a,Qm x:=S4 b c d _ a e
theorem WV {t:AC} (d:BX t) {k:Int} (g:k<=t.Nodes.length) (f:G1 t k):∀ (n:Nat) (a:Int),0<=a->a<k->a<n->EI n t a=some (C5 t n a)
 | 0,_,_,_,_=>by omega
 | n+1,a,i,q,v=>by
  have r:=f a (by omega) q;have j:=Mj d g f n (par t a) (by omega);have s:=d.attrs _ (AS (l:=t.Nodes) i (by omega));have u:=d.nodes;rw [EI,C5,d2 (by omega),AK i (by omega)];simp only [bs];show ((if decide (0<=par t a)=true then (EI n t (par t a)).bind fun c=>some c else some []).bind _)=_;have e:(if decide (0<=par t a)=true then (EI n t (par t a)).bind fun c=>some c else some [])=some (C5 t n (par t a)):=by
   by_cases h:0<=par t a
   ·rw [d1 (by simpa using h),WV d g f n (par t a) h (by omega) (by omega)]; rfl
   ·rw [d2 (by simpa using h),JE (by omega)]
  have m:(C5 t n (par t a)).length+(AB t.Nodes a).Attrs.length<=BS:=by
   unfold BS;have:((C5 t n (par t a)).length:Int)<=30*n:=j;have o:C5 t n (par t a)=C5 t 20 (par t a):=by
    by_cases b:par t a<0
    ·rw [JE b,JE b]
    ·exact MW f n 20 (par t a) (by omega) (by omega) (by omega)
   have p:=Mj d g f 20 (par t a) (by omega);rw [←o] at p;omega
  rw [e,bs,CC m];rfl
theorem X4 {t:AC} (d:BX t) {k:Int} (e:k<=t.Nodes.length) (b:G1 t k) {a:Int} (f:0<=a) (c:a<k):Kl t a=some (BQ t a):=
 FV (a+1).toNat fun n g=>by
  rw [WV d e b n a f c (by omega),BQ,MW b n (a+1).toNat a c (by omega) (by omega)]
theorem Wb {t:AC} (c:BX t) {k:Int} (e:k<=t.Nodes.length) (d:G1 t k):∀ (n:Nat) (a:Int),-1<=a->a<k->a+1<n->H5 n t a=some (C5 t n a)
 | 0,_,_,_,_=>by omega
 | n+1,a,p,i,q=>by
  rw [H5,C5];by_cases b:a<0
  ·rw [d1 (by simpa using b),d1 b]
  ·have j:=d a (by omega) i;have m:=c.attrs _ (AS (l:=t.Nodes) (show 0<=a by omega) (by omega));have o:=c.nodes;rw [d2 (by simpa using b),d2 b,AK (by omega) (by omega)];simp only [bs];have f:C5 t n (par t a)=C5 t 20 (par t a):=by
    by_cases b:par t a<0
    ·rw [JE b,JE b]
    ·exact MW d n 20 (par t a) (by omega) (by omega) (by omega)
   have g:=Mj c e d 20 (par t a) (by omega);rw [←f] at g;have h:(C5 t n (par t a)).length+(AB t.Nodes a).Attrs.length<=BS:=by unfold BS; omega
   rw [show (AB t.Nodes a).Parent=par t a from rfl,Wb c e d n (par t a) (by omega) (by omega) (by omega),bs,CC (by simp; unfold BS; omega)];simp only [bs,List.nil_append];rw [CC h]; rfl
theorem YB {t:AC} (d:BX t) {k:Int} (e:k<=t.Nodes.length) (b:G1 t k) {a:Int} (f:0<=a) (c:a<k):Nb t a=some (BQ t a):=
 FV (a+2).toNat fun n g=>by
  rw [Wb d e b n a (by omega) c (by omega),BQ,MW b n (a+1).toNat a c (by omega) (by omega)]
end Go.Sf.Sc
namespace Go.Sf.Sc
open Go Go.Sf
def Ju (l:List ByteArray):Int:=
 if (20:Int)<l.length then 3 else (fst (fun i=>if HE (AB l i)=false then some 2 else if anyR (fun j=>AB l j==AB l i) 0 i=true then some 5 else none) 0 l.length).getD 0
theorem Vq {l:List ByteArray} {x:ByteArray} {b:Int} (a:0<=b) (c:b<=l.length):(l.take b.toNat).contains x=anyR (fun j=>AB l j==x) 0 b:=by
 rw [List.contains_eq_any_beq,Pu a c];exact S3 (fun i _ _=>by rw [Bool.beq_comm])
theorem fi {l:List ByteArray} (d:∀ x∈l,(x.size:Int)<=40):Ie l=some (Ju l):=by
 unfold Ie Ju;by_cases a:(20:Int)<l.length
 ·rw [d1 (by simpa using a),d1 a]
 ·rw [d2 (by simpa using a),d2 a];rw [CW (fun i=>if HE (AB l i)=false then some 2 else if anyR (fun j=>AB l j==AB l i) 0 i=true then some 5 else none),HL];intro i b c _;have e:=d _ (AS b c);rw [AK b c,bs,QL (by omega),bs,NR b (by omega)];simp only [bs,N8,Vq b (show i<=l.length by omega)];cases HE (AB l i) <;> cases anyR (fun j=>AB l j==AB l i) 0 i <;> rfl
theorem fy {l:List ByteArray} (d:∀ x∈l,(x.size:Int)<=40):L3 l=some (Ju l):=by
 unfold L3 Ju;by_cases a:(20:Int)<l.length
 ·rw [d1 (by simpa using a),d1 a]
 ·rw [d2 (by simpa using a),d2 a];rw [CW (fun i=>if HE (AB l i)=false then some 2 else if anyR (fun j=>AB l j==AB l i) 0 i=true then some 5 else none),HL];intro i b c _;have g:=d _ (AS b c);rw [AK b c,bs,QN (by omega),bs,CP (fun j=>AB l j==AB l i) 5]
  ·cases HE (AB l i) <;> cases anyR (fun j=>AB l j==AB l i) 0 i <;> rfl
  ·intro j e f _;rw [AK e (by omega),bs,bs];split <;> rfl
def MD (all:List Attr) (k:Int):Int:=
 let x:=AB all k
 if HE x.Name=false then 2 else if anyR (fun j=>(AB all j).Name==x.Name) 0 k=true then 5 else
 if x.Names.length=0 then (if -1000000<=x.Low∧x.Low<=x.High∧x.High<=1000000 then 0 else 6) else
 if Ju x.Names≠0 then Ju x.Names else if x.Low=0∧x.High=x.Names.length - 1 then 0 else 6
theorem XU {all:List Attr} (d:∀ x∈all,Qm x) {k:Int} (c:0<=k) (f:k<all.length):GB (AB all k) (all.take k.toNat)=some (MD all k):=by
 have b:=d _ (AS c f);have l:=b.name;unfold GB MD;dsimp only;rw [QL (by omega),bs,show (fun a=>Ji a (AB all k))=(fun a=>some (a.Name==(AB all k).Name)) from rfl,e9,bs,Pu c (by omega),fi b.each,bs];have g:=b.names;have i:A3 ((AB all k).Names.length - 1)=(AB all k).Names.length - 1:=BC (by omega) (by omega);rw [i];have j:(AB all k).Names.length=0->Ju (AB all k).Names=0:=fun h=>by rw [List.eq_nil_of_length_eq_zero h]; rfl
 generalize Ju (AB all k).Names=e at j ⊢;simp only [bs,zzX,Bool.or_eq_true,zzZ,Bool.not_eq_true',decide_eq_false_iff_not,Bool.not_eq_false',Bool.or_eq_false_iff,Bool.and_eq_false_iff,ne_eq]
 repeat' (first | rfl | (exfalso; omega; done) | split)
 all_goals (first | rfl | (exfalso; omega) | omega | simp_all | (simp_all; omega))
theorem XW {x:Attr} (a:Qm x):JN x=some (
 if x.Names.length=0 then (if -1000000<=x.Low∧x.Low<=x.High∧x.High<=1000000 then 0 else 6) else
 if Ju x.Names≠0 then Ju x.Names else if x.Low=0∧x.High=x.Names.length - 1 then 0 else 6):=by
 have b:=a.names;have c:A3 (x.Names.length - 1)=x.Names.length - 1:=BC (by omega) (by omega);unfold JN E0;simp only [bs,c,fy a.each];generalize Ju x.Names=e;simp only [bs,zzX,Bool.or_eq_true,zzZ,Bool.not_eq_true',decide_eq_false_iff_not,Bool.not_eq_false',Bool.or_eq_false_iff,Bool.and_eq_false_iff,ne_eq]
 repeat' (first | rfl | (exfalso; omega; done) | split)
 all_goals (first | rfl | (exfalso; omega) | omega | simp_all | (simp_all; omega))
def I1 (t:AC) (i:Int):Int:=
 let n:=AB t.Nodes i
 if HE n.Name=false then 2 else if anyR (fun j=>(AB t.Nodes j).Name==n.Name) 0 i=true then 5 else
 if n.Parent < -1∨i<=n.Parent then 6 else if 4<n.Attrs.length∨8<(BQ t i).length then 3 else
 (fst (fun k=>nz (MD (BQ t i) k)) ((BQ t i).length - n.Attrs.length) (BQ t i).length).getD 0
theorem S7 {t:AC} {i:Int} (a:0<=i):(AB t.Nodes i).Attrs.length<=(BQ t i).length:=by
 unfold BQ;rw [show (i+1).toNat=i.toNat+1 by omega,C5,d2 (by omega),d4];omega
theorem G1.next {t:AC} {i:Int} (h:G1 t i) (a:-1<=par t i) (b:par t i<i):G1 t (i+1):=by
 intro j c e;by_cases d:j=i
 ·subst d; exact ⟨a,b⟩
 ·exact h j c (by omega)
theorem jE {t:AC} (f:BX t) {i:Int} (c:0<=i) (l:i<t.Nodes.length) (p:G1 t i):JV t i=some (I1 t i):=by
 have r:=f.name _ (AS c l);unfold JV I1;dsimp only;rw [AK c l,bs,QL (by omega),bs,NR c (by omega),bs,show (fun g=>M8 g (AB t.Nodes i))=(fun g=>some (g.Name==(AB t.Nodes i).Name)) from rfl,XI,bs,Pu c (by omega)];cases HE (AB t.Nodes i).Name
 ·rfl
 ·cases anyR (fun j=>(AB t.Nodes j).Name==(AB t.Nodes i).Name) 0 i
  ·by_cases d:(AB t.Nodes i).Parent < -1∨i<=(AB t.Nodes i).Parent
   ·rcases d with d | d <;> simp [d]
   ·have b:G1 t (i+1):=p.next (by unfold par; omega) (by unfold par; omega)
    have h:(decide ((AB t.Nodes i).Parent < -1)||decide (i<=(AB t.Nodes i).Parent))=false:=by
     rw [Bool.eq_false_iff]; simpa using d
    rw [X4 f (k:=i+1) (by omega) b c (by omega),bs];have n:=Mm f (k:=i+1) (a:=i) (by omega) b (by omega);have o:=S7 (t:=t) c;have e:=Mk f (k:=i+1) (a:=i) (by omega) b (by omega);rw [BC (by omega) (by omega),CW (fun k=>nz (MD (BQ t i) k)),HL]
    ·simp only [h,d,Bool.not_true,Bool.false_eq_true,if_false];simp only [bs,zzX,Bool.or_eq_true,zzZ,Bool.not_eq_true',decide_eq_false_iff_not,Bool.not_eq_false',Bool.or_eq_false_iff,Bool.and_eq_false_iff,ne_eq]
     repeat' (first | rfl | (exfalso; omega; done) | split)
     all_goals (first | rfl | (exfalso; omega) | omega | simp_all | (simp_all; omega))
    ·intro k q m _;rw [AK (by omega) m,bs,NR (by omega) (by omega),bs,XU e (by omega) m,bs,Ph]
  ·rfl
theorem jQ {t:AC} (c:BX t) {i:Int} (e:0<=i) (g:i<t.Nodes.length) (p:G1 t i):Mz t i=some (I1 t i):=by
 have u:=c.name _ (AS e g);have v:=c.nodes;unfold Mz I1 E0;dsimp only;rw [AK e g,bs,QN (by omega),bs,CP (fun j=>(AB t.Nodes j).Name==(AB t.Nodes i).Name) 5]
 ·cases HE (AB t.Nodes i).Name
  ·rfl
  ·cases anyR (fun j=>(AB t.Nodes j).Name==(AB t.Nodes i).Name) 0 i
   ·simp only [Bool.not_true,Bool.false_eq_true,if_false,D5,bs];rw [BC (by omega) (by omega)];by_cases l:(AB t.Nodes i).Parent < -1∨i<=(AB t.Nodes i).Parent
    ·rw [d1,d2 (by decide),d1 l];simp; omega
    ·have b:G1 t (i+1):=p.next (by unfold par; omega) (by unfold par; omega)
     rw [d2 (by simp; omega),d2 (by decide),d2 l];rw [YB c (k:=i+1) (by omega) b e (by omega),bs];have m:=Mm c (k:=i+1) (a:=i) (by omega) b (by omega);have n:=S7 (t:=t) e;have d:=Mk c (k:=i+1) (a:=i) (by omega) b (by omega);rw [BC (by omega) (by omega)];rw [CW (fun k=>nz (MD (BQ t i) k)),HL]
     ·simp only [bs,zzX,Bool.or_eq_true,zzZ,Bool.not_eq_true',decide_eq_false_iff_not,Bool.not_eq_false',Bool.or_eq_false_iff,Bool.and_eq_false_iff,ne_eq]
      repeat' (first | rfl | (exfalso; omega; done) | split)
      all_goals (first | rfl | (exfalso; omega) | omega | simp_all | (simp_all; omega))
     ·intro k h f _;have o:=d _ (AS (show 0<=k by omega) f);have r:=o.name;simp only [AK (show 0<=k by omega) f,bs];rw [QN (by omega),bs,CP (fun j=>(AB (BQ t i) j).Name==(AB (BQ t i) k).Name) 5]
      ·rw [XW o];simp only [bs,Ph];unfold MD;dsimp only;cases HE (AB (BQ t i) k).Name
       ·rfl
       ·cases anyR (fun j=>(AB (BQ t i) j).Name==(AB (BQ t i) k).Name) 0 k <;> rfl
      ·intro j q s _;rw [AK q (by omega),bs];split <;> rfl
   ·rfl
 ·intro j h f _;rw [AK h (by omega),bs];split <;> rfl
def Mn (low high:Int):Bool:=((decide (0<=low))&&(decide (low<=40)))&&((decide (high=(-1)))||((decide (low<=high))&&(decide (high<=40))))
theorem fu (low high:Int):Kd low high=some (Mn low high):=by
 unfold Kd Mn E0;simp only [bs];cases (decide (0<=low)&&decide (low<=40)) <;> cases decide (high=-1) <;> rfl
def Jg (t:AC) (i:Int):Int:=
 let x:=AB t.Edges i
 if HE x.Name=false then 2 else if anyR (fun j=>(AB t.Edges j).Name==x.Name) 0 i=true then 5 else
 if (0<=x.From∧x.From<t.Nodes.length)∧(0<=x.To∧x.To<t.Nodes.length)∧Mn x.OutLow x.OutHigh=true∧Mn x.InLow x.InHigh=true then 0 else 6
theorem i7 {t:AC} (h:BX t) {i:Int} (c:0<=i) (g:i<t.Edges.length):JU t i=some (Jg t i):=by
 have k:=h.ename _ (AS c g);unfold JU Jg LQ;dsimp only;rw [AK c g,bs,QL (by omega),bs,NR c (by omega),bs,show (fun e=>M7 e (AB t.Edges i))=(fun e=>some (e.Name==(AB t.Edges i).Name)) from rfl,XH,bs,Pu c (by omega)];simp only [show ∀ a b,KX a b=some (Mn a b) from fun _ _=>rfl,bs];generalize HE (AB t.Edges i).Name=b1;generalize anyR (fun j=>(AB t.Edges j).Name==(AB t.Edges i).Name) 0 i=b2;generalize Mn (AB t.Edges i).OutLow (AB t.Edges i).OutHigh=b3;generalize Mn (AB t.Edges i).InLow (AB t.Edges i).InHigh=b4;cases b1
 ·rfl
 ·cases b2
  ·cases b3 <;> cases b4
   all_goals
    by_cases d:0<=(AB t.Edges i).From∧(AB t.Edges i).From<t.Nodes.length
    ·by_cases f:0<=(AB t.Edges i).To∧(AB t.Edges i).To<t.Nodes.length
     ·simp [d,f]
     ·have:(decide (0<=(AB t.Edges i).To)&&decide ((AB t.Edges i).To<t.Nodes.length))=false:=by rw [Bool.eq_false_iff]; simpa using f
      simp [d,f,this]
    ·have:(decide (0<=(AB t.Edges i).From)&&decide ((AB t.Edges i).From<t.Nodes.length))=false:=by rw [Bool.eq_false_iff]; simpa using d
     simp [d,this]
  ·rfl
theorem jM {t:AC} (d:BX t) {i:Int} (e:0<=i) (f:i<t.Edges.length):My t i=some (Jg t i):=by
 have l:=d.ename _ (AS e f);have m:=d.nodes;unfold My Jg E0;dsimp only;rw [AK e f,bs,QN (by omega),bs,CP (fun j=>(AB t.Edges j).Name==(AB t.Edges i).Name) 5]
 ·simp only [BC (show -9223372036854775808<=(t.Nodes.length:Int) - 1 by omega) (by omega),fu,bs];generalize HE (AB t.Edges i).Name=b1;generalize anyR (fun j=>(AB t.Edges j).Name==(AB t.Edges i).Name) 0 i=b2;generalize Mn (AB t.Edges i).OutLow (AB t.Edges i).OutHigh=b3;generalize Mn (AB t.Edges i).InLow (AB t.Edges i).InHigh=b4;cases b1
  ·rfl
  ·cases b2
   ·cases b3 <;> cases b4
    all_goals
     by_cases b:0<=(AB t.Edges i).From∧(AB t.Edges i).From<t.Nodes.length
     ·have a:(AB t.Edges i).From<=(t.Nodes.length:Int) - 1:=by omega
      by_cases g:0<=(AB t.Edges i).To∧(AB t.Edges i).To<t.Nodes.length
      ·have c:(AB t.Edges i).To<=(t.Nodes.length:Int) - 1:=by omega
       simp [b,g,a,c,D5]
      ·have:(decide (0<=(AB t.Edges i).To)&&decide ((AB t.Edges i).To<=(t.Nodes.length:Int) - 1))=false:=by rw [Bool.eq_false_iff]; simp; omega
       simp [b,g,a,this,D5]
     ·have:(decide (0<=(AB t.Edges i).From)&&decide ((AB t.Edges i).From<=(t.Nodes.length:Int) - 1))=false:=by rw [Bool.eq_false_iff]; simp; omega
      simp [b,this,D5]
   ·rfl
 ·intro j h k _;rw [AK h (by omega),bs];split <;> rfl
def BF (t:AC):ByteArray × Int:=
 if t.Nodes.length=0 then (⟨#[]⟩,7) else if 12<t.Nodes.length∨20<t.Edges.length then (⟨#[]⟩,3) else
 match fst (fun i=>(nz (I1 t i)).map fun e=>((AB t.Nodes i).Name,e)) 0 t.Nodes.length with
 | some r=>r
 | none=>(fst (fun i=>(nz (Jg t i)).map fun e=>((AB t.Edges i).Name,e)) 0 t.Edges.length).getD (⟨#[]⟩,0)
theorem aB {t:AC} {i:Int} (h:I1 t i=0):-1<=par t i∧par t i<i:=by
 unfold I1 at h;dsimp only at h;unfold par;by_cases a:(AB t.Nodes i).Parent < -1∨i<=(AB t.Nodes i).Parent
 ·rw [d1 a] at h;split at h
  ·cases h
  ·split at h <;> cases h
 ·omega
theorem LA {α β:Type} {o:Option α} {g:α->β}:o.map g=none↔o=none:=by cases o <;> simp
theorem Sl {t:AC} {i:Int} (h:∀ j,0<=j->j<i->I1 t j=0):G1 t i:=fun j a b=>aB (h j a b)
theorem Rc {ρ:Type} (e:Int) (n:ByteArray):(if (!decide (e=0))=true then some (C2.ret (n,e)) else some (C2.next ()))=some (PT ((nz e).map fun e=>(n,e))):=by
 unfold nz;by_cases h:e=0 <;> simp [h,PT]
theorem Rh {t:AC} (c:BX t):GJ t=some (BF t):=by
 unfold GJ BF;rw [CW (fun i=>(nz (I1 t i)).map fun e=>((AB t.Nodes i).Name,e)),GA]
 ·rw [CW (fun i=>(nz (Jg t i)).map fun e=>((AB t.Edges i).Name,e)),GA]
  ·cases fst (fun i=>(nz (I1 t i)).map fun e=>((AB t.Nodes i).Name,e)) 0 t.Nodes.length <;> cases fst (fun i=>(nz (Jg t i)).map fun e=>((AB t.Edges i).Name,e)) 0 t.Edges.length
   all_goals dsimp only
   all_goals try simp only [Option.getD]
   all_goals
    simp only [bs,zzX,Bool.or_eq_true,zzZ,Bool.not_eq_true',decide_eq_false_iff_not,Bool.not_eq_false',Bool.or_eq_false_iff,Bool.and_eq_false_iff,ne_eq]
    repeat' (first | rfl | (exfalso; omega; done) | split)
    all_goals (first | rfl | (exfalso; omega) | omega | simp_all | (simp_all; omega))
  ·intro i a b _;rw [AK a b,bs,i7 c a b,bs];exact Rc (ρ:=Unit) _ _
 ·intro i a b g;have h:G1 t i:=Sl fun j d f=>Mb.1 (LA.1 (g j d f));rw [AK a b,bs,jE c a b h,bs];exact Rc (ρ:=Unit) _ _
theorem Rj {t:AC} (c:BX t):IZ t=some (BF t):=by
 unfold IZ BF;rw [CW (fun i=>(nz (I1 t i)).map fun e=>((AB t.Nodes i).Name,e)),GA]
 ·rw [CW (fun i=>(nz (Jg t i)).map fun e=>((AB t.Edges i).Name,e)),GA]
  ·cases fst (fun i=>(nz (I1 t i)).map fun e=>((AB t.Nodes i).Name,e)) 0 t.Nodes.length <;> cases fst (fun i=>(nz (Jg t i)).map fun e=>((AB t.Edges i).Name,e)) 0 t.Edges.length
   all_goals dsimp only
   all_goals try simp only [Option.getD]
   all_goals
    simp only [bs,zzX,Bool.or_eq_true,zzZ,Bool.not_eq_true',decide_eq_false_iff_not,Bool.not_eq_false',Bool.or_eq_false_iff,Bool.and_eq_false_iff,ne_eq]
    repeat' (first | rfl | (exfalso; omega; done) | split)
    all_goals (first | rfl | (exfalso; omega) | omega | simp_all | (simp_all; omega))
  ·intro i a b _;simp only [jM c a b,AK a b,bs];exact Rc (ρ:=Unit) _ _
 ·intro i a b g;have h:G1 t i:=Sl fun j d f=>Mb.1 (LA.1 (g j d f));simp only [jQ c a b h,AK a b,bs];exact Rc (ρ:=Unit) _ _
end Go.Sf.Sc
namespace Go.Sf.Sc
open Go Go.Sf
theorem Jt {α:Type} {c:Bool} {a b:α}:(if c=true then some a else some b)=some (if c=true then a else b):=by cases c <;> rfl
def Kt (n:Int):Bool:=(decide (0<=n))&&(decide (n<=99))
def P2 (e:DK) (n:Int):Bool:=Kt e.Type'&&(decide (0<=e.From)&&decide (e.From<n))&&(decide (0<=e.To)&&decide (e.To<n))
def CZ (g:Graph):Int:=
 if 40<g.Nodes.length∨80<g.Edges.length then 3 else if (g.Nodes.any fun n=>!Kt n)=true then 6 else if (g.Edges.any fun e=>!P2 e g.Nodes.length)=true then 6 else 0
structure KZ (g:Graph):Prop where
 nodes:g.Nodes.length<=40
 edges:g.Edges.length<=80
 kind:∀ n∈g.Nodes,0<=n∧n<=99
 fit:∀ e∈g.Edges,(0<=e.Type'∧e.Type'<=99)∧(0<=e.From∧e.From<g.Nodes.length)∧(0<=e.To∧e.To<g.Nodes.length)
theorem E9 {g:Graph} (h:CZ g=0):KZ g:=by
 unfold CZ at h;split at h
 ·cases h
 ·split at h
  ·cases h
  ·split at h
   ·cases h
   ·rename_i f a b;refine ⟨by omega,by omega,fun n c=>?_,fun e d=>?_⟩
    ·rw [Bool.not_eq_true,List.any_eq_false] at a;have:=a n c;simp [Kt] at this;exact this
    ·rw [Bool.not_eq_true,List.any_eq_false] at b;have:=b e d;simp only [P2,Kt,Bool.not_eq_true',Bool.not_eq_false,zzZ,zzX] at this;omega
theorem jC {e:DK} {n:Nat} (h:n<=40):Mt e n=some (P2 e n):=by
 unfold Mt Ip P2 Kt;simp only [bs,BC (show -9223372036854775808<=(n:Int) - 1 by omega) (by omega)];have a:decide (e.From<=(n:Int) - 1)=decide (e.From<n):=by rw [decide_eq_decide]; omega
 have b:decide (e.To<=(n:Int) - 1)=decide (e.To<n):=by rw [decide_eq_decide]; omega
 rw [a,b];generalize (decide (0<=e.Type')&&decide (e.Type'<=99))=b1;generalize (decide (0<=e.From)&&decide (e.From<n))=b2;cases b1 <;> cases b2 <;> simp
theorem OM (g:Graph):EU g=some (CZ g):=by
 unfold EU CZ;by_cases h:40<g.Nodes.length∨80<g.Edges.length
 ·rw [d1 (by simp; omega),d1 h]
 ·rw [d2 (by simp; omega),d2 h,show MG=(fun n=>some (!Kt n)) from rfl,Zq,Xj (p:=fun e=>!P2 e g.Nodes.length) (fun e _=>by
   unfold MH;rw [jC (by omega)]; rfl)]
  simp only [bs];cases g.Nodes.any fun n=>!Kt n
  ·cases g.Edges.any fun e=>!P2 e g.Nodes.length <;> rfl
  ·rfl
theorem NN (g:Graph):GG g=some (CZ g):=by
 unfold GG CZ;by_cases h:40<g.Nodes.length∨80<g.Edges.length
 ·rw [d1 (by simp; omega),d1 h]
 ·rw [d2 (by simp; omega),d2 h,Jo,Jo,CP (fun i=>!Kt (AB g.Nodes i)) 6]
  ·rw [CP (fun i=>!P2 (AB g.Edges i) g.Nodes.length) 6]
   ·cases anyR (fun i=>!Kt (AB g.Nodes i)) 0 g.Nodes.length
    ·cases anyR (fun i=>!P2 (AB g.Edges i) g.Nodes.length) 0 g.Edges.length <;> rfl
    ·rfl
   ·intro i a b _;rw [AK a b,bs];unfold Nc P2;simp only [show ∀ n,LZ n=some (Kt n) from fun _=>rfl,bs];generalize Kt (AB g.Edges i).Type'=b1;cases b1 <;> cases decide (0<=(AB g.Edges i).From) <;> cases decide ((AB g.Edges i).From<g.Nodes.length) <;> cases decide (0<=(AB g.Edges i).To) <;> cases decide ((AB g.Edges i).To<g.Nodes.length) <;> rfl
  ·intro i a b _;rw [AK a b,bs,show LZ (AB g.Nodes i)=some (Kt (AB g.Nodes i)) from rfl,bs];cases Kt (AB g.Nodes i) <;> rfl
def E5 (t:AC) (g:Graph):Bool:=!(g.Nodes.any fun n=>decide (t.Nodes.length<=n))&&!(g.Edges.any fun e=>decide (t.Edges.length<=e.Type'))
theorem NS {t:AC} {g:Graph} (a:KZ g) (h:E5 t g=true):(∀ n∈g.Nodes,0<=n∧n<t.Nodes.length)∧∀ e∈g.Edges,0<=e.Type'∧e.Type'<t.Edges.length:=by
 unfold E5 at h;simp only [zzZ,Bool.not_eq_true',List.any_eq_false,zzX] at h;refine ⟨fun n b=>?_,fun e c=>?_⟩
 ·have:=h.1 n b;have:=a.kind n b;omega
 ·have:=h.2 e c;have:=a.fit e c;omega
theorem UJ {t:AC} {g:Graph} (c:KZ g):JZ t g=some (E5 t g):=by
 unfold JZ E5;rw [Jo,Jo,CP (fun i=>decide (t.Nodes.length<=AB g.Nodes i)) false]
 ·rw [CP (fun i=>decide (t.Edges.length<=(AB g.Edges i).Type')) false]
  ·cases anyR (fun i=>decide (t.Nodes.length<=AB g.Nodes i)) 0 g.Nodes.length
   ·cases anyR (fun i=>decide (t.Edges.length<=(AB g.Edges i).Type')) 0 g.Edges.length <;> rfl
   ·rfl
  ·intro i a b _;have:=(c.fit _ (AS a b)).1.1;simp only [AK a b,bs];rw [d2 (by simp; omega),bs,Jt]
 ·intro i a b _;have:=(c.kind _ (AS a b)).1;simp only [AK a b,bs];rw [d2 (by simp; omega),bs,Jt]
structure IA (t:AC):Prop where
 nodes:t.Nodes.length<=12
 edges:t.Edges.length<=20
 node:∀ i:Int,0<=i->i<t.Nodes.length->I1 t i=0
 edge:∀ i:Int,0<=i->i<t.Edges.length->Jg t i=0
theorem HN {t:AC} (h:(BF t).2=0):IA t:=by
 unfold BF at h;split at h
 ·cases h
 ·split at h
  ·cases h
  ·rename_i k l;have g:∀ i:Int,0<=i->i<t.Nodes.length->I1 t i=0:=by
    split at h
    ·rename_i r b;obtain ⟨i,_,_,a,_⟩:=C8 b;unfold nz at a;split at a
     ·cases a
     ·rename_i c;cases a; exact absurd h c
    ·rename_i b;intro i d f;exact Mb.1 (LA.1 (C0.1 b i d f))
   have j:∀ i:Int,0<=i->i<t.Edges.length->Jg t i=0:=by
    split at h
    ·rename_i r b;obtain ⟨i,d,f,a,_⟩:=C8 b;rw [g i d f] at a;cases a
    ·cases b:fst (fun i=>(nz (Jg t i)).map fun e=>((AB t.Edges i).Name,e)) 0 t.Edges.length with
     | some r=>
      rw [b] at h;obtain ⟨i,_,_,a,_⟩:=C8 b;unfold nz at a;split at a
      ·cases a
      ·rename_i c;cases a; exact absurd h c
     | none=>
      intro i d f;exact Mb.1 (LA.1 (C0.1 b i d f))
   exact ⟨by omega,by omega,g,j⟩
theorem IA.par {t:AC} (h:IA t):G1 t t.Nodes.length:=Sl h.node
theorem IA.ends {t:AC} (h:IA t) {i:Int} (b:0<=i) (c:i<t.Edges.length):(0<=(AB t.Edges i).From∧(AB t.Edges i).From<t.Nodes.length)∧(0<=(AB t.Edges i).To∧(AB t.Edges i).To<t.Nodes.length):=by
 have:=h.edge i b c;unfold Jg at this;dsimp only at this;split at this
 ·cases this
 ·split at this
  ·cases this
  ·split at this
   ·rename_i a; exact ⟨a.1,a.2.1⟩
   ·cases this
def I3 (t:AC) (a:Int):Bool:=decide (0<=a)&&decide (a<t.Nodes.length)
theorem MY {t:AC} {a:Int}:I3 t a=true↔0<=a∧a<t.Nodes.length:=by unfold I3; simp
theorem UI {t:AC} (b:BX t) (l:Ne):G6 t l=some (if (BF t).2≠0 then (BF t).2 else if (l.all (I3 t))=true then 0 else 6):=by
 unfold G6;rw [Rh b,bs,Vm (p:=fun a=>!I3 t a) (fun a _=>by unfold ML I3; rw [show decide (a<0)=!decide (0<=a) from by rw [←decide_not,decide_eq_decide]; omega,show decide ((t.Nodes.length:Int)<=a)=!decide (a<t.Nodes.length) from by rw [←decide_not,decide_eq_decide]; omega,Bool.not_and]),bs];rw [show (l.any fun a=>!I3 t a)=!(l.all (I3 t)) from by rw [List.all_eq_not_any_not,Bool.not_not]];cases l.all (I3 t) <;> by_cases h:(BF t).2=0 <;> simp [h]
theorem YE {t:AC} (d:BX t) (a b:Int):Ke t a b=some (if (BF t).2≠0 then (BF t).2 else if (I3 t a&&I3 t b)=true then 0 else 6):=by
 have f:=d.nodes;have e:∀ a,decide (a<=(t.Nodes.length:Int) - 1)=decide (a<(t.Nodes.length:Int)):=fun a=>by rw [decide_eq_decide]; omega
 unfold Ke E0;rw [Rj d,bs];simp only [BC (show -9223372036854775808<=(t.Nodes.length:Int) - 1 by omega) (by omega),bs,e];change (if (!decide ((BF t).snd=0))=true then some (BF t).snd else (if (!I3 t a)=true then some true else some (!I3 t b)).bind fun c=>if c=true then some 6 else some 0)=_;cases I3 t a <;> cases I3 t b <;> by_cases h:(BF t).2=0 <;> simp [h]
theorem al {α:Type} [Inhabited α] {l:List α} {i:Int} (a:0<=i) (b:i<l.length):CJ l i (AB l i)=l:=by
 unfold CJ AB;rw [List.getD_eq_getElem?_getD,List.getElem?_eq_getElem (by omega)];exact List.set_getElem_self _
theorem GI {α:Type} [Inhabited α] {l:List α} {i:Int} (a:0<=i) (b:i<l.length):l.take (i+1).toNat=l.take i.toNat++[AB l i]:=by
 unfold AB;rw [show (i+1).toNat=i.toNat+1 by omega,List.take_add_one,List.getD_eq_getElem?_getD,List.getElem?_eq_getElem (by omega)];rfl
theorem IJ {α:Type} {l:List α} (h:l.length<=BS):B2 [] l=some l:=by rw [CC (by simpa using h)]; rfl
def JF (t:AC) (a:Int):List Attr × Int:=if (BF t).2≠0 then ([],(BF t).2) else if I3 t a=true then (BQ t a,0) else ([],6)
theorem X3 {t:AC} (g:BX t) (a:Int):Hx t a=some (JF t a):=by
 unfold Hx JF;rw [UI g,bs];by_cases h:(BF t).2=0
 ·have d:=HN h;have e:[a].all (I3 t)=I3 t a:=by simp
  rw [e];simp only [h,ne_eq,not_true_eq_false,if_false];cases hi:I3 t a
  ·rfl
  ·rw [d1 rfl,d1 rfl];have j:=MY.1 hi;have v:=Mm g (Int.le_refl _) d.par j.2;have r:=Mk g (Int.le_refl _) d.par j.2;rw [d2 (by decide),X4 g (Int.le_refl _) d.par j.1 j.2,bs];obtain ⟨s',u,rfl⟩:=V1 (f:=(fun (k:Int) (l:List Attr)=>
 (AL l k).bind fun m=>
 (slices_Clone_string m.Names).bind fun n=>
 (AL l k).bind fun c=>
 some (CJ l k (Attr.mk c.Name c.Low c.High n)))) (fun _ s=>s=BQ t a) (a:=0) (b:=(BQ t a).length) (s:=BQ t a) (by omega) rfl (fun i s o p q=>by
     subst q;have:=(r _ (AS o p)).names;refine ⟨BQ t a,?_,rfl⟩;unfold slices_Clone_string;rw [AK o p,bs,IJ (by unfold BS; omega),bs,bs];congr 1;exact al o p)
   rw [u]; rfl
 ·simp only [h,ne_eq,not_false_eq_true,if_true,decide_false,Bool.not_false]
theorem X9 {t:AC} (c:BX t) (a:Int):Kc t a=some (JF t a):=by
 unfold Kc JF;rw [YE c,bs];by_cases h:(BF t).2=0
 ·have b:=HN h;rw [Bool.and_self];simp only [h,ne_eq,not_true_eq_false,if_false];cases hi:I3 t a
  ·rfl
  ·rw [d1 rfl,d1 rfl];have d:=MY.1 hi;have j:=Mm c (Int.le_refl _) b.par d.2;have g:=Mk c (Int.le_refl _) b.par d.2;rw [d2 (by decide),YB c (Int.le_refl _) b.par d.1 d.2,bs];rw [E8 (fun i=>(BQ t a).take i.toNat) (by omega) (by simp)]
   ·rw [bs,Int.toNat_natCast,List.take_length]
   ·intro i e f;have:=(g _ (AS e f)).names;rw [AK e f,bs,IJ (by unfold BS; omega),bs,CC (by rw [d5]; simp; unfold BS; omega),GI e f];rfl
 ·simp only [h,ne_eq,not_false_eq_true,if_true,decide_false,Bool.not_false]
end Go.Sf.Sc
namespace Go.Sf.Sc
open Go Go.Sf
def Nt (t:AC):Nat->Int->Ne
 | 0,_=>[]
 | n+1,a=>if a<0 then [] else a::Nt t n (par t a)
theorem YQ (t:AC):∀ (n:Nat) (a:Int),(Nt t n a).length<=n
 | 0,_=>by simp [Nt]
 | n+1,a=>by
  rw [Nt];split
  ·simp
  ·have:=YQ t n (par t a); simp; omega
def I4 (t:AC) (a b:Int):Bool:=(Nt t (a+1).toNat a).any fun x=>decide (b=x)
theorem Xx {t:AC} (c:t.Nodes.length<=12) (g:G1 t t.Nodes.length):∀ (n:Nat) (a:Int) (l:Ne),a<t.Nodes.length->a<n->l.length+n<=1000 ->
  ∃ x,ND (ρ:=Ne) (fun (b:Int × Ne)=>
 if (decide (0<=b.1))=true then
 (B2 b.2 [b.1]).bind fun d=>
 (AL t.Nodes b.1).bind fun e=>
 some (.next (e.Parent,d))
 else
 some (.brk (b.1,b.2))) (a,l) (.inl (x,l++Nt t n a))
 | 0,a,l,f,j,_=>by
  refine ⟨a,.brk ?_⟩;rw [d2 (by simp; omega)];simp [Nt]
 | n+1,a,l,f,j,m=>by
  by_cases h:a<0
  ·refine ⟨a,.brk ?_⟩;rw [d2 (by simp; omega)];simp [Nt,h]
  ·have k:=g a (by omega) f;obtain ⟨x,i⟩:=Xx c g n (par t a) (l++[a]) (by omega) (by omega) (by simp; omega);refine ⟨x,.next (s':=(par t a,l++[a])) ?_ ?_⟩
   ·rw [d1 (by simp; omega),CC (by simp; unfold BS; omega),bs,AK (by omega) f]; rfl
   ·rw [Nt,d2 h,show l++a::Nt t n (par t a)=(l++[a])++Nt t n (par t a) by simp];exact i
theorem cR {t:AC} (h:IA t) {a b:Int} (f:0<=a) (c:a<t.Nodes.length):Je t a b=some (I4 t a b):=by
 have d:=h.nodes;obtain ⟨x,e⟩:=Xx d h.par (a+1).toNat a [] c (by omega) (by simp; omega);have g:=YQ t (a+1).toNat a;unfold Je KN;rw [e.eq,D5];simp only [List.nil_append];unfold slices_Reverse_int;rw [d1 (by unfold BS; omega)];simp only [bs];rw [TC,bs];unfold I4;rw [List.any_reverse]
theorem Sr {t:AC} (d:G1 t t.Nodes.length) {b:Int} (h:0<=b):∀ (n m:Nat) (a:Int),-1<=a->a<t.Nodes.length->a+1<n->a<m->HO n t a b=some ((Nt t m a).any fun x=>decide (b=x))
 | 0,_,_,_,_,_,_=>by omega
 | n+1,m,a,j,g,k,l=>by
  rw [HO];by_cases f:a<0
  ·rw [d2 (by simp; omega),d2 (by simp; omega)];cases m <;> simp [Nt,f]
  ·cases m with
   | zero=>omega
   | succ m=>
    have i:=d a (by omega) g;rw [Nt,d2 f,List.any_cons,d1 (show decide (0<=a)=true by simp; omega),AK (by omega) g];simp only [bs];rw [show (AB t.Nodes a).Parent=par t a from rfl,Sr d h n m (par t a) (by omega) (by omega) (by omega) (by omega)];by_cases c:a=b
    ·simp [c]
    ·have:¬ b=a:=fun e=>c e.symm;simp [c,this]
theorem Rk {t:AC} (h:IA t) {a b:Int} (e:0<=a) (c:a<t.Nodes.length) (d:0<=b):H4 t a b=some (I4 t a b):=
 FV (a+2).toNat fun n f=>Sr h.par d n (a+1).toNat a (by omega) c (by omega) (by omega)
def O4 (t:AC) (e f g:Int):Bool:=
 decide ((BF t).2=0)&&(I3 t f&&I3 t g)&&(decide (0<=e)&&decide (e<t.Edges.length))&&(I4 t f (AB t.Edges e).From&&I4 t g (AB t.Edges e).To)
theorem iw {t:AC} (c:BX t) (e f g:Int):JT t e f g=some (O4 t e f g):=by
 unfold JT O4;rw [UI c,bs,show [f,g].all (I3 t)=(I3 t f&&I3 t g) by simp];by_cases h:(BF t).2=0
 ·simp only [h,ne_eq,not_true_eq_false,if_false];have a:=HN h;cases hi:(I3 t f&&I3 t g)
  ·rfl
  ·rw [zzZ,MY,MY] at hi;by_cases b:0<=e∧e<t.Edges.length
   ·rw [d2 (by simp; omega),AK b.1 b.2];simp only [bs,cR a hi.1.1 hi.1.2,cR a hi.2.1 hi.2.2,b.1,b.2,decide_true,Bool.true_and];cases I4 t f (AB t.Edges e).From <;> rfl
   ·rw [d1 (by simp; omega)];have:(decide (0<=e)&&decide (e<t.Edges.length))=false:=by rw [Bool.eq_false_iff]; simpa using b
    rw [this]; simp
 ·simp [h]
theorem jK {t:AC} (i:BX t) (e f g:Int):Mx t e f g=some (O4 t e f g):=by
 have k:=i.edges;unfold Mx O4 E0;rw [YE i,bs];by_cases h:(BF t).2=0
 ·simp only [h,ne_eq,not_true_eq_false,if_false];have b:=HN h;cases hi:(I3 t f&&I3 t g)
  ·rfl
  ·rw [zzZ,MY,MY] at hi;rw [BC (by omega) (by omega)];simp only [bs];by_cases a:0<=e∧e<t.Edges.length
   ·have c:=b.ends a.1 a.2;have d:e<=(t.Edges.length:Int) - 1:=by omega
    rw [d2 (by simp),bs,d2 (by simp [a.1,d]),AK a.1 a.2];simp only [bs,Rk b hi.1.1 hi.1.2 c.1.1,Rk b hi.2.1 hi.2.2 c.2.1,a.1,a.2,decide_true,Bool.true_and];cases I4 t f (AB t.Edges e).From <;> rfl
   ·have:(decide (0<=e)&&decide (e<t.Edges.length))=false:=by rw [Bool.eq_false_iff]; simpa using a
    have j:(decide (0<=e)&&decide (e<=(t.Edges.length:Int) - 1))=false:=by rw [Bool.eq_false_iff]; simp; omega
    rw [this,j]; simp
 ·simp [h]
def M4 (n:Int) (x:Term):Bool:=(((decide ((-1)<=x.Var))&&(decide (x.Var<n)))&&(decide ((-1000000)<=x.Add)))&&(decide (x.Add<=1000000))
def MK (n:Int) (x:Test):Int:=if ¬ x.Kind=1∧¬ x.Kind=2 then 1 else if (M4 n x.Left&&M4 n x.Right)=true then 0 else 6
def JR (n:Int) (l:List Test):Int:=if n<0∨12<n then 6 else if 40<l.length then 3 else (fst (fun i=>nz (MK n (AB l i))) 0 l.length).getD 0
theorem jH (n:Int) (x:Test):Jq n x=some (MK n x):=by
 unfold Jq MK;simp only [show ∀ n x,JH n x=some (M4 n x) from fun _ _=>rfl,bs];generalize M4 n x.Left=b1;generalize M4 n x.Right=b2;cases b1 <;> cases b2
 all_goals
  simp only [bs,zzX,Bool.or_eq_true,zzZ,Bool.not_eq_true',decide_eq_false_iff_not,Bool.not_eq_false',Bool.or_eq_false_iff,Bool.and_eq_false_iff,ne_eq]
  repeat' (first | rfl | (exfalso; omega; done) | split)
  all_goals (first | rfl | (exfalso; omega) | omega | simp_all | (simp_all; omega))
theorem cc (n:Int) (x:Term):Jx n x=some (if M4 n x=true then 0 else 6):=by
 unfold Jx M4;simp only [bs,zzX,Bool.or_eq_true,zzZ,Bool.not_eq_true',decide_eq_false_iff_not,Bool.not_eq_false',Bool.or_eq_false_iff,Bool.and_eq_false_iff,ne_eq]
 repeat' (first | rfl | (exfalso; omega; done) | split)
 all_goals (first | rfl | (exfalso; omega) | omega | simp_all | (simp_all; omega))
theorem jS (n:Int) (x:Test):Nn n x=some (MK n x):=by
 unfold Nn MK;simp only [cc,bs];generalize M4 n x.Left=b1;generalize M4 n x.Right=b2;cases b1 <;> cases b2
 all_goals
  simp only [bs,zzX,Bool.or_eq_true,zzZ,Bool.not_eq_true',decide_eq_false_iff_not,Bool.not_eq_false',Bool.or_eq_false_iff,Bool.and_eq_false_iff,ne_eq]
  repeat' (first | rfl | (exfalso; omega; done) | split)
  all_goals (first | rfl | (exfalso; omega) | omega | simp_all | (simp_all; omega))
theorem fl (n:Int) (l:List Test):Il n l=some (JR n l):=by
 unfold Il JR;rw [CW (fun i=>nz (MK n (AB l i))),HL]
 ·simp only [bs,zzX,Bool.or_eq_true,zzZ,Bool.not_eq_true',decide_eq_false_iff_not,Bool.not_eq_false',Bool.or_eq_false_iff,Bool.and_eq_false_iff,ne_eq]
  repeat' (first | rfl | (exfalso; omega; done) | split)
  all_goals (first | rfl | (exfalso; omega) | omega | simp_all | (simp_all; omega))
 ·intro i a b _;rw [AK a b,bs,jH,bs,Ph]
theorem gB (n:Int) (l:List Test):L0 n l=some (JR n l):=by
 unfold L0 JR;rw [CW (fun i=>nz (MK n (AB l i))),HL]
 ·simp only [bs,zzX,Bool.or_eq_true,zzZ,Bool.not_eq_true',decide_eq_false_iff_not,Bool.not_eq_false',Bool.or_eq_false_iff,Bool.and_eq_false_iff,ne_eq]
  repeat' (first | rfl | (exfalso; omega; done) | split)
  all_goals (first | rfl | (exfalso; omega) | omega | simp_all | (simp_all; omega))
 ·intro i a b _;rw [AK a b,bs,jS,bs,Ph]
def Oy (t:AC) (p:Pattern) (node ix:Int):Attr × Bool:=
 if node<0∨p.Graph.Nodes.length<=node then (default,false) else
 let l:=(JF t (AB p.Graph.Nodes node)).1
 if ix<0∨l.length<=ix then (default,false) else (AB l ix,true)
theorem S6 {t:AC} (c:BX t) (a:Int):(JF t a).1.length<=600∧((JF t a).2≠0->(JF t a).1=[]):=by
 unfold JF;split
 ·simp
 ·rename_i h;have b:=HN (t:=t) (by omega);split
  ·rename_i hi;exact ⟨Mm c (Int.le_refl _) b.par (MY.1 hi).2,by simp⟩
  ·simp
theorem fe {t:AC} (a:BX t) {p:Pattern} (c:KZ p.Graph) (s:EG):GV t p s=some (Oy t p s.Node s.Attr):=by
 have d:=c.nodes;unfold GV Oy DW;dsimp only;rw [BC (by omega) (by omega),bs];by_cases h:s.Node<0∨p.Graph.Nodes.length<=s.Node
 ·rw [d1 (by simp; omega),d1 h]; rfl
 ·rw [d2 (by simp; omega),d2 h,AK (by omega) (by omega),bs,X3 a,bs];have e:=(S6 a (AB p.Graph.Nodes s.Node)).1;rw [BC (by omega) (by omega),bs];by_cases b:s.Attr<0∨(JF t (AB p.Graph.Nodes s.Node)).1.length<=s.Attr
  ·rw [d1 (by simp; omega),d1 b]; rfl
  ·rw [d2 (by simp; omega),d2 b,AK (by omega) (by omega)]; rfl
theorem ft {t:AC} (c:BX t) {p:Pattern} (node a:Int):M1 t p node a=some (Oy t p node a):=by
 unfold M1 Oy;dsimp only;by_cases h:node<0∨p.Graph.Nodes.length<=node
 ·rw [d1 (by simp; omega),d1 h]; rfl
 ·rw [d2 (by simp; omega),d2 h,AK (by omega) (by omega),bs,X9 c,bs];have e:=(S6 c (AB p.Graph.Nodes node)).2;by_cases b:a<0∨(JF t (AB p.Graph.Nodes node)).1.length<=a
  ·rw [d1 (by simp; omega),d1 b]; rfl
  ·by_cases d:(JF t (AB p.Graph.Nodes node)).2=0
   ·rw [d2 (by simp [d]; omega),d2 b,AK (by omega) (by omega)]; rfl
   ·rw [e d] at b; simp at b; omega
end Go.Sf.Sc
namespace Go.Sf
variable {σ ρ:Type}
def j9 (s:σ) (o:Option ρ):C2 σ ρ:=match o with
 | none=>.next s
 | some r=>.ret r
def eP (s:σ) (o:Option ρ):σ ⊕ ρ:=match o with
 | none=>.inl s
 | some r=>.inr r
theorem V2 {f:Int->σ->Option (C2 σ ρ)} (g:Int->σ) (c:Int->Option ρ):∀ (n:Nat) (a:Int),
  (∀ i,a<=i->i<a+n->(∀ j,a<=j->j<i->c j=none)->f i (g i)=some (j9 (g (i+1)) (c i)))->forGo f n a (g a)=some (eP (g (a+n)) (EM c n a))
 | 0,a,_=>by simp [forGo,EM,eP]
 | n+1,a,h=>by
  have l:=h a (Int.le_refl _) (by omega) (fun j b d=>by omega);rw [Hr,l,EM];cases m:c a with
  | some r=>rfl
  | none=>
   simp only [j9];rw [show a+((n+1:Nat):Int)=a+1+n by omega];refine V2 g c n (a+1) (fun i b d e=>h i (by omega) (by omega) (fun j p k=>?_));by_cases o:j=a
   ·subst o; exact m
   ·exact e j (by omega) k
theorem OK {f:Int->σ->Option (C2 σ ρ)} (g:Int->σ) (c:Int->Option ρ) {a b:Int} {s:σ} (d:a<=b) (e:s=g a) (h:∀ i,a<=i->i<b->(∀ j,a<=j->j<i->c j=none)->f i (g i)=some (j9 (g (i+1)) (c i))):forR f a b s=some (eP (g b) (fst c a b)):=by
 subst e;unfold forR fst;have:=V2 g c (b - a).toNat a (fun i k m l=>h i k (by omega) l)
 rwa [show a+((b - a).toNat:Int)=b by omega] at this
variable {α:Type}
theorem IR {e:Int} {X:dD} {Y:Int} (h:e=0->X=some Y):(if (!decide (e=0))=true then some e else X)=some (if e≠0 then e else Y):=by
 by_cases a:e=0
 ·simp [a,h a]
 ·simp [a]
theorem K1 {e:Int} {v:α} {X:Option α} {Y:α} (h:e=0->X=some Y):(if (!decide (e=0))=true then some v else X)=some (if e≠0 then v else Y):=by
 by_cases a:e=0
 ·simp [a,h a]
 ·simp [a]
theorem Pb {P:Prop} [Decidable P] {b:Bool} {v:α} {X:Option α} {Y:α} (c:b=true↔P) (h:¬ P->X=some Y):(if b=true then some v else X)=some (if P then v else Y):=by
 by_cases a:P
 ·rw [d1 (c.2 a),d1 a]
 ·rw [d2 (fun h=>a (c.1 h)),d2 a,h a]
theorem Xk {b:Bool} {v:α} {X:Option α} {Y:α} (h:b=true->X=some Y):(if (!b)=true then some v else X)=some (if b=false then v else Y):=by
 cases b
 ·rfl
 ·simpa using h rfl
theorem rN {b:Bool} {v:α} {X:Option α} {Y:α} (h:b=false->X=some Y):(if b=true then some v else X)=some (if b=true then v else Y):=by
 cases b
 ·simpa using h rfl
 ·rfl
end Go.Sf
namespace Go.Sf.Sc
open Go Go.Sf
def Pw (t:AC) (p:Pattern) (s:EG):Bool:=!(Oy t p s.Node s.Attr).2||decide (s.Term.Var < -1)||decide (p.Vars<=s.Term.Var)||(decide (s.Term.Add < -1000000)||decide (1000000<s.Term.Add))
def LB (p:Pattern) (v:Int):Bool:=p.Slots.any fun s=>decide (s.Term.Var=v)
def Jv (t:AC) (p:Pattern):Int:=
 if (BF t).2≠0 then (BF t).2 else if CZ p.Graph≠0 then CZ p.Graph else if E5 t p.Graph=false then 13 else
 if p.Vars<0∨12<p.Vars then 6 else if 10<p.Slots.length∨10<p.Tests.length then 3 else
 if (p.Slots.any (Pw t p))=true then 6 else if JR p.Vars p.Tests≠0 then JR p.Vars p.Tests else
 if anyR (fun v=>!LB p v) 0 p.Vars=true then 9 else 0
def KP (p:Pattern) (i:Int):d0:=(List.range p.Vars.toNat).map fun (v:Nat)=>(p.Slots.take i.toNat).any fun s=>decide (s.Term.Var=(v:Int))
theorem ZY {p:Pattern}:KP p 0=List.replicate p.Vars.toNat false:=by
 unfold KP;refine List.ext_getElem (by simp) (fun n a b=>by simp)
theorem bK (p:Pattern) (i:Int):(KP p i).length=p.Vars.toNat:=by simp [KP]
theorem bL {p:Pattern} {i:Int} (b:0<=i) (c:i<p.Slots.length) (hv:0<=(AB p.Slots i).Term.Var):CJ (KP p i) (AB p.Slots i).Term.Var true=KP p (i+1):=by
 unfold CJ;refine List.ext_getElem (by simp [KP]) (fun n d e=>?_);simp only [KP,List.getElem_set,List.getElem_map,List.getElem_range,GI b c,List.any_append,List.any_cons,List.any_nil,Bool.or_false];by_cases a:(AB p.Slots i).Term.Var.toNat=n
 ·rw [d1 a,decide_eq_true (show (AB p.Slots i).Term.Var=(n:Int) by omega),Bool.or_true]
 ·rw [d2 a,decide_eq_false (show ¬ (AB p.Slots i).Term.Var=(n:Int) by omega),Bool.or_false]
theorem ZX {p:Pattern} {i:Int} (a:0<=i) (b:i<p.Slots.length) (hv:(AB p.Slots i).Term.Var<0):KP p i=KP p (i+1):=by
 refine List.ext_getElem (by simp [KP]) (fun n c d=>?_);simp only [KP,List.getElem_map,List.getElem_range,GI a b,List.any_append,List.any_cons,List.any_nil,Bool.or_false];rw [decide_eq_false (show ¬ (AB p.Slots i).Term.Var=(n:Int) by omega),Bool.or_false]
theorem bJ (p:Pattern):((KP p p.Slots.length).any fun x=>false==x)=anyR (fun v=>!LB p v) 0 p.Vars:=by
 rw [Bool.eq_iff_iff,List.any_eq_true,II];simp only [KP,Int.toNat_natCast,List.take_length,List.mem_map,List.mem_range];constructor
 ·rintro ⟨x,⟨v,hv,rfl⟩,a⟩;refine ⟨v,by omega,by omega,?_⟩;unfold LB;revert a;cases p.Slots.any fun s=>decide (s.Term.Var=(v:Int)) <;> simp
 ·rintro ⟨v,b,c,a⟩;refine ⟨_,⟨v.toNat,by omega,rfl⟩,?_⟩;rw [Int.toNat_of_nonneg b];unfold LB at a;revert a;cases p.Slots.any fun s=>decide (s.Term.Var=v) <;> simp
theorem fL {α ρ:Type} [Inhabited α] {l:List α} {q:α->Bool} {v:ρ}:fst (fun i=>if q (AB l i)=true then some v else none) 0 l.length=if l.any q=true then some v else none:=by
 rw [O8,Jo]
theorem VY {t:AC} (r:BX t) (p:Pattern):EJ t p=some (Jv t p):=by
 unfold EJ Jv;rw [Rh r,bs,OM,bs];refine IR fun x=>IR fun u=>?_;have k:=E9 u;have e:((B0 p.Graph.Nodes (fun a=>IP a t)).bind fun f=>
   (if f=true then some true else ((CD p.Graph.Edges (fun a=>IQ a t)).bind fun g=>some (g))))=some (!E5 t p.Graph):=by
  unfold E5;rw [show (fun a=>IP a t)=(fun (n:Int)=>some (decide (t.Nodes.length<=n))) from rfl,Zq,show (fun a=>IQ a t)=(fun (e:DK)=>some (decide (t.Edges.length<=e.Type'))) from rfl,fA];simp only [bs];cases p.Graph.Nodes.any fun n=>decide (t.Nodes.length<=n) <;> simp
 rw [←Option.bind_assoc,e,bs];refine Xk fun w=>?_;unfold DW;simp only [bs];refine Pb (by simp; try omega) fun hv=>Pb (by simp; try omega) fun y=>?_;unfold J7;rw [d1 (by omega),bs,←ZY,BC (show -9223372036854775808<=p.Vars - 1 by omega) (by omega),OK (KP p) (fun i=>if Pw t p (AB p.Slots i)=true then some 6 else none) (by omega) rfl,fL]
 ·cases b:p.Slots.any (Pw t p)
  ·simp only [Bool.false_eq_true,if_false,eP,D5,fl,bs,fE,bJ];by_cases c:JR p.Vars p.Tests=0
   ·simp only [c];cases anyR (fun v=>!LB p v) 0 p.Vars <;> rfl
   ·simp [c]
  ·rfl
 ·intro i h j _;rw [AK h j,bs,fe r k,bs];unfold Pw;by_cases b:(Oy t p (AB p.Slots i).Node (AB p.Slots i).Attr).2=true
  ·by_cases s:(AB p.Slots i).Term.Var < -1∨p.Vars<=(AB p.Slots i).Term.Var
   ·have l:(decide (-1<=(AB p.Slots i).Term.Var)&&decide ((AB p.Slots i).Term.Var<=p.Vars - 1))=false:=by rw [Bool.eq_false_iff]; simp; omega
    have m:(decide ((AB p.Slots i).Term.Var < -1)||decide (p.Vars<=(AB p.Slots i).Term.Var))=true:=by simp; omega
    rw [b,l,Bool.or_assoc (!true),m]; rfl
   ·have l:(decide (-1<=(AB p.Slots i).Term.Var)&&decide ((AB p.Slots i).Term.Var<=p.Vars - 1))=true:=by simp; omega
    have m:(decide ((AB p.Slots i).Term.Var < -1)||decide (p.Vars<=(AB p.Slots i).Term.Var))=false:=by rw [Bool.eq_false_iff]; simp; omega
    rw [b,l,Bool.or_assoc (!true),m];by_cases z:(AB p.Slots i).Term.Add < -1000000∨1000000<(AB p.Slots i).Term.Add
    ·have o:(decide (-1000000<=(AB p.Slots i).Term.Add)&&decide ((AB p.Slots i).Term.Add<=1000000))=false:=by rw [Bool.eq_false_iff]; simp; omega
     have q:(decide ((AB p.Slots i).Term.Add < -1000000)||decide (1000000<(AB p.Slots i).Term.Add))=true:=by simp; omega
     rw [o,q]; rfl
    ·have o:(decide (-1000000<=(AB p.Slots i).Term.Add)&&decide ((AB p.Slots i).Term.Add<=1000000))=true:=by simp; omega
     have q:(decide ((AB p.Slots i).Term.Add < -1000000)||decide (1000000<(AB p.Slots i).Term.Add))=false:=by rw [Bool.eq_false_iff]; simp; omega
     rw [o,q];by_cases d:0<=(AB p.Slots i).Term.Var
     ·simp only [Bool.not_true,Bool.false_eq_true,if_false,bs,d,decide_true,if_true,Bool.or_false];rw [AK d (by rw [bK]; omega),bs,bL h j d]; rfl
     ·simp only [Bool.not_true,Bool.false_eq_true,if_false,bs,d,decide_false,Bool.or_false];rw [ZX h j (by omega)]; rfl
  ·rw [Bool.not_eq_true] at b;rw [b]; rfl
theorem eA (p:Pattern) (v:Int):LI p v=some (LB p v):=by
 unfold LI LB;rw [CP (fun i=>decide ((AB p.Slots i).Term.Var=v)) true,Jo]
 ·cases anyR (fun i=>decide ((AB p.Slots i).Term.Var=v)) 0 p.Slots.length <;> rfl
 ·intro i a b _;rw [AK a b,bs,Jt]
theorem Y5 {t:AC} (c:BX t) (p:Pattern):Jb t p=some (Jv t p):=by
 unfold Jb Jv;rw [Rj c,bs,NN,bs];refine IR fun j=>IR fun g=>?_;have b:=E9 g;rw [UJ b,bs];refine Xk fun h=>Pb (by simp; try omega) fun hv=>Pb (by simp; try omega) fun k=>?_;rw [CP (fun i=>Pw t p (AB p.Slots i)) 6,←Jo]
 ·cases l:p.Slots.any (Pw t p)
  ·simp only [Bool.false_eq_true,if_false,D5,gB,bs];by_cases a:JR p.Vars p.Tests=0
   ·simp only [a];rw [CP (fun v=>!LB p v) 9]
    ·cases anyR (fun v=>!LB p v) 0 p.Vars <;> rfl
    ·intro i d f _;rw [eA,bs,Jt]
   ·simp [a]
  ·rfl
 ·intro i d f _;rw [AK d f,bs,ft c,bs];unfold Pw MI;simp only [bs];have e:(!(decide (-1000000<=(AB p.Slots i).Term.Add)&&decide ((AB p.Slots i).Term.Add<=1000000)))=(decide ((AB p.Slots i).Term.Add < -1000000)||decide (1000000<(AB p.Slots i).Term.Add)):=by
   rw [Bool.not_and,←decide_not,←decide_not];congr 1 <;> rw [decide_eq_decide] <;> omega
  rw [e];cases (!(Oy t p (AB p.Slots i).Node (AB p.Slots i).Attr).2||decide ((AB p.Slots i).Term.Var < -1)||decide (p.Vars<=(AB p.Slots i).Term.Var))
  ·simp only [Bool.false_eq_true,if_false,bs,Bool.false_or,Jt]
  ·rfl
end Go.Sf.Sc
namespace Go.Sf
theorem SM {l:Ne} {R:Int->Int->Prop} (h:l.Pairwise R) {i j:Int} (a:0<=i) (b:i<j) (c:j<l.length):R (AB l i) (AB l j):=by
 have:=(List.pairwise_iff_getElem.1 h) i.toNat j.toNat (by omega) (by omega) (by omega);unfold AB;rw [List.getD_eq_getElem?_getD,List.getD_eq_getElem?_getD,List.getElem?_eq_getElem (by omega),List.getElem?_eq_getElem (by omega)];exact this
theorem XF {l:Ne} {R:Int->Int->Prop} (h:∀ i j:Int,0<=i->i<j->j<l.length->R (AB l i) (AB l j)):l.Pairwise R:=by
 refine List.pairwise_iff_getElem.2 (fun i j a b c=>?_);have:=h i j (by omega) (by omega) (by omega);unfold AB at this;rw [List.getD_eq_getElem?_getD,List.getD_eq_getElem?_getD,Int.toNat_natCast,Int.toNat_natCast,List.getElem?_eq_getElem a,List.getElem?_eq_getElem b] at this;exact this
end Go.Sf
namespace Go.Sf.Sc
open Go Go.Sf
def hasB (l:Ne) (v:Int):Bool:=l.any fun x=>decide (v=x)
theorem P7 {l:Ne} {v:Int}:hasB l v=true↔v∈l:=by
 unfold hasB;rw [List.any_eq_true];simp
theorem bv (l:Ne) (n:Int):(thenR (forR (ρ:=Bool) (fun (b:Int) (_:Unit)=>
 (AL l b).bind fun a=>
 if (decide (a=n))=true then
 some (.ret true)
 else
 some (.next ())) 0 (l.length:Int) ()) (fun _=>
 some false) (fun c=>some c))=some (hasB l n):=by
 unfold hasB;rw [CP (fun i=>decide (n=AB l i)) true,Jo]
 ·cases anyR (fun i=>decide (n=AB l i)) 0 l.length <;> rfl
 ·intro i d e _;rw [AK d e,bs,Jt];simp only [eq_comm]
theorem Uj {c:Int->dD} {a b:Int} (e:∀ i,c i≠some 0) (h:(fst c a b).getD 0=0):∀ i,a<=i->i<b->c i=none:=by
 have:fst c a b=none:=by
  cases d:fst c a b with
  | none=>rfl
  | some r=>
   rw [d] at h;simp only [Option.getD] at h;subst h;obtain ⟨i,_,_,f,_⟩:=C8 d;exact (e i f).elim
 exact C0.1 this
end Go.Sf.Sc
namespace Go.Sf.Sc
open Go Go.Sf
def KV (a b:Graph) (m:Morphism) (i:Int):dD:=
 if AB m.Nodes i<0∨b.Nodes.length<=AB m.Nodes i then some 6 else if AB b.Nodes (AB m.Nodes i)≠AB a.Nodes i then some 13 else none
def E2 (a b:Graph) (m:Morphism) (i:Int):dD:=
 if AB m.Edges i<0∨b.Edges.length<=AB m.Edges i then some 6 else
 if (AB a.Edges i).Type'≠(AB b.Edges (AB m.Edges i)).Type' then some 13 else
 if AB m.Nodes (AB a.Edges i).From≠(AB b.Edges (AB m.Edges i)).From∨AB m.Nodes (AB a.Edges i).To≠(AB b.Edges (AB m.Edges i)).To then some 11 else none
def MP (a b:Graph) (m:Morphism):Int:=
 if CZ a≠0 then CZ a else if CZ b≠0 then CZ b else if m.Nodes.length≠a.Nodes.length∨m.Edges.length≠a.Edges.length then 20 else
 match fst (KV a b m) 0 m.Nodes.length with
 | some e=>e
 | none=>(fst (E2 a b m) 0 m.Edges.length).getD 0
structure df (a b:Graph) (m:Morphism):Prop where
 ga:KZ a
 gb:KZ b
 nlen:m.Nodes.length=a.Nodes.length
 elen:m.Edges.length=a.Edges.length
 node:∀ i:Int,0<=i->i<m.Nodes.length->(0<=AB m.Nodes i∧AB m.Nodes i<b.Nodes.length)∧AB b.Nodes (AB m.Nodes i)=AB a.Nodes i
 edge:∀ i:Int,0<=i->i<m.Edges.length->(0<=AB m.Edges i∧AB m.Edges i<b.Edges.length)∧(AB a.Edges i).Type'=(AB b.Edges (AB m.Edges i)).Type' ∧
  AB m.Nodes (AB a.Edges i).From=(AB b.Edges (AB m.Edges i)).From∧AB m.Nodes (AB a.Edges i).To=(AB b.Edges (AB m.Edges i)).To
theorem du {a b:Graph} {m:Morphism} (h:MP a b m=0):df a b m:=by
 unfold MP at h;split at h
 ·omega
 split at h
 ·omega
 split at h
 ·cases h
 rename_i j l n;have e:fst (KV a b m) 0 m.Nodes.length=none:=by
  split at h
  ·rename_i r f;obtain ⟨i,_,_,k,_⟩:=C8 f;subst h;unfold KV at k;split at k
   ·cases k
   ·split at k <;> cases k
  ·assumption
 rw [e] at h;have g:=Uj (fun i=>by
  unfold E2;split
  ·simp
  ·split
   ·simp
   ·split <;> simp) h
 refine ⟨E9 (by omega),E9 (by omega),by omega,by omega,fun i c d=>?_,fun i c d=>?_⟩
 ·have:=C0.1 e i c d;unfold KV at this;split at this
  ·cases this
  ·split at this
   ·cases this
   ·rename_i x y;exact ⟨by omega,Classical.not_not.1 y⟩
 ·have:=g i c d;unfold E2 at this;split at this
  ·cases this
  ·split at this
   ·cases this
   ·split at this
    ·cases this
    ·rename_i x y z;exact ⟨by omega,Classical.not_not.1 y,Classical.not_not.1 (fun h=>z (.inl h)),Classical.not_not.1 (fun h=>z (.inr h))⟩
theorem dw (a b:Graph) (m:Morphism):FN a b m=some (MP a b m):=by
 unfold FN MP;rw [OM,bs,OM,bs];refine IR fun k=>IR fun n=>Pb (by simp; try omega) fun q=>?_;have ga:=E9 k;have gb:=E9 n;rw [CW (KV a b m),GA]
 ·cases o:fst (KV a b m) 0 m.Nodes.length with
  | some e=>rfl
  | none=>
   have p:=C0.1 o;dsimp only;rw [CW (E2 a b m),HL];intro i f j _;unfold E2;rw [AK f j,bs];by_cases c:AB m.Edges i<0∨b.Edges.length<=AB m.Edges i
   ·rw [d1 (by simpa using c),d1 c]; rfl
   ·have r:=ga.fit _ (AS (l:=a.Edges) f (by omega));rw [d2 (by simpa using c),d2 c,AK f (by omega),bs,AK (by omega) (by omega),bs];by_cases d:(AB a.Edges i).Type'=(AB b.Edges (AB m.Edges i)).Type'
    ·rw [d2 (by simpa using d),d2 (by simpa using d),AK (by omega) (by omega),bs];by_cases g:AB m.Nodes (AB a.Edges i).From=(AB b.Edges (AB m.Edges i)).From
     ·rw [d2 (by simpa using g),AK (by omega) (by omega),bs,bs];by_cases h:AB m.Nodes (AB a.Edges i).To=(AB b.Edges (AB m.Edges i)).To
      ·rw [d2 (by simpa using h),d2 (by simp [g,h])]; rfl
      ·rw [d1 (by simpa using h),d1 (.inr h)]; rfl
     ·rw [d1 (by simpa using g),bs,d1 rfl,d1 (.inl g)]; rfl
    ·rw [d1 (by simpa using d),d1 d]; rfl
 ·intro i f j _;unfold KV;rw [AK f j,bs];by_cases c:AB m.Nodes i<0∨b.Nodes.length<=AB m.Nodes i
  ·rw [d1 (by simpa using c),d1 c]; rfl
  ·rw [d2 (by simpa using c),d2 c,AK (by omega) (by omega),bs,AK f (by omega),bs];by_cases d:AB b.Nodes (AB m.Nodes i)=AB a.Nodes i
   ·rw [d2 (by simpa using d),d2 (by simpa using d)]; rfl
   ·rw [d1 (by simpa using d),d1 d]; rfl
theorem RK {x y:Prop} [Decidable x] [Decidable y]:(if decide x=true then some true else some (decide y))=some (decide (x∨y)):=by
 by_cases a:x <;> simp [a]
theorem d8 (a b:Graph) (m:Morphism):Kf a b m=some (MP a b m):=by
 unfold Kf MP;rw [NN,bs,NN,bs];refine IR fun k=>IR fun n=>Pb (by simp; try omega) fun q=>?_;have ga:=E9 k;have gb:=E9 n;rw [show (a.Nodes.length:Int)=m.Nodes.length by omega,show (a.Edges.length:Int)=m.Edges.length by omega,CW (KV a b m),GA]
 ·cases o:fst (KV a b m) 0 m.Nodes.length with
  | some e=>rfl
  | none=>
   have p:=C0.1 o;dsimp only;rw [CW (E2 a b m),HL];intro i f j _;unfold E2;rw [AK f j];simp only [bs,RK];by_cases c:AB m.Edges i<0∨b.Edges.length<=AB m.Edges i
   ·rw [d1 (by simpa using c),d1 c]; rfl
   ·have r:=ga.fit _ (AS (l:=a.Edges) f (by omega));rw [d2 (by simpa using c),d2 c,AK f (by omega),bs,AK (by omega) (by omega),bs];by_cases d:(AB a.Edges i).Type'=(AB b.Edges (AB m.Edges i)).Type'
    ·rw [d2 (by simpa using d),d2 (by simpa using d),AK (by omega) (by omega),bs];by_cases g:AB m.Nodes (AB a.Edges i).From=(AB b.Edges (AB m.Edges i)).From
     ·rw [d2 (by simpa using g),AK (by omega) (by omega),bs,bs];by_cases h:AB m.Nodes (AB a.Edges i).To=(AB b.Edges (AB m.Edges i)).To
      ·rw [d2 (by simpa using h),d2 (by simp [g,h])]; rfl
      ·rw [d1 (by simpa using h),d1 (.inr h)]; rfl
     ·rw [d1 (by simpa using g),bs,d1 rfl,d1 (.inl g)]; rfl
    ·rw [d1 (by simpa using d),d1 d]; rfl
 ·intro i f j _;unfold KV;rw [AK f j];simp only [bs,RK];by_cases c:AB m.Nodes i<0∨b.Nodes.length<=AB m.Nodes i
  ·rw [d1 (by simpa using c),d1 c]; rfl
  ·rw [d2 (by simpa using c),d2 c,AK (by omega) (by omega),bs,AK f (by omega),bs];by_cases d:AB b.Nodes (AB m.Nodes i)=AB a.Nodes i
   ·rw [d2 (by simpa using d),d2 (by simpa using d)]; rfl
   ·rw [d1 (by simpa using d),d1 d]; rfl
def Lk (l:Ne):Bool:=!anyR (fun i=>anyR (fun j=>decide (AB l i=AB l j)) 0 i) 0 l.length
theorem NH {l:Ne}:Lk l=true↔l.Nodup:=by
 unfold Lk;rw [Bool.not_eq_true',EQ];constructor
 ·intro h;refine XF (fun i j a b c=>?_);have:=h j (by omega) c;rw [EQ] at this;have:=this i a b;rw [decide_eq_false_iff_not] at this;exact fun e=>this e.symm
 ·intro h i k d;rw [EQ];intro j f g;rw [decide_eq_false_iff_not];exact fun e=>SM h f g d e.symm
theorem Y4 (l:Ne):Ik l=some (Lk l):=by
 unfold Ik Lk;rw [CP (fun i=>anyR (fun j=>decide (AB l i=AB l j)) 0 i) false]
 ·cases anyR (fun i=>anyR (fun j=>decide (AB l i=AB l j)) 0 i) 0 l.length <;> rfl
 ·intro i a b _;rw [CP (fun j=>decide (AB l i=AB l j)) false]
  ·cases anyR (fun j=>decide (AB l i=AB l j)) 0 i <;> rfl
  ·intro j c d _;rw [AK a b,bs,AK c (by omega),bs,Jt]
theorem WX {l:Ne} (b:l.length<=1000):∃ k,IF l=some k∧decide (k=(l.length:Int))=Lk l:=by
 have a:(PB l).length=l.length:=(OF l).length_eq;refine ⟨((Go.Lib.compact (PB l)).length:Int),?_,?_⟩
 ·unfold IF slices_Clone_int slices_Sort_int slices_Compact_int;rw [IJ (by unfold BS; omega),bs,d1 (by unfold BS; omega),bs,d1 (by rw [a]; unfold BS; omega),bs]
 ·rw [Bool.eq_iff_iff,NH,zzX,←(OF l).nodup_iff,←Qb (Od l),a];omega
def K7 (m:Morphism):Bool:=Lk m.Nodes&&Lk m.Edges
theorem p9 {a b:Graph} {m:Morphism} (h:MP a b m=0):EN a b m=some (K7 m):=by
 have ho:=du h;have:=ho.ga.nodes;have:=ho.ga.edges;have:=ho.nlen;have:=ho.elen;obtain ⟨k,c,d⟩:=WX (l:=m.Nodes) (by omega);obtain ⟨j,e,f⟩:=WX (l:=m.Edges) (by omega);unfold EN K7;rw [dw,h,bs,d1 (decide_eq_true rfl),c];simp only [bs,e,d,f];cases Lk m.Nodes <;> rfl
theorem qC {a b:Graph} {m:Morphism} (h:MP a b m=0):JO a b m=some (K7 m):=by
 unfold JO K7;rw [d8,h,bs,d1 (decide_eq_true rfl),Y4];simp only [bs,Y4];cases Lk m.Nodes <;> rfl
def P0 (t:AC) (g:Graph) (i:Int):Bool:=O4 t (AB g.Edges i).Type' (AB g.Nodes (AB g.Edges i).From) (AB g.Nodes (AB g.Edges i).To)
end Go.Sf.Sc
namespace Go.Sf.Sc
open Go Go.Sf
structure Ps (p:Pattern):Prop where
 nodes:p.Graph.Nodes.length<=45
 edges:p.Graph.Edges.length<=90
 slots:p.Slots.length<=15
 tests:p.Tests.length<=15
structure bV (m:Morphism):Prop where
 nodes:m.Nodes.length<=140
 edges:m.Edges.length<=140
inductive D6:AA->Prop where
 | mk (c:AA) (hq:Ps c.Pattern) (hm:bV c.Map) (hk:∀ k∈c.Kids,D6 k):D6 c
theorem D6.q {c:AA} (h:D6 c):Ps c.Pattern:=by cases h; assumption
theorem D6.m {c:AA} (h:D6 c):bV c.Map:=by cases h; assumption
theorem D6.k {c:AA} (h:D6 c):∀ k∈c.Kids,D6 k:=by cases h; assumption
theorem FJ {c k:AA} (h:k∈c.Kids):SizeOf.sizeOf k<SizeOf.sizeOf c:=by
 have:=List.sizeOf_lt_of_mem h;cases c;simp only [AA.mk.sizeOf_spec] at *;omega
theorem EO (c:AA):0<SizeOf.sizeOf c:=by
 cases c;simp only [AA.mk.sizeOf_spec];omega
def OB (c:AA):Bool:=decide (c.Map.Nodes.length=0∧c.Map.Edges.length=0∧c.Pattern.Graph.Nodes.length=0∧c.Pattern.Graph.Edges.length=0∧c.Pattern.Slots.length=0∧c.Pattern.Tests.length=0∧c.Pattern.Vars=0)
theorem iy {c:AA} (b:D6 c):GW c=some (OB c):=by
 have a:=b.q;have d:=b.m;have:=a.nodes;have:=a.edges;have:=a.slots;have:=a.tests;have:=d.nodes;have:=d.edges;unfold GW OB;rw [BC (n:=(c.Map.Nodes.length:Int)+c.Map.Edges.length) (by omega) (by omega),BC (n:=(c.Map.Nodes.length:Int)+c.Map.Edges.length+c.Pattern.Graph.Nodes.length) (by omega) (by omega),
  BC (n:=(c.Map.Nodes.length:Int)+c.Map.Edges.length+c.Pattern.Graph.Nodes.length+c.Pattern.Graph.Edges.length) (by omega) (by omega),
  BC (n:=(c.Map.Nodes.length:Int)+c.Map.Edges.length+c.Pattern.Graph.Nodes.length+c.Pattern.Graph.Edges.length+c.Pattern.Slots.length) (by omega) (by omega),
  BC (n:=(c.Map.Nodes.length:Int)+c.Map.Edges.length+c.Pattern.Graph.Nodes.length+c.Pattern.Graph.Edges.length+c.Pattern.Slots.length+c.Pattern.Tests.length) (by omega) (by omega)]
 congr 1;rw [Bool.eq_iff_iff];simp only [zzZ,zzX];omega
theorem cb {c:AA} (b:D6 c):Is c=some (OB c):=by
 have a:=b.q;have d:=b.m;have:=a.nodes;have:=a.edges;have:=a.slots;have:=a.tests;have:=d.nodes;have:=d.edges;unfold Is OB;rw [BC (n:=(c.Map.Nodes.length:Int)+c.Map.Edges.length) (by omega) (by omega),BC (n:=(c.Map.Nodes.length:Int)+c.Map.Edges.length+c.Pattern.Graph.Nodes.length) (by omega) (by omega),
  BC (n:=(c.Map.Nodes.length:Int)+c.Map.Edges.length+c.Pattern.Graph.Nodes.length+c.Pattern.Graph.Edges.length) (by omega) (by omega),
  BC (n:=(c.Pattern.Slots.length:Int)+c.Pattern.Tests.length) (by omega) (by omega)]
 congr 1;rw [Bool.eq_iff_iff];simp only [zzZ,zzX];omega
def P8 (c:AA):Bool:=
 if c.Kind=1 then decide (c.Kids.length=0)&&OB c else if c.Kind=2 then decide (c.Kids.length=1)&&OB c else
 if c.Kind=3∨c.Kind=4 then decide (1<=c.Kids.length)&&OB c else if c.Kind=5 then decide (c.Kids.length=1) else false
def Pr:Nat->AA->Bool
 | 0,_=>false
 | n+1,c=>P8 c&&c.Kids.all (Pr n)
theorem jJ:∀ (N:Nat) (c:AA),SizeOf.sizeOf c<=N->D6 c->∀ n,2*N<=n->B3 n c=some (Pr N c)
 | 0,c,h,_,_,_=>by have:=EO c; omega
 | N+1,c,h,l,n,s=>by
  obtain ⟨n,rfl⟩:∃ m,n=m+2:=⟨n - 2,by omega⟩;rw [B3,Pr,iy l];have d:B1 c.Kids (B9 (n+1))=some (!c.Kids.all (Pr N)):=by
   rw [Vl (p:=fun k=>!Pr N k) (fun k d=>by
    have:=FJ d;rw [B9,jJ N k (by omega) (l.k k d) n (by omega)]; rfl),List.all_eq_not_any_not,Bool.not_not]
  rw [d];unfold P8;simp only [bs,zzX];generalize OB c=b;generalize c.Kids.all (Pr N)=w;have o:decide ((c.Kids.length:Int)=0)=decide (c.Kids.length=0):=by rw [decide_eq_decide]; omega
  have q:decide ((c.Kids.length:Int)=1)=decide (c.Kids.length=1):=by rw [decide_eq_decide]; omega
  have r:decide (1<=(c.Kids.length:Int))=decide (1<=c.Kids.length):=by rw [decide_eq_decide]; omega
  simp only [show ((c.Kids.length:Int)=0)↔c.Kids.length=0 by omega,show ((c.Kids.length:Int)=1)↔c.Kids.length=1 by omega,show (1<=(c.Kids.length:Int))↔1<=c.Kids.length by omega];by_cases e:c.Kind=1
  ·rw [d1 e,d1 e];by_cases a:c.Kids.length=0 <;> cases b <;> cases w <;> simp [a]
  ·rw [d2 e,d2 e];by_cases f:c.Kind=2
   ·rw [d1 f,d1 f];by_cases a:c.Kids.length=1 <;> cases b <;> cases w <;> simp [a]
   ·rw [d2 f,d2 f];by_cases i:c.Kind=3
    ·simp only [i,if_true,true_or];by_cases a:1<=c.Kids.length <;> cases b <;> cases w <;> simp [a]
    ·by_cases j:c.Kind=4
     ·simp only [j,if_true,or_true,show ¬ (4:Int)=3 by decide,if_false];by_cases a:1<=c.Kids.length <;> cases b <;> cases w <;> simp [a]
     ·simp only [i,j,if_false,or_false];by_cases g:c.Kind=5
      ·rw [d1 g,d1 g];by_cases a:c.Kids.length=1 <;> cases w <;> simp [a]
      ·rw [d2 g,d2 g];cases w <;> rfl
theorem jP {c:AA} (i:D6 c):MC c=some (P8 c):=by
 unfold MC P8;rw [cb i];simp only [bs,zzX];generalize OB c=b;simp only [show ((c.Kids.length:Int)=0)↔c.Kids.length=0 by omega,show ((c.Kids.length:Int)=1)↔c.Kids.length=1 by omega,show (0<(c.Kids.length:Int))↔1<=c.Kids.length by omega];by_cases d:c.Kind=1
 ·rw [d1 d,d1 d];by_cases a:c.Kids.length=0 <;> cases b <;> simp [a]
 ·rw [d2 d,d2 d];by_cases e:c.Kind=2
  ·rw [d1 e,d1 e];by_cases a:c.Kids.length=1 <;> cases b <;> simp [a]
  ·rw [d2 e,d2 e];by_cases g:c.Kind=3
   ·simp only [g,if_true,true_or,decide_true,bs];by_cases a:1<=c.Kids.length <;> cases b <;> simp [a]
   ·by_cases h:c.Kind=4
    ·simp only [h,if_true,or_true,show ¬ (4:Int)=3 by decide,if_false,decide_true,bs];by_cases a:1<=c.Kids.length <;> cases b <;> simp [a]
    ·simp only [g,h,if_false,or_false,decide_false,bs,Bool.false_eq_true];by_cases f:c.Kind=5
     ·rw [d1 f,d1 f]
     ·rw [d2 f,d2 f]
theorem iM {α:Type} [Inhabited α] {l:List α} {p:α->Bool}:l.all p=!anyR (fun i=>!p (AB l i)) 0 l.length:=by
 rw [List.all_eq_not_any_not,Jo]
theorem dz:∀ (N:Nat) (c:AA),SizeOf.sizeOf c<=N->D6 c->∀ n,N<=n->F9 n c=some (Pr N c)
 | 0,c,h,_,_,_=>by have:=EO c; omega
 | N+1,c,h,e,n,f=>by
  obtain ⟨n,rfl⟩:∃ m,n=m+1:=⟨n - 1,by omega⟩;rw [F9,Pr,jP e,bs,iM,CP (fun i=>!Pr N (AB c.Kids i)) false]
  ·cases P8 c
   ·rfl
   ·cases anyR (fun i=>!Pr N (AB c.Kids i)) 0 c.Kids.length <;> rfl
  ·intro i a b _;have d:=AS (l:=c.Kids) a b;have:=FJ d;rw [AK a b,bs,dz N _ (by omega) (e.k _ d) n (by omega),bs,Jt]
noncomputable def bQ (c:AA):Bool:=Pr (SizeOf.sizeOf c) c
theorem qB {c:AA} (a:D6 c):HD c=some (bQ c):=FV (2*SizeOf.sizeOf c) fun n b=>jJ _ c (d3 _) a n b
theorem qH {c:AA} (a:D6 c):NO c=some (bQ c):=FV (SizeOf.sizeOf c) fun n b=>dz _ c (d3 _) a n b
def KI:Nat->AA->Int × Int
 | 0,_=>(0,0)
 | n+1,c=>
  let s:=c.Kids.foldl (fun s k=>(A3 (s.1+(KI n k).1),max s.2 (KI n k).2)) ((1,0):Int × Int)
  (s.1,if c.Kind=5 then A3 (s.2+1) else s.2)
theorem Uw {α σ:Type} [Inhabited α] {l:List α} {g:σ->α->σ} {s:σ} {f:Int->σ->Option σ} (h:∀ (i:Int) s,0<=i->i<l.length->f i s=some (g s (AB l i))):forA f 0 l.length s=some (l.foldl g s):=by
 rw [E8 (fun i=>(l.take i.toNat).foldl g s) (by omega) (by simp)]
 ·rw [Int.toNat_natCast,List.take_length]
 ·intro i a b;rw [h i _ a b,GI a b,List.foldl_append]; rfl
theorem aI:∀ (N:Nat) (c:AA),SizeOf.sizeOf c<=N->∀ n,N<=n->DE n c=some (KI N c)
 | 0,c,h,_,_=>by have:=EO c; omega
 | N+1,c,h,n,e=>by
  obtain ⟨n,rfl⟩:∃ m,n=m+1:=⟨n - 1,by omega⟩;rw [DE,KI,Uw (g:=fun s k=>(A3 (s.1+(KI N k).1),max s.2 (KI N k).2))]
  ·simp only [bs,zzX];by_cases a:c.Kind=5
   ·rw [d1 a,d1 a]; rfl
   ·rw [d2 a,d2 a]; rfl
  ·intro i s b d;have:=FJ (AS (l:=c.Kids) b d);rw [AK b d,bs,aI N _ (by omega) n (by omega)]; rfl
theorem aV:∀ (N:Nat) (c:AA),SizeOf.sizeOf c<=N->∀ n,N<=n->GZ n c=some (KI N c)
 | 0,c,h,_,_=>by have:=EO c; omega
 | N+1,c,h,n,e=>by
  obtain ⟨n,rfl⟩:∃ m,n=m+1:=⟨n - 1,by omega⟩;rw [GZ,KI,Uw (g:=fun s k=>(A3 (s.1+(KI N k).1),max s.2 (KI N k).2))]
  ·simp only [bs,zzX];by_cases a:c.Kind=5
   ·rw [d1 a,d1 a]; rfl
   ·rw [d2 a,d2 a]; rfl
  ·intro i s b d;have:=FJ (AS (l:=c.Kids) b d);rw [AK b d,bs,aV N _ (by omega) n (by omega)]; rfl
noncomputable def QC (c:AA):Int × Int:=KI (SizeOf.sizeOf c) c
noncomputable def LN (c:AA):Int:=if bQ c=false then 1 else if 12<(QC c).1∨3<(QC c).2 then 3 else 0
theorem fj {c:AA} (a:D6 c):F6 c=some (LN c):=by
 unfold F6 LN;rw [qB a,bs,show IS c=some (QC c) from FV (SizeOf.sizeOf c) fun n b=>aI _ c (d3 _) n b,bs];exact Xk fun _=>Pb (by simp) fun _=>rfl
theorem f0 {c:AA} (a:D6 c):L9 c=some (LN c):=by
 unfold L9 LN;rw [qH a,bs,show N7 c=some (QC c) from FV (SizeOf.sizeOf c) fun n b=>aV _ c (d3 _) n b,bs];exact Xk fun _=>Pb (by simp) fun _=>rfl
theorem TQ (g:Graph):CZ g≠9:=by
 unfold CZ;split
 ·decide
 ·split
  ·decide
  ·split <;> decide
theorem QM {t:AC} {p:Pattern} (a:(BF t).2=0) (h:Jv t p=0∨Jv t p=9):0<=p.Vars∧p.Vars<=12:=by
 have b:=TQ p.Graph;unfold Jv at h;rw [d2 (by simp [a])] at h;split at h
 ·omega
 ·split at h
  ·omega
  ·split at h
   ·omega
   ·omega
def MO (t:AC) (q:Pattern) (v:Int):Int:=if Jv t q≠9 then Jv t q else if anyR (fun i=>!LB q i) v q.Vars=true then 9 else 0
theorem rM {α:Type} {P:Prop} [Decidable P] {v:α} {X:Option α} {Y:α} (h:P->X=some Y):(if (!decide P)=true then some v else X)=some (if ¬ P then v else Y):=by
 by_cases a:P
 ·simp [a,h a]
 ·simp [a]
theorem qA {t:AC} (e:BX t) (f:(BF t).2=0) {q:Pattern} {v:Int} (k:0<=v) (g:v<=q.Vars):EZ t q v=some (MO t q v):=by
 unfold EZ MO;rw [VY e,bs];refine rM fun d=>?_;have hv:=QM f (.inr d);rw [OQ (c:=fun i=>(if (!LB q i)=true then some () else none).map fun _=>.inr 9) (a:=v) (b:=q.Vars) g]
 ·rw [MX,O8];cases anyR (fun i=>!LB q i) v q.Vars <;> rfl
 ·intro i l j _;rw [d1 (by simpa using j),show (fun h=>Iy h i)=(fun y=>some (decide (y.Term.Var=i))) from rfl,fB,bs,show (q.Slots.any fun y=>decide (y.Term.Var=i))=LB q i from rfl,d,BC (by omega) (by omega)];cases LB q i <;> rfl
 ·rw [d2 (by simp)]
theorem fz (p:Pattern) (v:Int):M2 p v=some (LB p v):=eA p v
theorem qE {t:AC} (a:BX t) (q:Pattern) (v:Int):MB t v q=some (if q.Vars<v then 20 else MO t q v):=by
 unfold MB MO;refine Pb (by simp) fun _=>?_;rw [Y5 a,bs];refine rM fun b=>?_;rw [b,CP (fun i=>!LB q i) 9]
 ·cases anyR (fun i=>!LB q i) v q.Vars <;> rfl
 ·intro i c d _;rw [fz,bs,Jt]
def G2:Nat->AC->Pattern->AA->Int
 | 0,_,_,_=>0
 | N+1,t,p,c=>
  if c.Kind=5 then
   if c.Pattern.Vars<p.Vars then 20 else if MO t c.Pattern p.Vars≠0 then MO t c.Pattern p.Vars else
   if MP p.Graph c.Pattern.Graph c.Map≠0 then MP p.Graph c.Pattern.Graph c.Map else if K7 c.Map=false then 1 else
   (fst (fun i=>nz (G2 N t c.Pattern (AB c.Kids i))) 0 c.Kids.length).getD 0
  else (fst (fun i=>nz (G2 N t p (AB c.Kids i))) 0 c.Kids.length).getD 0
theorem bz {t:AC} (a:(BF t).2=0) {q:Pattern} {v:Int} (h:MO t q v=0):0<=q.Vars:=by
 unfold MO at h;split at h
 ·exact (QM a (.inl h)).1
 ·rename_i b;exact (QM a (.inr (Classical.not_not.1 b))).1
theorem aK {t:AC} (g:BX t) (e:(BF t).2=0):∀ (N:Nat) (c:AA) (p:Pattern),0<=p.Vars->SizeOf.sizeOf c<=N->∀ n,N<=n->C1 n t p c=some (G2 N t p c)
 | 0,c,p,_,h,_,_=>by have:=EO c; omega
 | N+1,c,p,o,h,n,w=>by
  obtain ⟨n,rfl⟩:∃ m,n=m+1:=⟨n - 1,by omega⟩;rw [C1,G2];have a:∀ q:Pattern,0<=q.Vars->(thenR (forR (ρ:=Int) (fun (r:Int) (_:Unit)=>
    (AL c.Kids r).bind fun f=>
    (C1 n t q f).bind fun b=>
    if (!decide (b=0))=true then
    some (.ret b)
    else
    some (.next ())) 0 (c.Kids.length:Int) ()) (fun _=>
    some 0) (fun s=>some s))=some ((fst (fun i=>nz (G2 N t q (AB c.Kids i))) 0 c.Kids.length).getD 0):=by
   intro q v;rw [CW (fun i=>nz (G2 N t q (AB c.Kids i))),HL];intro i j k _;have:=FJ (AS (l:=c.Kids) j k);rw [AK j k,bs,aK g e N _ q v (by omega) n (by omega),bs,Ph]
  by_cases d:c.Kind=5
  ·rw [d1 (by simpa using d),d1 d];refine Pb (by simp) fun hv=>?_;rw [qA g e o (by omega),bs];refine IR fun hi=>?_;rw [dw,bs];refine IR fun u=>?_;rw [p9 u,bs];exact Xk fun _=>a _ (bz e hi)
  ·rw [d2 (by simpa using d),d2 d];exact a p o
theorem aW {t:AC} (f:BX t):∀ (N:Nat) (c:AA) (p:Pattern),SizeOf.sizeOf c<=N->∀ n,N<=n->G5 n t p c=some (G2 N t p c)
 | 0,c,p,h,_,_=>by have:=EO c; omega
 | N+1,c,p,h,n,s=>by
  obtain ⟨n,rfl⟩:∃ m,n=m+1:=⟨n - 1,by omega⟩;rw [G5,G2];have a:∀ q:Pattern,(thenR (forR (ρ:=Int) (fun (k:Int) (_:Unit)=>
    (AL c.Kids k).bind fun e=>
    (G5 n t q e).bind fun b=>
    if (!decide (b=0))=true then
    some (.ret b)
    else
    some (.next ())) 0 (c.Kids.length:Int) ()) (fun _=>
    some 0) (fun o=>some o))=some ((fst (fun i=>nz (G2 N t q (AB c.Kids i))) 0 c.Kids.length).getD 0):=by
   intro q;rw [CW (fun i=>nz (G2 N t q (AB c.Kids i))),HL];intro i g j _;have:=FJ (AS (l:=c.Kids) g j);rw [AK g j,bs,aW f N _ q (by omega) n (by omega),bs,Ph]
  by_cases d:c.Kind=5
  ·rw [d1 (by simpa using d),d1 d,qE f,bs];by_cases hv:c.Pattern.Vars<p.Vars
   ·simp [hv]
   ·simp only [d2 hv];refine IR fun hi=>?_;rw [d8,bs];refine IR fun r=>?_;rw [qC r,bs];exact Xk fun _=>a _
  ·rw [d2 (by simpa using d),d2 d];exact a p
noncomputable def HZ (t:AC) (p:Pattern) (c:AA):Int:=if Jv t p≠0 then Jv t p else if LN c≠0 then LN c else G2 (SizeOf.sizeOf c) t p c
theorem iz {t:AC} (a:BX t) (b:(BF t).2=0) (p:Pattern) {c:AA} (d:D6 c):EK t p c=some (HZ t p c):=by
 unfold EK HZ;rw [VY a,bs];refine IR fun h=>?_;rw [fj d,bs,Option.bind_fun_some];exact IR fun _=>FV (SizeOf.sizeOf c) fun n e=>aK a b _ c p (QM b (.inl h)).1 (d3 _) n e
theorem Wd {t:AC} (a:BX t) (p:Pattern) {c:AA} (b:D6 c):Kj t p c=some (HZ t p c):=by
 unfold Kj HZ;rw [Y5 a,bs];refine IR fun h=>?_;rw [f0 b,bs,Option.bind_fun_some];exact IR fun _=>FV (SizeOf.sizeOf c) fun n d=>aW a _ c p (d3 _) n d
end Go.Sf.Sc
namespace Go.Sf.Sc
open Go Go.Sf
def leafB (t:AC) (l:Ne):Bool:=!(l.any fun k=>t.Nodes.any fun n=>decide (n.Parent=k))
end Go.Sf.Sc
namespace Go.Sf
theorem Rm {ρ:Type} {f:Int->Option (C2 Int ρ)} (p:Int->Bool) (v:ρ) {a b:Int} (d:a<=b) (h:∀ i,a<=i->i<b->f i=some (if p i=true then .ret v else .next (i+1))) (e:f b=some (.brk b)):Iw f a=some (if anyR p a b=true then .inr v else .inl b):=by
 rw [OQ (c:=fun i=>(if p i=true then some () else none).map fun _=>.inr v) d]
 ·rw [MX,O8];cases anyR p a b <;> rfl
 ·intro i g j _;rw [h i g j];cases p i <;> rfl
 ·exact e
theorem OL {α:Type} {e:α->TV} {n:Nat} {l:List α} (h:TV.Sm (.list n (l.map e))):(l.length:Int)<=140737488351232∧∀ x∈l,(e x).Sm:=by
 simp only [TV.Sm,d7] at h;refine ⟨by have:=h.1; unfold reachBytes at this; omega,fun x a=>Pm.1 h.2 _ (List.mem_map.2 ⟨x,a,rfl⟩)⟩
end Go.Sf
namespace Go.Sf.Sc
open Go Go.Sf
def Vj (a:Attr):Bool:=(decide (40<(a.Name.size:Int))||decide (25<(a.Names.length:Int)))||anyR (fun i=>decide (40<((AB a.Names i).size:Int))) 0 a.Names.length
theorem bf {a:Attr} (h:Vj a=false):Qm a:=by
 unfold Vj at h;simp only [Bool.or_eq_false_iff,decide_eq_false_iff_not,EQ] at h;refine ⟨by omega,by omega,fun x b=>?_⟩;obtain ⟨i,c,d,rfl⟩:=EH b;have:=h.2 i c d;omega
theorem Ub {t:AC} (P:(AU t).Sm):∃ b,Me t=some b∧(b=true->BX t):=by
 have F:TV.Sms [_,_]:=P;obtain ⟨o,J⟩:=OL (e:=F8) F.1;unfold Me;by_cases hl:20<t.Nodes.length∨30<t.Edges.length
 ·rw [d1 (by simp; omega)];exact ⟨false,rfl,fun h=>by cases h⟩
 rw [d2 (by simp; omega)];rcases V3 (f:=(fun (v:Int) (M:Int)=>
 (AL t.Nodes v).bind fun q=>
 (if (decide (30<(A3 (M+(q.Attrs.length:Int)))))=true then some true else ((AL t.Nodes v).bind fun A=>
 some (decide (40<(A.Name.size:Int))))).bind fun B=>
 if B=true then
 some (C2.ret false)
 else
 thenR (Iw (ρ:=Bool) (fun (s2:Int)=>
 (AL t.Nodes v).bind fun C=>
 if (decide (s2<(C.Attrs.length:Int)))=true then
 (AL t.Nodes v).bind fun D=>
 (AL D.Attrs s2).bind fun m=>
 if ((decide (40<(m.Name.size:Int)))||(decide (25<(m.Names.length:Int))))=true then
 some (.ret false)
 else
 thenR (Iw (ρ:=Bool) (fun (p:Int)=>
 if (decide (p<(m.Names.length:Int)))=true then
 (AL m.Names p).bind fun E=>
 if (decide (40<(E.size:Int)))=true then
 some (.ret false)
 else
 some (.next (A3 (p+1)))
 else
 some (.brk p)) 0) (fun p=>
 some (.next (A3 (s2+1)))) (fun Q=>some (.ret Q))
 else
 some (.brk s2)) 0) (fun s2=>
 some (.next (A3 (M+(q.Attrs.length:Int))))) (fun R=>some (.ret R))))
  (fun i s=>0<=s∧s<=30∧∀ j,0<=j->j<i->((AB t.Nodes j).Name.size:Int)<=40∧(AB t.Nodes j).Attrs.length<=30∧∀ a∈(AB t.Nodes j).Attrs,Qm a) (fun _=>False) (fun r=>r=false) (a:=0) (b:=t.Nodes.length) (s:=0) (by omega) ⟨by omega,by omega,fun j u g=>by omega⟩ (fun i s w x S=>by
   have U:=J _ (AS (l:=t.Nodes) w x);have G:TV.Sms [_,_,_,_]:=U;obtain ⟨N,K⟩:=OL (e:=IU) G.2.2.2.1;obtain ⟨Y,Z,L⟩:=S;have V:A3 (s+(AB t.Nodes i).Attrs.length)=s+(AB t.Nodes i).Attrs.length:=BC (by omega) (by omega);simp only [AK w x,bs,V,RK];by_cases O:30<s+(AB t.Nodes i).Attrs.length∨40<((AB t.Nodes i).Name.size:Int)
   ·rw [d1 (by simpa using O)];exact .inr (.inr ⟨_,rfl,rfl⟩)
   rw [d2 (by simpa using O)];rw [Rm (fun j=>Vj (AB (AB t.Nodes i).Attrs j)) false (b:=(AB t.Nodes i).Attrs.length) (by omega)]
   ·cases H:anyR (fun j=>Vj (AB (AB t.Nodes i).Attrs j)) 0 (AB t.Nodes i).Attrs.length
    ·refine .inl ⟨_,rfl,by omega,by omega,fun j y z=>?_⟩;by_cases W:j=i
     ·subst W;refine ⟨by omega,by omega,fun a N=>?_⟩;obtain ⟨k,d,c,rfl⟩:=EH N;exact bf (EQ.1 H k d c)
     ·exact L j y (by omega)
    ·exact .inr (.inr ⟨_,rfl,rfl⟩)
   ·intro j y z;rw [d1 (by simpa using z),AK y z,bs];have X:=K _ (AS (l:=(AB t.Nodes i).Attrs) y z);have I:TV.Sms [_,_,_,_]:=X;obtain ⟨hm,_⟩:=OL (e:=eS) I.2.2.2.1;unfold Vj;cases u:(decide (40<((AB (AB t.Nodes i).Attrs j).Name.size:Int))||decide (25<((AB (AB t.Nodes i).Attrs j).Names.length:Int)))
    ·rw [d2 (by decide),Rm (fun k=>decide (40<((AB (AB (AB t.Nodes i).Attrs j).Names k).size:Int))) false (b:=(AB (AB t.Nodes i).Attrs j).Names.length) (by omega)]
     ·cases anyR (fun k=>decide (40<((AB (AB (AB t.Nodes i).Attrs j).Names k).size:Int))) 0 (AB (AB t.Nodes i).Attrs j).Names.length
      ·rw [Bool.or_false,BC (show -9223372036854775808<=j+1 by omega) (by omega)]; rfl
      ·rfl
     ·intro k d c;rw [d1 (by simpa using c),AK d c,bs,BC (show -9223372036854775808<=k+1 by omega) (by omega),Jt]
     ·rw [d2 (by simp)]
    ·rfl
   ·rw [d2 (by simp)]) with ⟨s',u,g⟩ | ⟨r,u,g⟩
 ·rw [u];rcases g with g | g
  ·rw [D5,CP (fun i=>decide (40<((AB t.Edges i).Name.size:Int))) false]
   ·cases H:anyR (fun i=>decide (40<((AB t.Edges i).Name.size:Int))) 0 t.Edges.length
    ·refine ⟨true,rfl,fun _=>⟨by omega,by omega,fun n o=>?_,fun n o=>?_,fun n o=>?_,fun e T=>?_⟩⟩
     ·obtain ⟨k,d,c,rfl⟩:=EH o;exact (g.2.2 k d c).1
     ·obtain ⟨k,d,c,rfl⟩:=EH o;exact (g.2.2 k d c).2.1
     ·obtain ⟨k,d,c,rfl⟩:=EH o;exact (g.2.2 k d c).2.2
     ·obtain ⟨k,d,c,rfl⟩:=EH T;have:=EQ.1 H k d c;simpa using this
    ·exact ⟨false,rfl,fun h=>by cases h⟩
   ·intro i w x _;rw [AK w x,bs,Jt]
  ·exact g.elim
 ·rw [u];subst g;exact ⟨false,rfl,fun h=>by cases h⟩
theorem UA (p:Pattern):∃ b,Mg p=some b∧(b=true->Ps p):=by
 refine ⟨_,rfl,fun h=>?_⟩;simp only [zzZ,zzX] at h;exact ⟨by omega,by omega,by omega,by omega⟩
theorem fJ {a b:Int} (e:0<=a) (c:a<=140737488351232) (f:0<=b) (d:b<=140737488351232):A3 (a+b)=a+b:=BC (by omega) (by omega)
theorem fI {m:Morphism} (c:(B4 m).Sm):∃ b,PL m 140=some b∧(b=true->bV m):=by
 have a:TV.Sms [_,_]:=c;have d:=(OL (e:=eI) a.1).1;have f:=(OL (e:=eI) a.2.1).1;refine ⟨_,rfl,fun h=>?_⟩;rw [fJ (by omega) d (by omega) f] at h;simp only [zzX] at h;exact ⟨by omega,by omega⟩
theorem fD {c:AA} (h:(AF c).Sm):(B4 c.Map).Sm∧(c.Kids.length:Int)<=140737488351232∧∀ k∈c.Kids,(AF k).Sm:=by
 have b:TV.Sms [_,_,_,_,_,_,_,_,_]:=h;obtain ⟨_,a,d,e,_⟩:=b;rw [Kr] at a;obtain ⟨f,g⟩:=OL a;exact ⟨⟨d,e,trivial⟩,f,g⟩
end Go.Sf.Sc
