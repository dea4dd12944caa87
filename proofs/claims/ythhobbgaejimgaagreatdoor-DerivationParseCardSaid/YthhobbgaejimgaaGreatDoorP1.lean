/- Plain lemmas: what the functions of the program and of the reference compute. -/
import Derived.Test.YthhobbgaejimgaaGreatDoorSfRead
import Derived.Test.YthhobbgaejimgaaGreatDoorFns
import Derived.Test.YthhobbgaejimgaaGreatDoorSfPl
set_option linter.all false
set_option maxRecDepth 100000
namespace Go.Sf
theorem Qx{ρ τ:Type}{d:Int->Option ρ}{g:ρ->τ}:∀(n:Nat)(a:Int),EA (fun i=>(d i).map g) n a=(EA d n a).map g
 |0,_=>rfl|n+1,a=>by
  rw [EA,EA];cases d a with
  |some r=>rfl|none=>exact Qx n (a+1)
variable{a b:Int}
theorem OO{ρ τ:Type}{d:Int->Option ρ}{g:ρ->τ}:fst (fun i=>(d i).map g) a b=(fst d a b).map g:=Qx _ _
theorem Pq{ρ:Type}{d:Int->Option ρ}{r:ρ}:∀{n:Nat}{a:Int},EA d n a=some r->∃i,a<=i/\i<a+n/\d i=some r/\∀j,a<=j->j<i->d j=none
 |0,_,h=>by cases h
 |n+1,a,h=>by
  rw [EA]at h;cases hd:d a with
  |some u=>
   grind
  |none=>
   rw [hd]at h;obtain⟨i,f,m,o,q⟩:=Pq h
   grind
theorem DL{ρ:Type}{d:Int->Option ρ}{r:ρ}(h:fst d a b=some r):∃i,a<=i/\i<b/\d i=some r/\∀j,a<=j->j<i->d j=none:=by
 obtain ⟨i,f,m,o,q⟩:=Pq h
 grind
def CH(p:Int->Bool)(s:ByteArray):Int:=(fst (fun i=>if p (bt s i)then none else some i) 0 s.size).getD s.size
theorem Hd(p:Int->Bool)(s:ByteArray):0<=CH p s/\CH p s<=s.size/\(∀j,0<=j->j<CH p s->p (bt s j)=true)/\(CH p s<s.size->p (bt s (CH p s))=false):=by
 unfold CH;cases h:fst (fun i=>if p (bt s i)then none else some i) 0 s.size with
 |none=>
  rw [B0]at h
  grind
 |some r=>
  grind [DL,bt,Option.getD]
variable{s:ByteArray}
theorem PM(h:s≠⟨#[]⟩):0<s.size:=by
 rcases Nat.eq_zero_or_pos s.size with f|f
 .exfalso;apply h;cases s with|mk d=>congr 1;exact Array.eq_empty_of_size_eq_zero f
 .exact f
end Go.Sf
namespace Go.Sf.Sc
open Go Go.Sf
def By(c:Int):Bool:=((decide (97<=c))&&(decide (c<=122)))||((decide (65<=c))&&(decide (c<=90)))
def qk(c:Int):Bool:=(decide (48<=c))&&(decide (c<=57))
def FE(c:Int):Bool:=By c||qk c||decide (c=95)
theorem PA(c:Int):Hf c=some (By c):=rfl
theorem Lr(c:Int):G4 c=some (qk c):=rfl
theorem Me(c:Int):Hb c=some (By c):=rfl
theorem Od(c:Int):Fr c=some (qk c):=rfl
theorem WD(c:Int):JC c=some (FE c):=by
 unfold JC FE;rw[PA,bs,Lr]
 grind
variable{s:ByteArray}{p:Int->Bool}
theorem Ma(d:(s.size:Int)<=4611686018427387904){ok:Int->Fp}(h:∀c,ok c=some (p c)):Du s ok=some (CH p s):=by
 unfold Du;rw[Kh (c:=fun i=>(if p (bt s i)then none else some i).map .inl) (a:=0) (b:=s.size) (by omega)]
 .rw[OO];unfold CH;cases fst (fun i=>if p (bt s i)=true then none else some i) 0 s.size<;>rfl
 .grind[Dp,bt,Eu,Au]
 .simp
def DO(s:ByteArray):Bool:=decide (0<s.size)&&By (bt s 0)&&decide (s.size<=20)&&decide (CH FE s=s.size)
theorem Qf(l:List ByteArray)(v:ByteArray):∃k,slices_Index_string l v=some k/\(0<=k↔v∈l):=by
 unfold slices_Index_string;rw[DK (fun i=>if(v==at' l i)=true then some i else none)]
 .cases h:fst (fun i=>if(v==at' l i)=true then some i else none) 0 l.length with
  |none=>
   rw [B0]at h;refine⟨-1,rfl,by omega,fun m=>?_⟩
   grind [Cf]
  |some k=>
   obtain ⟨i,d,f,o,_⟩:=DL h;have j:(v==at' l i)=true/\i=k:=by
    grind
   obtain ⟨j,rfl⟩:=j;refine⟨i,rfl,fun _=>?_,fun _=>d⟩
   grind [BC]
 .intro i d f _;simp only[As d f,bs];split<;>rfl
theorem H1(l:List ByteArray)(v:ByteArray):slices_Contains_string l v=some (l.contains v):=by
 unfold slices_Contains_string;obtain⟨k,d,f⟩:=Qf l v
 grind
theorem da(y:0<s.size)(u:(s.size:Int)<=4611686018427387904):∃k n e,DF s=some (k,n,e)/\(((decide (e=0))&&(decide (k=1)))&&(decide (n=(s.size:Int))))=DO s:=by
 have E:=Hd FE s;unfold DF DO;simp only[Dp (Int.le_refl 0) (show(0:Int)<s.size by omega),bs,PA,Lr,Ma u WD,Ma u Lr,y,decide_true,Bool.true_and];by_cases d:By (bt s 0)=true
 .rw[QQ d];by_cases f:20<CH FE s
  .refine⟨0,0,3,by simp[f],?_⟩;simp[d];intro D h;omega
  .refine⟨1,_,0,by rw[a6 (by simpa using f)],?_⟩;simp only[d,decide_true,Bool.true_and];rw[Bool.eq_iff_iff];simp only[sc,q8];omega
 .rw[a6 d];have j:By (bt s 0)=false:=by simpa using d
  rw [j,Bool.false_and,Bool.false_and];by_cases hd:qk (bt s 0)=true
  .rw[QQ hd];by_cases w:9<CH qk s
   .exact⟨0,0,3,by simp[w],by simp⟩
   .exact⟨2,_,0,by rw[a6 (by simpa using w)],by simp⟩
  .rw[a6 hd];by_cases x:bt s 0=34
   .have z:=FM (s:=s) (a:=1) (b:=s.size) (by omega) (by omega) (by omega);have m:∀c,GH c=some (((decide (32<=c))&&(decide (c<=126)))&&(!decide (c=34))):=fun _=>rfl;have A:=Hd (fun c=>((decide (32<=c))&&(decide (c<=126)))&&(!decide (c=34))) (s.extract (1:Int).toNat (s.size:Int).toNat);have o:∃n e,DD s=some (n,e):=by
     unfold DD;rw[Cs (by omega) (by omega) (by omega),bs,Ma (by omega) m,bs];rw[Au (by omega) (by omega)];by_cases he:1+CH (fun c=>((decide (32<=c))&&(decide (c<=126)))&&(!decide (c=34))) (s.extract (1:Int).toNat (s.size:Int).toNat)=s.size
     .refine⟨0,2,?_⟩;simp only[he,decide_true,if_true,bs]
     .simp only[he,decide_false,Bool.false_eq_true,if_false];rw[Dp (by omega) (by omega)];simp only[bs];split
      .exact⟨_,_,rfl⟩
      .split
       .exact⟨_,_,rfl⟩
       .exact⟨_,_,rfl⟩
    obtain ⟨n,e,q⟩:=o;refine⟨3,n,e,by rw[QQ (by simpa using x),q];rfl,by simp⟩
   .rw[a6 (by simpa using x)];have B:∃b,Gl s=some b:=by
     unfold Gl;by_cases h:2<=(s.size:Int)
     .rw[QQ (by simpa using h),Cs (by omega) (by omega) h];simp only[bs,H1];exact⟨_,rfl⟩
     .rw[a6 (by simpa using h)];exact⟨_,rfl⟩
    obtain ⟨b,C⟩:=B;rw[C,bs];cases b
    .simp only[Bool.false_eq_true,if_false,strings_IndexByte,bs];split
     .exact⟨_,_,_,rfl,rfl⟩
     .exact⟨_,_,_,rfl,rfl⟩
    .exact⟨_,_,_,rfl,rfl⟩
theorem MZ(d:(s.size:Int)<=4611686018427387904):CY s=some (DO s):=by
 unfold CY DX;simp only[show decide ((1:Int)=3)=false from rfl,Bool.false_eq_true,if_false,bs];by_cases he:s=⟨#[]⟩
 .subst he;rfl
 grind [da,PM]
theorem dr(o:(s.size:Int)<=4611686018427387904)(d:Bool):∃n,Hc s 0 d=some n/\0<=n/\n<=s.size/\(d=false->n=CH FE s):=by
 have h:=Hd (fun c=>qk c||(!d&&(By c||decide (c=95)))) s;refine⟨CH (fun c=>qk c||(!d&&(By c||decide (c=95)))) s,?_,h.1,h.2.1,fun hd=>?_⟩
 .unfold Hc;rw[Kh (c:=fun i=>(if(qk (bt s i)||(!d&&(By (bt s i)||decide (bt s i=95))))then none else some i).map .inl) (a:=0) (b:=s.size) (by omega)]
  .rw[OO];unfold CH;cases fst (fun i=>if(qk (bt s i)||(!d&&(By (bt s i)||decide (bt s i=95))))=true then none else some i) 0 s.size<;>rfl
  .intro i m f _;have j:AT (0+i)=i:=by rw[Au (by omega) (by omega)];omega
   simp only[j,f,decide_true,if_true,Dp m f,bs,Od,Me]
   grind [qk,bt,By,Eu,Au]
  .have j:AT (0+(s.size:Int))=s.size:=by rw[Au (by omega) (by omega)];omega
   grind
 .subst hd;congr 1
  grind [FE,By,qk]
theorem Xt(o:0<s.size)(q:(s.size:Int)<=4611686018427387904):∃n,E1 s 0=some n/\(n=0\/(2<=n/\n<=s.size)):=by
 unfold E1;rw[Kh (c:=fun i=>if decide (bt s i=34)=true then some (Sum.inr (i+1):Int ⊕ Int)else if(decide (bt s i<32)||decide (126<bt s i))=true then some (Sum.inr 0)else none) (a:=1) (b:=s.size) (by omega)]
 .cases h:fst (fun i=>if decide (bt s i=34)=true then some (Sum.inr (i+1):Int ⊕ Int)else if(decide (bt s i<32)||decide (126<bt s i))=true then some (Sum.inr 0)else none) 1 s.size with
  |none=>exact⟨0,rfl,.inl rfl⟩|some r=>
   obtain ⟨i,m,f,d,_⟩:=DL h;split at d
   .cases d;exact⟨_,rfl,.inr (by omega)⟩
   .split at d
    .cases d;exact⟨_,rfl,.inl rfl⟩
    .cases d
 .intro i m f _;have j:AT (0+i)=i:=by rw[Au (by omega) (by omega)];omega
  simp only[j,f,decide_true,if_true,Dp (show 0<=i by omega) f,bs,Au (show -9223372036854775808<=i+1 by omega) (by omega)];split
  .rfl
  .split<;>rfl
 .have j:AT (0+(s.size:Int))=s.size:=by rw[Au (by omega) (by omega)];omega
  grind
theorem iD(O:0<s.size)(P:(s.size:Int)<=4611686018427387904):∃t n e,FY s 0=some (t,n,e)/\(((decide (e=0))&&(decide (n=(s.size:Int))))&&(decide (t.qh=1)))=DO s:=by
 obtain ⟨m,M,u,w,N⟩:=dr P (qk (bt s 0));unfold FY DO;simp only[Dp (Int.le_refl 0) (show(0:Int)<s.size by omega),bs,Me,Od,O,decide_true,Bool.true_and,M];have Q:AT (0+m)=m:=by rw[Au (by omega) (by omega)];omega
 by_cases F:By (bt s 0)=true
 .have hd:qk (bt s 0)=false:=by
   unfold By at F;unfold qk
   grind
  have V:=N hd;subst V;simp only[F,if_true,hd,Bool.false_eq_true,if_false,bs,Q];by_cases q:20<CH FE s
  .refine⟨_,_,_,by rw[QQ (by simpa using q)],?_⟩
   grind
  .rw[a6 (by simpa using q),Cs (Int.le_refl _) u w];refine⟨_,_,_,rfl,?_⟩
   grind
 .have G:By (bt s 0)=false:=by simpa using F
  simp only[G,Bool.false_eq_true,if_false,bs,Bool.false_and,Q];by_cases hd:qk (bt s 0)=true
  .simp only[hd,if_true,bs];by_cases S:9<m
   .exact⟨_,_,_,by rw[QQ (by simpa using S)],by simp⟩
   .rw[a6 (by simpa using S),Cs (Int.le_refl _) u w];exact⟨_,_,_,rfl,by simp⟩
  .have H:qk (bt s 0)=false:=by simpa using hd
   simp only[H,Bool.false_eq_true,if_false,bs];by_cases T:bt s 0=34
   .obtain⟨n,hn,y⟩:=Xt O P;rw[QQ (by simpa using T),hn,bs];rcases y with rfl|y
    .grind
    .rw[a6 (by simp;omega)];split
     .grind
     .have W:AT (0+1)=1:=by decide
      have Z:AT (0+n)=n:=by rw[Au (by omega) (by omega)];omega
      rw [W,Z,Au (show -9223372036854775808<=n-1 by omega) (by omega),Cs (by omega) (by omega) (by omega)];exact⟨_,_,_,rfl,by simp⟩
   .rw[a6 (by simpa using T)];unfold H6;rw[bs];generalize hL:([(⟨#[45,62]⟩:ByteArray),(⟨#[60,61]⟩:ByteArray),(⟨#[62,61]⟩:ByteArray),(⟨#[61,61]⟩:ByteArray),(⟨#[33,61]⟩:ByteArray),(⟨#[123]⟩:ByteArray),(⟨#[125]⟩:ByteArray),(⟨#[40]⟩:ByteArray),(⟨#[41]⟩:ByteArray),(⟨#[91]⟩:ByteArray),(⟨#[93]⟩:ByteArray),(⟨#[44]⟩:ByteArray),(⟨#[59]⟩:ByteArray),(⟨#[58]⟩:ByteArray),(⟨#[61]⟩:ByteArray),(⟨#[43]⟩:ByteArray),(⟨#[45]⟩:ByteArray),(⟨#[42]⟩:ByteArray),(⟨#[60]⟩:ByteArray),(⟨#[62]⟩:ByteArray),(⟨#[33]⟩:ByteArray),(⟨#[38]⟩:ByteArray),(⟨#[124]⟩:ByteArray),(⟨#[46]⟩:ByteArray),(⟨#[63]⟩:ByteArray)]:List ByteArray)=L;have I:∀x∈L,x.size<=2:=by subst hL;decide
    rcases SA (f:=(fun(h:Int)(U:Ap)=>
      (idx L h).bind fun A=>
      (if(decide ((AT (0+(A.size:Int)))<=(s.size:Int)))=true then((idx L h).bind fun B=>
      (rB s 0 (AT (0+(B.size:Int)))).bind fun C=>
      (idx L h).bind fun D=>
      some (C==D))else some false).bind fun E=>
      if E=true then
      (idx L h).bind fun j=>
      (idx L h).bind fun o=>
      some (Bk.ret (Ap.mk 4 j 0,(o.size:Int),(0:Int)))
      else
      some (Bk.next U))) (fun _ s=>True) (fun _=>True) (fun r=>r.1.qh=4) (a:=0) (b:=L.length) (s:=Ap.mk 0 (⟨#[]⟩:ByteArray) 0) (by omega) trivial (fun i t d z _=>by
      have hx:=I _ (BC d z);have J:AT (0+((at' L i).size:Int))=(at' L i).size:=by rw[Au (by omega) (by omega)];omega
      simp only[As d z,bs,J];by_cases K:((at' L i).size:Int)<=s.size
      .rw[QQ (by simpa using K),Cs (by omega) (by omega) K];simp only[bs];split
       .exact .inr (.inr ⟨_,rfl,rfl⟩)
       .exact .inl ⟨_,rfl,trivial⟩
      .rw[a6 (by simpa using K)];simp only[bs];exact .inl ⟨_,rfl,trivial⟩)with⟨s',d,_⟩|⟨r,d,z⟩
    .rw[d];exact⟨_,_,_,rfl,by simp⟩
    .rw[d];exact⟨_,_,_,rfl,by simp[z]⟩
theorem Md(d:(s.size:Int)<=4611686018427387904):EG s=some (DO s):=by
 unfold EG Fo Ix;simp only[show decide ((1:Int)=3)=false from rfl,Bool.false_eq_true,if_false,bs];by_cases he:s=⟨#[]⟩
 .subst he;rfl
 grind [iD,PM]
end Go.Sf.Sc
namespace Go.Sf
variable{ρ β:Type}
def nz(e:Int):K1:=if e=0 then none else some e
theorem WA(e:Int):(if(!decide (e=0))=true then some (Bk.ret e)else some (Bk.next ()))=some (LQ (nz e)):=by grind[nz,LQ]
theorem cY(b:Bool)(r:ρ):(if b=true then some (Bk.ret r)else some (Bk.next ()))=some (LQ (if b=true then some r else none)):=by
 cases b<;>rfl
theorem IY{σ:Type}{s:σ}{k:σ->Option β}{d:ρ->Option β}:hV (some (.inl s)) k d=k s:=rfl
theorem Fd(o:Option ρ)(k:Unit->Option β)(d:ρ->Option β):hV (some (Y3 o)) k d=match o with|none=>k ()|some r=>d r:=by
 cases o<;>rfl
theorem Ka(o:K1):hV (some (Y3 o)) (fun _=>some 0) (fun v=>some v)=some (o.getD 0):=by
 cases o<;>rfl
variable{a b:Int}
theorem Pr{c:Int->Int}(h:(fst (fun i=>nz (c i)) a b).getD 0=0):∀i,a<=i->i<b->c i=0:=by
 have:fst (fun i=>nz (c i)) a b=none:=by
  cases hf:fst (fun i=>nz (c i)) a b with
  |none=>rfl|some r=>
   grind [Option.getD,DL,nz]
 grind [B0,nz]
variable{e:Int}
theorem Ke:nz e=none↔e=0:=by grind[nz]
theorem SF{α:Type}[Inhabited α]{l:List α}{f:α->Fp}{p:α->Bool}(h:∀x∈l,f x=some (p x)):
  (hV (pq (ρ:=Int) (fun(m:Int)(_:Unit)=>(idx l m).bind fun d=>(f d).bind fun j=>if j=true then some (.ret m)else some (.next ())) 0 (l.length:Int) ()) (fun _=>some (-1)) (fun u=>some u))=
   some ((fst (fun i=>if p (at' l i)=true then some i else none) 0 l.length).getD (-1)):=by
 rw [DK (fun i=>if p (at' l i)=true then some i else none)]
 .rw[Fd];cases fst (fun i=>if p (at' l i)=true then some i else none) 0 l.length<;>rfl
 .intro i o q _;rw[As o q,bs,h _ (BC o q),bs,cY]
theorem Q1{α:Type}[Inhabited α]{l:List α}{p:α->Bool}:decide (0<=(fst (fun i=>if p (at' l i)=true then some i else none) 0 l.length).getD (-1))=l.any p:=by
 rw [PZ,ra];cases h:fst (fun i=>if p (at' l i)=true then some i else none) 0 l.length with
 |none=>
  grind [B0,Option.isSome,Option.isSome_eq_false_iff,Option.isNone_iff_eq_none,at']
 |some k=>
  grind [DL,at',Option.getD,Option.isSome,Option.isSome_iff_ne_none,B0]
theorem Gx{α:Type}[Inhabited α]{l:List α}{f:α->Fp}{p:α->Bool}(h:∀x∈l,f x=some (p x)):
  ((hV (pq (ρ:=Int) (fun(m:Int)(_:Unit)=>(idx l m).bind fun d=>(f d).bind fun j=>if j=true then some (.ret m)else some (.next ())) 0 (l.length:Int) ()) (fun _=>some (-1)) (fun o=>some o)).bind fun q=>some (decide (0<=q)))=some (l.any p):=by
 rw [SF h,bs,Q1]
end Go.Sf
namespace Go.Sf.Sc
open Go Go.Sf
instance:Inhabited o3:=⟨⟨⟨#[]⟩,0,0,[]⟩⟩
instance:Inhabited Ba:=⟨⟨⟨#[]⟩,0,false,[]⟩⟩
instance:Inhabited Bl:=⟨⟨⟨#[]⟩,0,0,0,0,0,0⟩⟩
instance:Inhabited Bv:=⟨⟨0,0,0⟩⟩
instance:Inhabited CT:=⟨⟨0,0,⟨0,0⟩⟩⟩
instance:Inhabited Test:=⟨⟨0,⟨0,0⟩,⟨0,0⟩⟩⟩
instance:Inhabited fd:=⟨⟨0,[],⟨[],[]⟩,⟨⟨[],[]⟩,[],0,[]⟩⟩⟩
variable{l:D1}{p:Int->Bool}
theorem cc{f:Int->Fp}(h:∀x∈l,f x=some (p x)):Ag l f=some (l.any p):=Gx h
theorem Zz{l:List Bv}{f:Bv->Fp}{p:Bv->Bool}(h:∀x∈l,f x=some (p x)):BM l f=some (l.any p):=Gx h
theorem S5{l:List Ba}{p:Ba->Bool}:Be l (fun x=>some (p x))=some (l.any p):=Gx (fun _ _=>rfl)
theorem S4{l:List Bl}{p:Bl->Bool}:Bc l (fun x=>some (p x))=some (l.any p):=Gx (fun _ _=>rfl)
theorem Z0{l:List o3}{p:o3->Bool}:B1 l (fun x=>some (p x))=some (l.any p):=Gx (fun _ _=>rfl)
theorem cd:Ag l (fun x=>some (p x))=some (l.any p):=Gx (fun _ _=>rfl)
theorem cw(l:D1)(v:Int):slices_Index_int l v=some ((fst (fun i=>if decide (v=at' l i)=true then some i else none) 0 l.length).getD (-1)):=by
 have:=SF (l:=l) (f:=fun x=>some (decide (v=x))) (p:=fun x=>decide (v=x)) (fun _ _=>rfl);unfold slices_Index_int
 grind
theorem cj(l:D1)(v:Int):slices_Contains_int l v=some (l.any fun x=>decide (v=x)):=by grind[slices_Contains_int,cw,Q1]
structure Oy(a:o3):Prop where
 name:(a.og.size:Int)<=40
 names:a.qu.length<=25
 each:∀x∈a.qu,(x.size:Int)<=40
structure CX(t:AB):Prop where
 k7:t.ci.length<=20
 qr:t.d6.length<=30
 name:∀n∈t.ci,(n.og.size:Int)<=40
 uB:∀n∈t.ci,n.qv.length<=30
 each:∀n∈t.ci,∀a∈n.qv,Oy a
 ename:∀e∈t.d6,(e.og.size:Int)<=40
def par(t:AB)(i:Int):Int:=(at' t.ci i).ru
def Da(t:AB)(k:Int):Prop:=∀i,0<=i->i<k->-1<=par t i/\par t i<i
def BY(t:AB):Nat->Int->List o3
 |0,_=>[]|n+1,a=>if a<0 then[]else BY t n (par t a)++(at' t.ci a).qv
def Aq(t:AB)(a:Int):List o3:=BY t (a+1).toNat a
variable{t:AB}{n:Nat}{a:Int}
theorem GP(h:a<0):BY t n a=[]:=by
 cases n with
 |zero=>rfl|succ n=>rw[BY,QQ h]
variable{k:Int}
theorem IQ(d:Da t k):∀(n m:Nat)(a:Int),a<k->a<n->a<m->BY t n a=BY t m a
 |n,m,a,h,j,o=>by
  by_cases f:a<0
  .grind[GP]
  .cases n with
   |zero=>omega|succ n=>
    cases m with
    |zero=>omega|succ m=>
     rw [BY,BY,a6 f,a6 f];have:=d a (by omega) h;rw[IQ d n m (par t a) (by omega) (by omega) (by omega)]
theorem Ic(hf:CX t)(f:k<=t.ci.length)(d:Da t k):∀(n:Nat)(a:Int),a<k->((BY t n a).length:Int)<=30*n
 |0,_,_=>by simp[BY]|n+1,a,h=>by
  rw [BY];split
  .simp;omega
  .rename_i j;have m:=d a (by omega) h;have o:=Ic hf f d n (par t a) (by omega);have q:=hf.uB _ (BC (l:=t.ci) (show 0<=a by omega) (by omega))
   grind
theorem Pb(hf:CX t)(h:k<=t.ci.length)(f:Da t k):∀(n:Nat)(a:Int),a<k->∀x∈BY t n a,Oy x
 |0,_,_=>by simp[BY]|n+1,a,j=>by
  rw [BY];split
  .simp
  .rename_i m;have o:=f a (by omega) j;intro x d;rcases List.mem_append.1 d with d|d
   .exact Pb hf h f n (par t a) (by omega) x d
   .exact hf.each _ (BC (l:=t.ci) (show 0<=a by omega) (by omega)) x d
theorem Ig(hf:CX t)(d:k<=t.ci.length)(f:Da t k)(h:a<k):(Aq t a).length<=600:=by
 have:=Ic hf d f (a+1).toNat a h;have:=hf.k7;unfold Aq;omega
theorem If(hf:CX t)(d:k<=t.ci.length)(f:Da t k)(h:a<k):∀x∈Aq t a,Oy x:=Pb hf d f _ a h
theorem SS(hf:CX t)(j:k<=t.ci.length)(h:Da t k):∀(n:Nat)(a:Int),0<=a->a<k->a<n->CS n t a=some (BY t n a)
 |0,_,_,_,_=>by omega|n+1,a,o,y,C=>by
  have z:=h a (by omega) y;have q:=Ic hf j h n (par t a) (by omega);have A:=hf.uB _ (BC (l:=t.ci) o (by omega));have B:=hf.k7;rw[CS,BY,a6 (by omega),As o (by omega)];simp only[bs];show((if decide (0<=par t a)=true then(CS n t (par t a)).bind fun f=>some f else some []).bind _)=_;have e:(if decide (0<=par t a)=true then(CS n t (par t a)).bind fun f=>some f else some [])=some (BY t n (par t a)):=by
   by_cases m:0<=par t a
   .rw[QQ (by simpa using m),SS hf j h n (par t a) m (by omega) (by omega)];rfl
   .rw[a6 (by simpa using m),GP (by omega)]
  have u:(BY t n (par t a)).length+(at' t.ci a).qv.length<=Bi:=by
   unfold Bi;have:((BY t n (par t a)).length:Int)<=30*n:=q;have w:BY t n (par t a)=BY t 20 (par t a):=by
    by_cases d:par t a<0
    .rw[GP d,GP d]
    .exact IQ h n 20 (par t a) (by omega) (by omega) (by omega)
   have x:=Ic hf j h 20 (par t a) (by omega);rw[<-w]at x;omega
  rw [e,bs,DM u];rfl
theorem Tt(hf:CX t)(d:k<=t.ci.length)(f:Da t k)(h:0<=a)(j:a<k):G6 t a=some (Aq t a):=
 Nx (a+1).toNat fun n m=>by
  grind [SS,Aq,IQ]
theorem ST(hf:CX t)(h:k<=t.ci.length)(f:Da t k):∀(n:Nat)(a:Int),-1<=a->a<k->a+1<n->EH n t a=some (BY t n a)
 |0,_,_,_,_=>by omega|n+1,a,y,q,z=>by
  rw [EH,BY];by_cases d:a<0
  .grind
  .have u:=f a (by omega) q;have w:=hf.uB _ (BC (l:=t.ci) (show 0<=a by omega) (by omega));have x:=hf.k7;rw[a6 (by simpa using d),a6 d,As (by omega) (by omega)];simp only[bs];have j:BY t n (par t a)=BY t 20 (par t a):=by
    by_cases d:par t a<0
    .rw[GP d,GP d]
    .exact IQ f n 20 (par t a) (by omega) (by omega) (by omega)
   have m:=Ic hf h f 20 (par t a) (by omega);rw[<-j]at m;have o:(BY t n (par t a)).length+(at' t.ci a).qv.length<=Bi:=by unfold Bi;omega
   rw [show(at' t.ci a).ru=par t a from rfl,ST hf h f n (par t a) (by omega) (by omega) (by omega),bs,DM (by simp;unfold Bi;omega)];simp only[bs,List.nil_append];rw[DM o];rfl
theorem Tw(hf:CX t)(d:k<=t.ci.length)(f:Da t k)(h:0<=a)(j:a<k):Jp t a=some (Aq t a):=
 Nx (a+2).toNat fun n m=>by
  grind [ST,Aq,IQ]
end Go.Sf.Sc
namespace Go.Sf.Sc
open Go Go.Sf
def HZ(l:List ByteArray):Int:=
 if (20:Int)<l.length then 3 else(fst (fun i=>if DO (at' l i)=false then some 2 else if ra (fun j=>at' l j==at' l i) 0 i=true then some 5 else none) 0 l.length).getD 0
variable{b:Int}
theorem R1{l:List ByteArray}{x:ByteArray}(d:0<=b)(f:b<=l.length):(l.take b.toNat).contains x=ra (fun j=>at' l j==x) 0 b:=by
 rw [List.contains_eq_any_beq,L4 d f]
 grind
theorem aW{l:List ByteArray}(m:∀x∈l,(x.size:Int)<=40):Em l=some (HZ l):=by
 unfold Em HZ;by_cases d:(20:Int)<l.length
 .grind
 .rw[a6 (by simpa using d),a6 d];rw[DK (fun i=>if DO (at' l i)=false then some 2 else if ra (fun j=>at' l j==at' l i) 0 i=true then some 5 else none),Ka];intro i f h _;have o:=m _ (BC f h);rw[As f h,bs,MZ (by omega),bs,Mm f (by omega)];simp only[bs,H1,R1 f (show i<=l.length by omega)];cases DO (at' l i)<;>cases ra (fun j=>at' l j==at' l i) 0 i<;>rfl
theorem ah{l:List ByteArray}(m:∀x∈l,(x.size:Int)<=40):H8 l=some (HZ l):=by
 unfold H8 HZ;by_cases d:(20:Int)<l.length
 .grind
 .rw[a6 (by simpa using d),a6 d];rw[DK (fun i=>if DO (at' l i)=false then some 2 else if ra (fun j=>at' l j==at' l i) 0 i=true then some 5 else none),Ka];intro i f h _;have o:=m _ (BC f h);rw[As f h,bs,Md (by omega),bs,Dh (fun j=>at' l j==at' l i) 5]
  .cases DO (at' l i)<;>cases ra (fun j=>at' l j==at' l i) 0 i<;>rfl
  grind [As]
def Jg(all:List o3)(k:Int):Int:=
 let x:=at' all k
 if DO x.og=false then 2 else if ra (fun j=>(at' all j).og==x.og) 0 k=true then 5 else
 if x.qu.length=0 then(if -1000000<=x.s7/\x.s7<=x.sb/\x.sb<=1000000 then 0 else 6)else
 if HZ x.qu≠0 then HZ x.qu else if x.s7=0/\x.sb=x.qu.length-1 then 0 else 6
variable{k:Int}
theorem TH{d:List o3}(o:∀x∈d,Oy x)(m:0<=k)(q:k<d.length):C5 (at' d k) (d.take k.toNat)=some (Jg d k):=by
 have j:=o _ (BC m q);have z:=j.name;unfold C5 Jg;dsimp only;rw[MZ (by omega),bs,show(fun f=>F2 f (at' d k))=(fun f=>some (f.og==(at' d k).og))from rfl,Z0,bs,L4 m (by omega),aW j.each,bs];have u:=j.names;have w:AT ((at' d k).qu.length-1)=(at' d k).qu.length-1:=Au (by omega) (by omega);rw[w];have y:(at' d k).qu.length=0->HZ (at' d k).qu=0:=fun h=>by rw[List.eq_nil_of_length_eq_zero h];rfl
 generalize HZ (at' d k).qu=e at y|-;simp only[bs,sc,Bool.or_eq_true,q8,Bool.not_eq_true',decide_eq_false_iff_not,Bool.not_eq_false',Bool.or_eq_false_iff,Bool.and_eq_false_iff,ne_eq]
 repeat' (first|rfl|(exfalso;omega;done)|split)
 all_goals (first|rfl|(exfalso;omega)|omega|simp_all|(simp_all;omega))
theorem TI{x:o3}(d:Oy x):FZ x=some (
 if x.qu.length=0 then(if -1000000<=x.s7/\x.s7<=x.sb/\x.sb<=1000000 then 0 else 6)else
 if HZ x.qu≠0 then HZ x.qu else if x.s7=0/\x.sb=x.qu.length-1 then 0 else 6):=by
 have f:=d.names;have h:AT (x.qu.length-1)=x.qu.length-1:=Au (by omega) (by omega);unfold FZ Cd;simp only[bs,h,ah d.each];generalize HZ x.qu=e;simp only[bs,sc,Bool.or_eq_true,q8,Bool.not_eq_true',decide_eq_false_iff_not,Bool.not_eq_false',Bool.or_eq_false_iff,Bool.and_eq_false_iff,ne_eq]
 repeat' (first|rfl|(exfalso;omega;done)|split)
 all_goals (first|rfl|(exfalso;omega)|omega|simp_all|(simp_all;omega))
def F1(t:AB)(i:Int):Int:=
 let n:=at' t.ci i
 if DO n.og=false then 2 else if ra (fun j=>(at' t.ci j).og==n.og) 0 i=true then 5 else
 if n.ru< -1\/i<=n.ru then 6 else if 4<n.qv.length\/8<(Aq t i).length then 3 else
 (fst (fun k=>nz (Jg (Aq t i) k)) ((Aq t i).length-n.qv.length) (Aq t i).length).getD 0
variable{t:AB}{i:Int}
theorem Pd(d:0<=i):(at' t.ci i).qv.length<=(Aq t i).length:=by
 unfold Aq;rw[show(i+1).toNat=i.toNat+1 by omega,BY,a6 (by omega),az];omega
theorem Da.next(h:Da t i)(f:-1<=par t i)(m:par t i<i):Da t (i+1):=by
 intro j d o;by_cases q:j=i
 .grind
 .exact h j d (by omega)
theorem db(hf:CX t)(f:0<=i)(u:i<t.ci.length)(z:Da t i):Ff t i=some (F1 t i):=by
 have B:=hf.name _ (BC f u);unfold Ff F1;dsimp only;rw[As f u,bs,MZ (by omega),bs,Mm f (by omega),bs,show(fun o=>JF o (at' t.ci i))=(fun o=>some (o.og==(at' t.ci i).og))from rfl,S5,bs,L4 f (by omega)];cases DO (at' t.ci i).og
 .rfl
 .cases ra (fun j=>(at' t.ci j).og==(at' t.ci i).og) 0 i
  .by_cases h:(at' t.ci i).ru< -1\/i<=(at' t.ci i).ru
   .rcases h with h|h<;>simp[h]
   .have d:Da t (i+1):=z.next (by unfold par;omega) (by unfold par;omega)
    have q:(decide ((at' t.ci i).ru< -1)||decide (i<=(at' t.ci i).ru))=false:=by
     rw [Bool.eq_false_iff];simpa using h
    rw [Tt hf (k:=i+1) (by omega) d f (by omega),bs];have x:=Ig hf (k:=i+1) (a:=i) (by omega) d (by omega);have y:=Pd (t:=t) f;have m:=If hf (k:=i+1) (a:=i) (by omega) d (by omega);rw[Au (by omega) (by omega),DK (fun k=>nz (Jg (Aq t i) k)),Ka]
    .simp only[q,h,Bool.not_true,Bool.false_eq_true,if_false];simp only[bs,sc,Bool.or_eq_true,q8,Bool.not_eq_true',decide_eq_false_iff_not,Bool.not_eq_false',Bool.or_eq_false_iff,Bool.and_eq_false_iff,ne_eq]
     repeat' (first|rfl|(exfalso;omega;done)|split)
     all_goals (first|rfl|(exfalso;omega)|omega|simp_all|(simp_all;omega))
    .intro k A w _;rw[As (by omega) w,bs,Mm (by omega) (by omega),bs,TH m (by omega) w,bs,WA]
  .rfl
theorem dn(hf:CX t)(h:0<=i)(o:i<t.ci.length)(z:Da t i):I1 t i=some (F1 t i):=by
 have D:=hf.name _ (BC h o);have E:=hf.k7;unfold I1 F1 Cd;dsimp only;rw[As h o,bs,Md (by omega),bs,Dh (fun j=>(at' t.ci j).og==(at' t.ci i).og) 5]
 .cases DO (at' t.ci i).og
  .rfl
  .cases ra (fun j=>(at' t.ci j).og==(at' t.ci i).og) 0 i
   .simp only[Bool.not_true,Bool.false_eq_true,if_false,IY,bs];rw[Au (by omega) (by omega)];by_cases u:(at' t.ci i).ru< -1\/i<=(at' t.ci i).ru
    .rw[QQ,a6 (by decide),QQ u];simp;omega
    .have d:Da t (i+1):=z.next (by unfold par;omega) (by unfold par;omega)
     rw [a6 (by simp;omega),a6 (by decide),a6 u];rw[Tw hf (k:=i+1) (by omega) d h (by omega),bs];have w:=Ig hf (k:=i+1) (a:=i) (by omega) d (by omega);have x:=Pd (t:=t) h;have f:=If hf (k:=i+1) (a:=i) (by omega) d (by omega);rw[Au (by omega) (by omega)];rw[DK (fun k=>nz (Jg (Aq t i) k)),Ka]
     .simp only[bs,sc,Bool.or_eq_true,q8,Bool.not_eq_true',decide_eq_false_iff_not,Bool.not_eq_false',Bool.or_eq_false_iff,Bool.and_eq_false_iff,ne_eq]
      repeat' (first|rfl|(exfalso;omega;done)|split)
      all_goals (first|rfl|(exfalso;omega)|omega|simp_all|(simp_all;omega))
     .intro k q m _;have y:=f _ (BC (show 0<=k by omega) m);have B:=y.name;simp only[As (show 0<=k by omega) m,bs];rw[Md (by omega),bs,Dh (fun j=>(at' (Aq t i) j).og==(at' (Aq t i) k).og) 5]
      .rw[TI y];simp only[bs,WA];unfold Jg;dsimp only;cases DO (at' (Aq t i) k).og
       .rfl
       .cases ra (fun j=>(at' (Aq t i) j).og==(at' (Aq t i) k).og) 0 k<;>rfl
      .intro j A C _;rw[As A (by omega),bs];split<;>rfl
   .rfl
 .intro j q m _;rw[As q (by omega),bs];split<;>rfl
def Ih(low high:Int):Bool:=((decide (0<=low))&&(decide (low<=40)))&&((decide (high=(-1)))||((decide (low<=high))&&(decide (high<=40))))
theorem ac(low high:Int):G0 low high=some (Ih low high):=by
 unfold G0 Ih Cd
 grind
def Hh(t:AB)(i:Int):Int:=
 let x:=at' t.d6 i
 if DO x.og=false then 2 else if ra (fun j=>(at' t.d6 j).og==x.og) 0 i=true then 5 else
 if (0<=x.qx/\x.qx<t.ci.length)/\(0<=x.To/\x.To<t.ci.length)/\Ih x.sX x.sB=true/\Ih x.tL x.sZ=true then 0 else 6
theorem dW(hf:CX t)(d:0<=i)(h:i<t.d6.length):Fe t i=some (Hh t i):=by
 have m:=hf.ename _ (BC d h);unfold Fe Hh Hg;dsimp only;rw[As d h,bs,MZ (by omega),bs,Mm d (by omega),bs,show(fun f=>JE f (at' t.d6 i))=(fun f=>some (f.og==(at' t.d6 i).og))from rfl,S4,bs,L4 d (by omega)];simp[show∀a b,Gu a b=some (Ih a b)from fun _ _=>rfl];generalize DO (at' t.d6 i).og=b1;generalize ra (fun j=>(at' t.d6 j).og==(at' t.d6 i).og) 0 i=b2;generalize Ih (at' t.d6 i).sX (at' t.d6 i).sB=b3;generalize Ih (at' t.d6 i).tL (at' t.d6 i).sZ=b4;cases b1
 .rfl
 grind
theorem dk(hf:CX t)(m:0<=i)(o:i<t.d6.length):I0 t i=some (Hh t i):=by
 have u:=hf.ename _ (BC m o);have w:=hf.k7;unfold I0 Hh Cd;dsimp only;rw[As m o,bs,Md (by omega),bs,Dh (fun j=>(at' t.d6 j).og==(at' t.d6 i).og) 5]
 .simp only[Au (show -9223372036854775808<=(t.ci.length:Int)-1 by omega) (by omega),ac,bs];generalize DO (at' t.d6 i).og=b1;generalize ra (fun j=>(at' t.d6 j).og==(at' t.d6 i).og) 0 i=b2;generalize Ih (at' t.d6 i).sX (at' t.d6 i).sB=b3;generalize Ih (at' t.d6 i).tL (at' t.d6 i).sZ=b4;cases b1
  .rfl
  .cases b2
   .cases b3<;>cases b4
    all_goals
     by_cases f:0<=(at' t.d6 i).qx/\(at' t.d6 i).qx<t.ci.length
     .have d:(at' t.d6 i).qx<=(t.ci.length:Int)-1:=by omega
      by_cases q:0<=(at' t.d6 i).To/\(at' t.d6 i).To<t.ci.length
      .have h:(at' t.d6 i).To<=(t.ci.length:Int)-1:=by omega
       simp [f,q,d,h,IY]
      .have:(decide (0<=(at' t.d6 i).To)&&decide ((at' t.d6 i).To<=(t.ci.length:Int)-1))=false:=by rw[Bool.eq_false_iff];simp;omega
       simp [f,q,d,this,IY]
     .have:(decide (0<=(at' t.d6 i).qx)&&decide ((at' t.d6 i).qx<=(t.ci.length:Int)-1))=false:=by rw[Bool.eq_false_iff];simp;omega
      simp [f,this,IY]
   .rfl
 grind [As]
def BL(t:AB):ByteArray×Int:=
 if t.ci.length=0 then(⟨#[]⟩,7)else if 12<t.ci.length\/20<t.d6.length then(⟨#[]⟩,3)else
 match fst (fun i=>(nz (F1 t i)).map fun e=>((at' t.ci i).og,e)) 0 t.ci.length with
 |some r=>r|none=>(fst (fun i=>(nz (Hh t i)).map fun e=>((at' t.d6 i).og,e)) 0 t.d6.length).getD (⟨#[]⟩,0)
theorem V9(h:F1 t i=0):-1<=par t i/\par t i<i:=by grind[F1,par,at']
theorem JT{α β:Type}{o:Option α}{g:α->β}:o.map g=none↔o=none:=by cases o<;>simp
theorem PB(h:∀j,0<=j->j<i->F1 t j=0):Da t i:=fun j d f=>V9 (h j d f)
theorem OU{ρ:Type}(e:Int)(n:ByteArray):(if(!decide (e=0))=true then some (Bk.ret (n,e))else some (Bk.next ()))=some (LQ ((nz e).map fun e=>(n,e))):=by grind[nz,LQ]
theorem Qg(hf:CX t):B5 t=some (BL t):=by
 unfold B5 BL;rw[DK (fun i=>(nz (F1 t i)).map fun e=>((at' t.ci i).og,e)),Fd]
 .rw[DK (fun i=>(nz (Hh t i)).map fun e=>((at' t.d6 i).og,e)),Fd]
  .cases fst (fun i=>(nz (F1 t i)).map fun e=>((at' t.ci i).og,e)) 0 t.ci.length<;>cases fst (fun i=>(nz (Hh t i)).map fun e=>((at' t.d6 i).og,e)) 0 t.d6.length
   all_goals dsimp only
   all_goals try simp only[Option.getD]
   all_goals
    simp only[bs,sc,Bool.or_eq_true,q8,Bool.not_eq_true',decide_eq_false_iff_not,Bool.not_eq_false',Bool.or_eq_false_iff,Bool.and_eq_false_iff,ne_eq]
    repeat' (first|rfl|(exfalso;omega;done)|split)
    all_goals (first|rfl|(exfalso;omega)|omega|simp_all|(simp_all;omega))
  .intro i d f _;rw[As d f,bs,dW hf d f,bs];exact OU (ρ:=Unit) _ _
 .intro i d f o;have q:Da t i:=PB fun j h m=>Ke.1 (JT.1 (o j h m));rw[As d f,bs,db hf d f q,bs];exact OU (ρ:=Unit) _ _
theorem Qh(hf:CX t):El t=some (BL t):=by
 unfold El BL;rw[DK (fun i=>(nz (F1 t i)).map fun e=>((at' t.ci i).og,e)),Fd]
 .rw[DK (fun i=>(nz (Hh t i)).map fun e=>((at' t.d6 i).og,e)),Fd]
  .cases fst (fun i=>(nz (F1 t i)).map fun e=>((at' t.ci i).og,e)) 0 t.ci.length<;>cases fst (fun i=>(nz (Hh t i)).map fun e=>((at' t.d6 i).og,e)) 0 t.d6.length
   all_goals dsimp only
   all_goals try simp only[Option.getD]
   all_goals
    simp only[bs,sc,Bool.or_eq_true,q8,Bool.not_eq_true',decide_eq_false_iff_not,Bool.not_eq_false',Bool.or_eq_false_iff,Bool.and_eq_false_iff,ne_eq]
    repeat' (first|rfl|(exfalso;omega;done)|split)
    all_goals (first|rfl|(exfalso;omega)|omega|simp_all|(simp_all;omega))
  .intro i d f _;simp only[dk hf d f,As d f,bs];exact OU (ρ:=Unit) _ _
 .intro i d f o;have q:Da t i:=PB fun j h m=>Ke.1 (JT.1 (o j h m));simp only[dn hf d f q,As d f,bs];exact OU (ρ:=Unit) _ _
end Go.Sf.Sc
namespace Go.Sf.Sc
open Go Go.Sf
theorem Ui{α:Type}{c:Bool}{a b:α}:(if c=true then some a else some b)=some (if c=true then a else b):=by cases c<;>rfl
def Ji(n:Int):Bool:=(decide (0<=n))&&(decide (n<=99))
def Nl(e:Bv)(n:Int):Bool:=Ji e.qz&&(decide (0<=e.qx)&&decide (e.qx<n))&&(decide (0<=e.To)&&decide (e.To<n))
def CC(g:d3):Int:=
 if 40<g.ci.length\/80<g.d6.length then 3 else if(g.ci.any fun n=>!Ji n)=true then 6 else if(g.d6.any fun e=>!Nl e g.ci.length)=true then 6 else 0
structure F3(g:d3):Prop where
 k7:g.ci.length<=40
 qr:g.d6.length<=80
 kind:∀n∈g.ci,0<=n/\n<=99
 fit:∀e∈g.d6,(0<=e.qz/\e.qz<=99)/\(0<=e.qx/\e.qx<g.ci.length)/\(0<=e.To/\e.To<g.ci.length)
variable{g:d3}
theorem Gy(h:CC g=0):F3 g:=by
 unfold CC at h;split at h
 .cases h
 .split at h
  .cases h
  .split at h
   .cases h
   .rename_i m f d;refine⟨by omega,by omega,fun n j=>?_,fun e he=>?_⟩
    .rw[Bool.not_eq_true,List.any_eq_false]at f
     grind [Ji]
    .rw[Bool.not_eq_true,List.any_eq_false]at d;have:=d e he;simp[Nl,Ji,Bool.not_eq_true',sc]at this;omega
variable{n:Nat}
theorem dX{e:Bv}(h:n<=40):Im e n=some (Nl e n):=by
 unfold Im Ex Nl Ji;simp only[bs,Au (show -9223372036854775808<=(n:Int)-1 by omega) (by omega)];have d:decide (e.qx<=(n:Int)-1)=decide (e.qx<n):=by rw[decide_eq_decide];omega
 have f:decide (e.To<=(n:Int)-1)=decide (e.To<n):=by rw[decide_eq_decide];omega
 rw [d,f];generalize (decide (0<=e.qz)&&decide (e.qz<=99))=b1;generalize (decide (0<=e.qx)&&decide (e.qx<n))=b2;cases b1<;>cases b2<;>simp
theorem aU(g:d3):CG g=some (CC g):=by
 unfold CG CC;by_cases h:40<g.ci.length\/80<g.d6.length
 .grind
 .rw[a6 (by simp;omega),a6 h,show IE=(fun n=>some (!Ji n))from rfl,cd,Zz (p:=fun e=>!Nl e g.ci.length) (fun e _=>by
   grind [IF,dX])]
  grind
theorem aa(g:d3):H9 g=some (CC g):=by
 unfold H9 CC;by_cases h:40<g.ci.length\/80<g.d6.length
 .grind
 .rw[a6 (by simp;omega),a6 h,PZ,PZ,Dh (fun i=>!Ji (at' g.ci i)) 6]
  .rw[Dh (fun i=>!Nl (at' g.d6 i) g.ci.length) 6]
   .cases ra (fun i=>!Ji (at' g.ci i)) 0 g.ci.length
    .cases ra (fun i=>!Nl (at' g.d6 i) g.ci.length) 0 g.d6.length<;>rfl
    .rfl
   .intro i d f _;rw[As d f,bs];unfold Jq Nl;simp[show∀n,Hl n=some (Ji n)from fun _=>rfl]
    grind
  grind [As,Hl,at',Ji]
def Ea(t:AB)(g:d3):Bool:=!(g.ci.any fun n=>decide (t.ci.length<=n))&&!(g.d6.any fun e=>decide (t.d6.length<=e.qz))
variable{t:AB}
theorem IL(d:F3 g)(h:Ea t g=true):(∀n∈g.ci,0<=n/\n<t.ci.length)/\∀e∈g.d6,0<=e.qz/\e.qz<t.d6.length:=by
 unfold Ea at h;simp[Bool.not_eq_true',sc]at h;refine⟨fun n f=>?_,fun e he=>?_⟩
 .have:=h.1 n f;have:=d.kind n f;omega
 .have:=h.2 e he;have:=d.fit e he;omega
structure F4(t:AB):Prop where
 k7:t.ci.length<=12
 qr:t.d6.length<=20
 node:∀i:Int,0<=i->i<t.ci.length->F1 t i=0
 edge:∀i:Int,0<=i->i<t.d6.length->Hh t i=0
theorem IZ(h:(BL t).2=0):F4 t:=by
 unfold BL at h;split at h
 .cases h
 .split at h
  .cases h
  .rename_i q u;have f:∀i:Int,0<=i->i<t.ci.length->F1 t i=0:=by
    grind [DL,nz,Ke,JT,B0]
   have he:∀i:Int,0<=i->i<t.d6.length->Hh t i=0:=by
    split at h
    .rename_i r d;obtain⟨i,m,o,j,_⟩:=DL d;rw[f i m o]at j;cases j
    .cases d:fst (fun i=>(nz (Hh t i)).map fun e=>((at' t.d6 i).og,e)) 0 t.d6.length with
     |some r=>
      grind [DL,nz]
     |none=>
      grind [Ke,JT,B0]
   exact ⟨by omega,by omega,f,he⟩
theorem F4.par(h:F4 t):Da t t.ci.length:=PB h.node
variable{i:Int}
theorem F4.ends(h:F4 t)(d:0<=i)(f:i<t.d6.length):(0<=(at' t.d6 i).qx/\(at' t.d6 i).qx<t.ci.length)/\(0<=(at' t.d6 i).To/\(at' t.d6 i).To<t.ci.length):=by
 have:=h.edge i d f
 grind [Hh]
def Hv(t:AB)(a:Int):Bool:=decide (0<=a)&&decide (a<t.ci.length)
variable{a:Int}
theorem JS:Hv t a=true↔0<=a/\a<t.ci.length:=by unfold Hv;simp
theorem Tu(hf:CX t)(l:D1):DY t l=some (if(BL t).2≠0 then(BL t).2 else if(l.all (Hv t))=true then 0 else 6):=by
 unfold DY;rw[Qg hf,bs,cc (p:=fun a=>!Hv t a) (fun a _=>by unfold II Hv;rw[show decide (a<0)=!decide (0<=a)from by rw[<-decide_not,decide_eq_decide];omega,show decide ((t.ci.length:Int)<=a)=!decide (a<t.ci.length)from by rw[<-decide_not,decide_eq_decide];omega,Bool.not_and]),bs]
 grind
theorem Ty(hf:CX t)(a b:Int):G2 t a b=some (if(BL t).2≠0 then(BL t).2 else if(Hv t a&&Hv t b)=true then 0 else 6):=by
 have d:=hf.k7;have e:∀a,decide (a<=(t.ci.length:Int)-1)=decide (a<(t.ci.length:Int)):=fun a=>by rw[decide_eq_decide];omega
 unfold G2 Cd;rw[Qh hf,bs]
 grind [Au,BL,Hv]
theorem Wb{α:Type}[Inhabited α]{l:List α}(d:0<=i)(f:i<l.length):CI l i (at' l i)=l:=by grind[CI,at',List.getElem?_eq_getElem,List.set_getElem_self]
theorem Kz{α:Type}[Inhabited α]{l:List α}(d:0<=i)(f:i<l.length):l.take (i+1).toNat=l.take i.toNat++[at' l i]:=by
 unfold at';rw[show(i+1).toNat=i.toNat+1 by omega,List.take_add_one,List.getD_eq_getElem?_getD,List.getElem?_eq_getElem (by omega)];rfl
theorem HT{α:Type}{l:List α}(h:l.length<=Bi):Aj [] l=some l:=by grind[DM]
def Ie(t:AB)(a:Int):List o3×Int:=if(BL t).2≠0 then([],(BL t).2)else if Hv t a=true then(Aq t a,0)else([],6)
theorem aT(hf:CX t)(a:Int):Cv t a=some (Ie t a):=by
 unfold Cv Ie;rw[Tu hf,bs];by_cases h:(BL t).2=0
 .have j:=IZ h;have e:[a].all (Hv t)=Hv t a:=by simp
  rw [e];simp[h];cases hi:Hv t a
  .rfl
  .rw[QQ rfl,QQ rfl];have m:=JS.1 hi;have C:=Ig hf (Int.le_refl _) j.par m.2;have A:=If hf (Int.le_refl _) j.par m.2;rw[a6 (by decide),Tt hf (Int.le_refl _) j.par m.1 m.2,bs];obtain⟨s',B,rfl⟩:=O7 (f:=(fun(o:Int)(q:List o3)=>
 (idx q o).bind fun u=>
 (slices_Clone_string u.qu).bind fun w=>
 (idx q o).bind fun d=>
 some (CI q o (o3.mk d.og d.s7 d.sb w)))) (fun _ s=>s=Aq t a) (a:=0) (b:=(Aq t a).length) (s:=Aq t a) (by omega) rfl (fun i s x y z=>by
     subst z;have:=(A _ (BC x y)).names;refine⟨Aq t a,?_,rfl⟩;unfold slices_Clone_string;rw[As x y,bs,HT (by unfold Bi;omega),bs,bs];congr 1;exact Wb x y)
   rw [B];rfl
 .simp[h,not_false_eq_true,decide_false]
theorem aZ(hf:CX t)(a:Int):H7 t a=some (Ie t a):=by
 unfold H7 Ie;rw[Ty hf,bs];by_cases h:(BL t).2=0
 .have d:=IZ h;rw[Bool.and_self];simp only[h,ne_eq,not_true_eq_false,if_false];cases hi:Hv t a
  .rfl
  .rw[QQ rfl,QQ rfl];have f:=JS.1 hi;have q:=Ig hf (Int.le_refl _) d.par f.2;have o:=If hf (Int.le_refl _) d.par f.2;rw[a6 (by decide),Tw hf (Int.le_refl _) d.par f.1 f.2,bs];rw[QZ (fun i=>(Aq t a).take i.toNat) (by omega) (by simp)]
   .rw[bs,Int.toNat_natCast,List.take_length]
   .intro i j m;have:=(o _ (BC j m)).names;rw[As j m,bs,HT (by unfold Bi;omega),bs,DM (by rw[b6];simp;unfold Bi;omega),Kz j m];rfl
 grind
end Go.Sf.Sc
namespace Go.Sf.Sc
open Go Go.Sf
def K3(t:AB):Nat->Int->D1
 |0,_=>[]|n+1,a=>if a<0 then[]else a::K3 t n (par t a)
theorem UB(t:AB):∀(n:Nat)(a:Int),(K3 t n a).length<=n
 |0,_=>by simp[K3]|n+1,a=>by
  rw [K3];split
  .simp
  .have:=UB t n (par t a);simp;omega
def Nu(t:AB)(a b:Int):Bool:=(K3 t (a+1).toNat a).any fun x=>decide (b=x)
variable{t:AB}
theorem Tm(f:t.ci.length<=12)(o:Da t t.ci.length):∀(n:Nat)(a:Int)(l:D1),a<t.ci.length->a<n->l.length+n<=1000 ->
  ∃x,Fk (ρ:=D1) (fun(d:Int×D1)=>
 if (decide (0<=d.1))=true then
 (Aj d.2 [d.1]).bind fun h=>
 (idx t.ci d.1).bind fun j=>
 some (.next (j.ru,h))
 else
 some (.brk (d.1,d.2))) (a,l) (.inl (x,l++K3 t n a))
 |0,a,l,m,q,_=>by
  refine ⟨a,.brk ?_⟩
  grind [K3]
 |n+1,a,l,m,q,z=>by
  by_cases u:a<0
  .refine⟨a,.brk ?_⟩
   grind [K3]
  .have w:=o a (by omega) m;obtain⟨x,y⟩:=Tm f o n (par t a) (l++[a]) (by omega) (by omega) (by simp;omega);refine⟨x,.next (s':=(par t a,l++[a])) ?_ ?_⟩
   .rw[QQ (by simp;omega),DM (by simp;unfold Bi;omega),bs,As (by omega) m];rfl
   grind [K3,par]
variable{a b:Int}
theorem dZ(h:F4 t)(m:0<=a)(d:a<t.ci.length):Fu t a b=some (Nu t a b):=by
 have f:=h.k7;obtain⟨x,j⟩:=Tm f h.par (a+1).toNat a [] d (by omega) (by simp;omega);have o:=UB t (a+1).toNat a;unfold Fu Gm;rw[j.eq,IY]
 grind [slices_Reverse_int,Bi,cj,Nu]
theorem SU(d:Da t t.ci.length)(j:0<=b):∀(n m:Nat)(a:Int),-1<=a->a<t.ci.length->a+1<n->a<m->Dt n t a b=some ((K3 t m a).any fun x=>decide (b=x))
 |0,_,_,_,_,_,_=>by omega|n+1,m,a,q,h,u,w=>by
  rw [Dt];by_cases f:a<0
  .rw[a6 (by simp;omega),a6 (by simp;omega)];cases m<;>simp[K3,f]
  .cases m with
   |zero=>omega|succ m=>
    have o:=d a (by omega) h;rw[K3,a6 f,List.any_cons,QQ (show decide (0<=a)=true by simp;omega),As (by omega) h];simp;rw[show(at' t.ci a).ru=par t a from rfl,SU d j n m (par t a) (by omega) (by omega) (by omega) (by omega)]
    grind
theorem Tx(h:F4 t)(j:0<=a)(d:a<t.ci.length)(f:0<=b):Iy t a b=some (Nu t a b):=
 Nx (a+2).toNat fun n m=>SU h.par f n (a+1).toNat a (by omega) d (by omega) (by omega)
def MK(t:AB)(e f g:Int):Bool:=
 decide ((BL t).2=0)&&(Hv t f&&Hv t g)&&(decide (0<=e)&&decide (e<t.d6.length))&&(Nu t f (at' t.d6 e).qx&&Nu t g (at' t.d6 e).To)
theorem dV(hf:CX t)(e f g:Int):Ei t e f g=some (MK t e f g):=by
 unfold Ei MK;rw[Tu hf,bs,show[f,g].all (Hv t)=(Hv t f&&Hv t g)by simp];by_cases h:(BL t).2=0
 .simp only[h,ne_eq,not_true_eq_false,if_false];have d:=IZ h;cases hi:(Hv t f&&Hv t g)
  .rfl
  .rw[q8,JS,JS]at hi;by_cases he:0<=e/\e<t.d6.length
   .rw[a6 (by simp;omega),As he.1 he.2];simp[dZ d hi.1.1 hi.1.2,dZ d hi.2.1 hi.2.2,he.1,he.2,decide_true]
    grind
   grind
 .simp[h]
theorem dj(hf:CX t)(e f g:Int):Iz t e f g=some (MK t e f g):=by
 have q:=hf.qr;unfold Iz MK Cd;rw[Ty hf,bs];by_cases h:(BL t).2=0
 .simp only[h,ne_eq,not_true_eq_false,if_false];have d:=IZ h;cases hi:(Hv t f&&Hv t g)
  .rfl
  .rw[q8,JS,JS]at hi;rw[Au (by omega) (by omega)];simp only[bs];by_cases he:0<=e/\e<t.d6.length
   .have j:=d.ends he.1 he.2;have m:e<=(t.d6.length:Int)-1:=by omega
    rw [a6 (by simp),bs,a6 (by simp[he.1,m]),As he.1 he.2];simp[Tx d hi.1.1 hi.1.2 j.1.1,Tx d hi.2.1 hi.2.2 j.2.1,he.1,he.2,decide_true];cases Nu t f (at' t.d6 e).qx<;>rfl
   .have:(decide (0<=e)&&decide (e<t.d6.length))=false:=by rw[Bool.eq_false_iff];simpa using he
    have o:(decide (0<=e)&&decide (e<=(t.d6.length:Int)-1))=false:=by rw[Bool.eq_false_iff];simp;omega
    rw [this,o];simp
 .simp[h]
def Rk(n:Int)(x:qp):Bool:=(((decide ((-1)<=x.Var))&&(decide (x.Var<n)))&&(decide ((-1000000)<=x.Add)))&&(decide (x.Add<=1000000))
def Rl(n:Int)(x:Test):Int:=if¬x.qh=1/\¬x.qh=2 then 1 else if(Rk n x.ql&&Rk n x.j4)=true then 0 else 6
def Lx(n:Int)(l:List Test):Int:=if n<0\/12<n then 6 else if 40<l.length then 3 else(fst (fun i=>nz (Rl n (at' l i))) 0 l.length).getD 0
def Y4(t:AB)(p:ff)(node ix:Int):o3×Bool:=
 if node<0\/p.d3.ci.length<=node then(default,false)else
 let l:=(Ie t (at' p.d3.ci node)).1
 if ix<0\/l.length<=ix then(default,false)else(at' l ix,true)
end Go.Sf.Sc
namespace Go.Sf
variable{σ ρ:Type}
variable{α:Type}
variable{e:Int}{v:α}{X:Option α}{Y:α}
theorem UT(h:e=0->X=some Y):(if(!decide (e=0))=true then some v else X)=some (if e≠0 then v else Y):=by grind
theorem ja{b:Bool}(h:b=false->X=some Y):(if b=true then some v else X)=some (if b=true then v else Y):=by grind
end Go.Sf
namespace Go.Sf.Sc
open Go Go.Sf
def XO(t:AB)(p:ff)(s:CT):Bool:=!(Y4 t p s.rD s.o3).2||decide (s.qp.Var< -1)||decide (p.k8<=s.qp.Var)||(decide (s.qp.Add< -1000000)||decide (1000000<s.qp.Add))
def dO(p:ff)(v:Int):Bool:=p.pr.any fun s=>decide (s.qp.Var=v)
def Iv(t:AB)(p:ff):Int:=
 if (BL t).2≠0 then(BL t).2 else if CC p.d3≠0 then CC p.d3 else if Ea t p.d3=false then 13 else
 if p.k8<0\/12<p.k8 then 6 else if 10<p.pr.length\/10<p.ri.length then 3 else
 if (p.pr.any (XO t p))=true then 6 else if Lx p.k8 p.ri≠0 then Lx p.k8 p.ri else
 if ra (fun v=>!dO p v) 0 p.k8=true then 9 else 0
def Ri(t:AB)(p:ff)(i:Int):Int:=
 let s:=at' p.pr i
 if s.rD<0\/p.d3.ci.length<=s.rD then 6 else
 let l:=(Ie t (at' p.d3.ci s.rD)).1
 if ((((((decide (s.o3<0))||(decide ((l.length:Int)<=s.o3)))||(decide (s.qp.Var<(-1))))||(decide (p.k8<=s.qp.Var)))||(decide (s.qp.Add<(-1000000))))||(decide (1000000<s.qp.Add)))=true then 6 else
 if ra (fun j=>(decide ((at' p.pr j).rD=s.rD))&&(decide ((at' p.pr j).o3=s.o3))) 0 i=true then 5 else 0
def KA(t:AB)(r:jj):Int:=
 if CC r.j4.d3≠0 then CC r.j4.d3 else if Ea t r.j4.d3=false then 13 else
 if r.j4.k8≠r.ql.k8\/0<r.j4.ri.length then 1 else if 10<r.j4.pr.length then 3 else
 (fst (fun i=>nz (Ri t r.j4 i)) 0 r.j4.pr.length).getD 0
end Go.Sf.Sc
namespace Go.Sf
def H4(l:D1)(v:Int):Int:=(fst (fun i=>if decide (v=at' l i)=true then some i else none) 0 l.length).getD (-1)
variable{l:D1}
theorem OQ{v:Int}(h:v∈l):0<=H4 l v/\H4 l v<l.length/\at' l (H4 l v)=v/\∀j,0<=j->j<H4 l v->at' l j≠v:=by
 unfold H4;cases hf:fst (fun i=>if decide (v=at' l i)=true then some i else none) 0 l.length with
 |none=>
  grind [Cf,B0]
 |some k=>
  grind [DL,at']
variable{R:Int->Int->Prop}
theorem Oq(h:l.Pairwise R){i j:Int}(d:0<=i)(f:i<j)(m:j<l.length):R (at' l i) (at' l j):=by grind[List.pairwise_iff_getElem,at',List.getElem?_eq_getElem]
theorem Oi(h:∀i j:Int,0<=i->i<j->j<l.length->R (at' l i) (at' l j)):l.Pairwise R:=by
 refine List.pairwise_iff_getElem.2 (fun i j d f m=>?_);have:=h i j (by omega) (by omega) (by omega);unfold at' at this
 grind
end Go.Sf
namespace Go.Sf.Sc
open Go Go.Sf
def hasB(l:D1)(v:Int):Bool:=l.any fun x=>decide (v=x)
variable{l:D1}
theorem D3{v:Int}:hasB l v=true↔v∈l:=by
 unfold hasB
 grind
def O1(l:D1)(n:Int):Int:=(fst (fun i=>if at' l i<0\/n<=at' l i then some 6 else if 0<i/\at' l i<=at' l (i-1)then some 12 else none) 0 l.length).getD 0
variable{a b:Int}
theorem LE{c:Int->K1}(d:∀i,c i≠some 0)(h:(fst c a b).getD 0=0):∀i,a<=i->i<b->c i=none:=by
 have:fst c a b=none:=by
  cases hf:fst c a b with
  |none=>rfl|some r=>
   grind [Option.getD,DL]
 exact B0.1 this
theorem Vo{n:Int}(h:O1 l n=0):(∀x∈l,0<=x/\x<n)/\l.Pairwise (·<·):=by
 have w:=LE (c:=fun i=>if at' l i<0\/n<=at' l i then some 6 else if 0<i/\at' l i<=at' l (i-1)then some 12 else none) (fun i=>by
  split
  .simp
  .split<;>simp) h
 have f:∀i:Int,0<=i->i<l.length->(0<=at' l i/\at' l i<n)/\(0<i->at' l (i-1)<at' l i):=by
  intro i m u;have:=w i m u;split at this
  .cases this
  .split at this
   .cases this
   .omega
 refine ⟨fun x o=>?_,Oi (fun i j m d q=>?_)⟩
 .obtain⟨i,y,z,rfl⟩:=Cf o;exact(f i y z).1
 .obtain⟨k,A⟩:∃k:Nat,j=i+1+k:=⟨(j-i-1).toNat,by omega⟩;subst A;clear d
  induction k with
  |zero=>
   have:=(f (i+1) (by omega) (by omega)).2 (by omega);rw[show i+1-1=i by omega]at this;simpa using this
  |succ k B=>
   have a:=B (by omega);have b:=(f (i+1+((k+1:Nat):Int)) (by omega) q).2 (by omega);rw[show i+1+((k+1:Nat):Int)-1=i+1+k by omega]at b;omega
def Ob(g:d3)(p:B3):Int:=
 if O1 p.ci g.ci.length≠0 then O1 p.ci g.ci.length else if O1 p.d6 g.d6.length≠0 then O1 p.d6 g.d6.length else
 (fst (fun i=>if(hasB p.ci (at' g.d6 (at' p.d6 i)).qx&&hasB p.ci (at' g.d6 (at' p.d6 i)).To)=true then none else some 14) 0 p.d6.length).getD 0
structure Rt(g:d3)(p:B3):Prop where
 k7:(∀x∈p.ci,0<=x/\x<g.ci.length)/\p.ci.Pairwise (·<·)
 qr:(∀x∈p.d6,0<=x/\x<g.d6.length)/\p.d6.Pairwise (·<·)
 ends:∀x∈p.d6,(at' g.d6 x).qx∈p.ci/\(at' g.d6 x).To∈p.ci
variable{g:d3}
theorem WE{p:B3}(h:Ob g p=0):Rt g p:=by
 unfold Ob at h;split at h
 .omega
 .split at h
  .omega
  .rename_i o q;refine⟨Vo (by omega),Vo (by omega),fun x f=>?_⟩;obtain⟨i,j,m,rfl⟩:=Cf f;have:=LE (c:=fun i=>if(hasB p.ci (at' g.d6 (at' p.d6 i)).qx&&hasB p.ci (at' g.d6 (at' p.d6 i)).To)=true then none else some 14) (fun i=>by
    split<;>simp) h i j m
   split at this
   .rename_i d;rw[q8,D3,D3]at d;exact d
   .cases this
def Jm(g:d3)(p:B3):Int:=if CC g≠0 then CC g else Ob g p
structure jt(p:B3):Prop where
 k7:p.ci.length<=1000
 qr:p.d6.length<=1000
def QE(g:d3)(p:B3):d3:=⟨p.ci.map (at' g.ci),p.d6.map fun x=>⟨(at' g.d6 x).qz,H4 p.ci (at' g.d6 x).qx,H4 p.ci (at' g.d6 x).To⟩⟩
end Go.Sf.Sc
namespace Go.Sf.Sc
open Go Go.Sf
def P3(a b:d3)(m:ec)(i:Int):K1:=
 if at' m.ci i<0\/b.ci.length<=at' m.ci i then some 6 else if at' b.ci (at' m.ci i)≠at' a.ci i then some 13 else none
def Lp(a b:d3)(m:ec)(i:Int):K1:=
 if at' m.d6 i<0\/b.d6.length<=at' m.d6 i then some 6 else
 if (at' a.d6 i).qz≠(at' b.d6 (at' m.d6 i)).qz then some 13 else
 if at' m.ci (at' a.d6 i).qx≠(at' b.d6 (at' m.d6 i)).qx\/at' m.ci (at' a.d6 i).To≠(at' b.d6 (at' m.d6 i)).To then some 11 else none
def MQ(a b:d3)(m:ec):Int:=
 if CC a≠0 then CC a else if CC b≠0 then CC b else if m.ci.length≠a.ci.length\/m.d6.length≠a.d6.length then 20 else
 match fst (P3 a b m) 0 m.ci.length with
 |some e=>e|none=>(fst (Lp a b m) 0 m.d6.length).getD 0
structure RW(a b:d3)(m:ec):Prop where
 ga:F3 a
 gb:F3 b
 ue:m.ci.length=a.ci.length
 uS:m.d6.length=a.d6.length
 node:∀i:Int,0<=i->i<m.ci.length->(0<=at' m.ci i/\at' m.ci i<b.ci.length)/\at' b.ci (at' m.ci i)=at' a.ci i
 edge:∀i:Int,0<=i->i<m.d6.length->(0<=at' m.d6 i/\at' m.d6 i<b.d6.length)/\(at' a.d6 i).qz=(at' b.d6 (at' m.d6 i)).qz/\
  at' m.ci (at' a.d6 i).qx=(at' b.d6 (at' m.d6 i)).qx/\at' m.ci (at' a.d6 i).To=(at' b.d6 (at' m.d6 i)).To
theorem Us{a b:d3}{m:ec}(h:MQ a b m=0):RW a b m:=by
 unfold MQ at h;split at h
 .omega
 split at h
 .omega
 split at h
 .cases h
 rename_i o q u;have j:fst (P3 a b m) 0 m.ci.length=none:=by
  grind [DL,P3]
 rw [j]at h;have he:=LE (fun i=>by
  grind [Lp]) h
 refine ⟨Gy (by omega),Gy (by omega),by omega,by omega,fun i d f=>?_,fun i d f=>?_⟩
 .grind[B0,P3]
 grind [Lp]
theorem dR{x y:Prop}[Decidable x][Decidable y]:(if decide x=true then some true else some (decide y))=some (decide (x\/y)):=by grind
def QV(l:D1):Bool:=!ra (fun i=>ra (fun j=>decide (at' l i=at' l j)) 0 i) 0 l.length
variable{l:D1}
theorem R2:QV l=true↔l.Nodup:=by grind[QV,Bool.not_eq_true',CW,Oi,Oq]
def Qc(m:ec):Bool:=QV m.ci&&QV m.d6
def RZ(r:jj):Int:=
 if Jm r.ql.d3 r.rN≠0 then Jm r.ql.d3 r.rN else
 if MQ (QE r.ql.d3 r.rN) r.j4.d3 r.rA≠0 then MQ (QE r.ql.d3 r.rN) r.j4.d3 r.rA else if Qc r.rA=false then 11 else 0
variable{r:jj}
theorem aI(h:RZ r=0):Jm r.ql.d3 r.rN=0/\MQ (QE r.ql.d3 r.rN) r.j4.d3 r.rA=0/\Qc r.rA=true:=by grind[RZ]
def Bo(l:D1)(n:Int):D1:=((List.range n.toNat).map Int.ofNat).filter fun i=>!hasB l i
variable{i:Int}
theorem QL(l:D1)(h:0<=i):Bo l (i+1)=Bo l i++if(!hasB l i)=true then[i]else[]:=by
 unfold Bo;rw[show(i+1).toNat=i.toNat+1 by omega,List.range_succ,List.map_append,List.filter_append]
 grind
theorem J9{n x:Int}(h:x∈Bo l n):0<=x/\x<n:=by
 unfold Bo at h
 grind
theorem RC(l:D1)(n:Int):(Bo l n).length<=n.toNat:=by
 unfold Bo
 grind
def Km(r:jj):D1:=Bo r.rA.ci r.j4.d3.ci.length
def XQ(r:jj):D1:=Bo r.rA.d6 r.j4.d3.d6.length
def MJ(t:AB)(g:d3)(i:Int):Bool:=MK t (at' g.d6 i).qz (at' g.ci (at' g.d6 i).qx) (at' g.ci (at' g.d6 i).To)
def kO(t:AB)(g:d3)(k7 qr:D1):Bool:=!(k7.any fun i=>(at' t.ci (at' g.ci i)).se)&&!(qr.any fun i=>!MJ t g i)
end Go.Sf.Sc
namespace Go.Sf.Sc
open Go Go.Sf
structure UH(p:ff):Prop where
 k7:p.d3.ci.length<=45
 qr:p.d3.d6.length<=90
 slots:p.pr.length<=15
 tests:p.ri.length<=15
structure XB(m:ec):Prop where
 k7:m.ci.length<=140
 qr:m.d6.length<=140
inductive LP:fd->Prop where
 |mk (c:fd) (hq:UH c.ff) (hm:XB c.Map) (hk:∀k∈c.qt,LP k):LP c
variable{c:fd}
theorem LP.q(h:LP c):UH c.ff:=by cases h;assumption
theorem LP.m(h:LP c):XB c.Map:=by cases h;assumption
theorem LP.k(h:LP c):∀k∈c.qt,LP k:=by cases h;assumption
theorem YC{c k:fd}(h:k∈c.qt):SizeOf.sizeOf k<SizeOf.sizeOf c:=by
 have:=List.sizeOf_lt_of_mem h;cases c
 grind
theorem We(c:fd):0<SizeOf.sizeOf c:=by
 cases c
 grind
def UR(c:fd):Bool:=decide (c.Map.ci.length=0/\c.Map.d6.length=0/\c.ff.d3.ci.length=0/\c.ff.d3.d6.length=0/\c.ff.pr.length=0/\c.ff.ri.length=0/\c.ff.k8=0)
def Ug(c:fd):Bool:=
 if c.qh=1 then decide (c.qt.length=0)&&UR c else if c.qh=2 then decide (c.qt.length=1)&&UR c else
 if c.qh=3\/c.qh=4 then decide (1<=c.qt.length)&&UR c else if c.qh=5 then decide (c.qt.length=1)else false
def Ze:Nat->fd->Bool
 |0,_=>false|n+1,c=>Ug c&&c.qt.all (Ze n)
noncomputable def jn(c:fd):Bool:=Ze (SizeOf.sizeOf c) c
def Ur:Nat->fd->Int×Int
 |0,_=>(0,0)|n+1,c=>
  let s:=c.qt.foldl (fun s k=>(AT (s.1+(Ur n k).1),max s.2 (Ur n k).2)) ((1,0):Int×Int)
  (s.1,if c.qh=5 then AT (s.2+1)else s.2)
noncomputable def ZG(c:fd):Int×Int:=Ur (SizeOf.sizeOf c) c
noncomputable def Si(c:fd):Int:=if jn c=false then 1 else if 12<(ZG c).1\/3<(ZG c).2 then 3 else 0
theorem Uf(g:d3):CC g≠9:=by grind[CC]
def Uj(t:AB)(q:ff)(v:Int):Int:=if Iv t q≠9 then Iv t q else if ra (fun i=>!dO q i) v q.k8=true then 9 else 0
def OY:Nat->AB->ff->fd->Int
 |0,_,_,_=>0|N+1,t,p,c=>
  if c.qh=5 then
   if c.ff.k8<p.k8 then 20 else if Uj t c.ff p.k8≠0 then Uj t c.ff p.k8 else
   if MQ p.d3 c.ff.d3 c.Map≠0 then MQ p.d3 c.ff.d3 c.Map else if Qc c.Map=false then 1 else
   (fst (fun i=>nz (OY N t c.ff (at' c.qt i))) 0 c.qt.length).getD 0
  else (fst (fun i=>nz (OY N t p (at' c.qt i))) 0 c.qt.length).getD 0
noncomputable def Pk(t:AB)(p:ff)(c:fd):Int:=if Iv t p≠0 then Iv t p else if Si c≠0 then Si c else OY (SizeOf.sizeOf c) t p c
end Go.Sf.Sc
namespace Go.Sf.Sc
open Go Go.Sf
structure XC(r:jj):Prop where
 name:(r.og.size:Int)<=60
 left:UH r.ql
 right:UH r.j4
 kq:jt r.rN
 into:XB r.rA
 cond:LP r.fd
noncomputable def KX(t:AB)(r:jj):Int:=
 if (BL t).2≠0 then(BL t).2 else if DO r.og=false then 2 else if Iv t r.ql≠0 then Iv t r.ql else
 if KA t r≠0 then KA t r else if RZ r≠0 then RZ r else if kO t r.j4.d3 (Km r) (XQ r)=false then 13 else Pk t r.ql r.fd
variable{t:AB}{r:jj}
theorem Xy(h:KA t r=0):F3 r.j4.d3/\Ea t r.j4.d3=true:=by grind[KA,Gy]
def sJ(t:AB)(l:D1):Bool:=!(l.any fun k=>t.ci.any fun n=>decide (n.ru=k))
structure Vg(t:AB)(r:jj):Prop where
 left:F3 r.ql.d3
 ltyped:Ea t r.ql.d3=true
 right:F3 r.j4.d3
 ub:Ea t r.j4.d3=true
 rtests:r.j4.ri.length=0
 part:Rt r.ql.d3 r.rN
 mor:RW (QE r.ql.d3 r.rN) r.j4.d3 r.rA
 inj:r.rA.ci.Nodup/\r.rA.d6.Nodup
theorem df{p:ff}(h:Iv t p=0):F3 p.d3/\Ea t p.d3=true:=by grind[Iv,Gy]
theorem T1(h:KX t r=0):(BL t).2=0/\Vg t r:=by
 unfold KX at h;split at h
 .omega
 split at h
 .cases h
 split at h
 .omega
 split at h
 .omega
 split at h
 .omega
 rename_i m o q u w;have d:=df (t:=t) (p:=r.ql) (by omega);have f:=Xy (t:=t) (r:=r) (by omega);have j:=aI (r:=r) (by omega);have hi:QV r.rA.ci=true/\QV r.rA.d6=true:=by
  grind [Qc]
 refine ⟨by omega,d.1,d.2,f.1,f.2,?_,?_,Us j.2.1,R2.1 hi.1,R2.1 hi.2⟩
 .grind[KA]
 grind [Jm,WE]
end Go.Sf.Sc
namespace Go.Sf
variable{a b:Int}
theorem UF{ρ:Type}{f:Int->Option (Bk Int ρ)}(p:Int->Bool)(v:ρ)(d:a<=b)(h:∀i,a<=i->i<b->f i=some (if p i=true then .ret v else .next (i+1)))(j:f b=some (.brk b)):Dy f a=some (if ra p a b=true then .inr v else .inl b):=by
 rw [Kh (c:=fun i=>(if p i=true then some ()else none).map fun _=>.inr v) d]
 .grind[OO,Qy,ra]
 .intro i m o _;rw[h i m o];cases p i<;>rfl
 .exact j
variable{n:Nat}
theorem Qd{α:Type}{e:α->TV}{l:List α}(h:TV.Sm (.list n (l.map e))):(l.length:Int)<=140737488351232/\∀x∈l,(e x).Sm:=by
 simp [TV.Sm]at h;refine⟨by have:=h.1;unfold reachBytes at this;omega,fun x d=>Of.1 h.2 _ (List.mem_map.2 ⟨x,d,rfl⟩)⟩
end Go.Sf
namespace Go.Sf.Sc
open Go Go.Sf
def Rx(a:o3):Bool:=(decide (40<(a.og.size:Int))||decide (25<(a.qu.length:Int)))||ra (fun i=>decide (40<((at' a.qu i).size:Int))) 0 a.qu.length
theorem XN{a:o3}(h:Rx a=false):Oy a:=by
 unfold Rx at h;simp[decide_eq_false_iff_not,CW]at h;refine⟨by omega,by omega,fun x d=>?_⟩
 grind [Cf]
variable{t:AB}
theorem Vv(S:(AS t).Sm):∃b,J7 t=some b/\(b=true->CX t):=by
 have K:TV.td [_,_]:=S;obtain⟨u,N⟩:=Qd (e:=Ej) K.1;unfold J7;by_cases hl:20<t.ci.length\/30<t.d6.length
 .rw[QQ (by simp;omega)]
  grind
 rw [a6 (by simp;omega)];rcases SA (f:=(fun(A:Int)(P:Int)=>
 (idx t.ci A).bind fun y=>
 (if(decide (30<(AT (P+(y.qv.length:Int)))))=true then some true else((idx t.ci A).bind fun E=>
 some (decide (40<(E.og.size:Int))))).bind fun F=>
 if F=true then
 some (Bk.ret false)
 else
 hV (Dy (ρ:=Bool) (fun(w:Int)=>
 (idx t.ci A).bind fun G=>
 if (decide (w<(G.qv.length:Int)))=true then
 (idx t.ci A).bind fun H=>
 (idx H.qv w).bind fun o=>
 if ((decide (40<(o.og.size:Int)))||(decide (25<(o.qu.length:Int))))=true then
 some (.ret false)
 else
 hV (Dy (ρ:=Bool) (fun(x:Int)=>
 if (decide (x<(o.qu.length:Int)))=true then
 (idx o.qu x).bind fun I=>
 if (decide (40<(I.size:Int)))=true then
 some (.ret false)
 else
 some (.next (AT (x+1)))
 else
 some (.brk x)) 0) (fun x=>
 some (.next (AT (w+1)))) (fun T=>some (.ret T))
 else
 some (.brk w)) 0) (fun w=>
 some (.next (AT (P+(y.qv.length:Int))))) (fun U=>some (.ret U))))
  (fun i s=>0<=s/\s<=30/\∀j,0<=j->j<i->((at' t.ci j).og.size:Int)<=40/\(at' t.ci j).qv.length<=30/\∀a∈(at' t.ci j).qv,Oy a) (fun _=>False) (fun r=>r=false) (a:=0) (b:=t.ci.length) (s:=0) (by omega) ⟨by omega,by omega,fun j z d=>by omega⟩ (fun i s B C V=>by
   have W:=N _ (BC (l:=t.ci) B C);have L:TV.td [_,_,_,_]:=W;obtain⟨ha,O⟩:=Qd (e:=FD) L.2.2.2.1;obtain⟨hI1,hI2,hI3⟩:=V;have Z:AT (s+(at' t.ci i).qv.length)=s+(at' t.ci i).qv.length:=Au (by omega) (by omega);simp only[As B C,bs,Z,dR];by_cases hc:30<s+(at' t.ci i).qv.length\/40<((at' t.ci i).og.size:Int)
   .grind
   rw [a6 (by simpa using hc)];rw[UF (fun j=>Rx (at' (at' t.ci i).qv j)) false (b:=(at' t.ci i).qv.length) (by omega)]
   .cases Q:ra (fun j=>Rx (at' (at' t.ci i).qv j)) 0 (at' t.ci i).qv.length
    .refine .inl ⟨_,rfl,by omega,by omega,fun j J D=>?_⟩
     grind [Cf,XN,CW]
    .exact .inr (.inr ⟨_,rfl,rfl⟩)
   .intro j J D;rw[QQ (by simpa using D),As J D,bs];have hy:=O _ (BC (l:=(at' t.ci i).qv) J D);have M:TV.td [_,_,_,_]:=hy;obtain⟨hm,_⟩:=Qd (e:=eS) M.2.2.2.1;unfold Rx;cases z:(decide (40<((at' (at' t.ci i).qv j).og.size:Int))||decide (25<((at' (at' t.ci i).qv j).qu.length:Int)))
    .rw[a6 (by decide),UF (fun k=>decide (40<((at' (at' (at' t.ci i).qv j).qu k).size:Int))) false (b:=(at' (at' t.ci i).qv j).qu.length) (by omega)]
     .cases ra (fun k=>decide (40<((at' (at' (at' t.ci i).qv j).qu k).size:Int))) 0 (at' (at' t.ci i).qv j).qu.length
      .rw[Bool.or_false,Au (show -9223372036854775808<=j+1 by omega) (by omega)];rfl
      .rfl
     .intro k q m;rw[QQ (by simpa using m),As q m,bs,Au (show -9223372036854775808<=k+1 by omega) (by omega),Ui]
     .rw[a6 (by simp)]
    .rfl
   .rw[a6 (by simp)])with⟨s',z,d⟩|⟨r,z,d⟩
 .rw[z];rcases d with d|d
  .rw[IY,Dh (fun i=>decide (40<((at' t.d6 i).og.size:Int))) false]
   .cases Q:ra (fun i=>decide (40<((at' t.d6 i).og.size:Int))) 0 t.d6.length
    .refine⟨true,rfl,fun _=>⟨by omega,by omega,fun n u=>?_,fun n u=>?_,fun n u=>?_,fun e he=>?_⟩⟩
     .obtain⟨k,q,m,rfl⟩:=Cf u;exact(d.2.2 k q m).1
     .obtain⟨k,q,m,rfl⟩:=Cf u;exact(d.2.2 k q m).2.1
     .obtain⟨k,q,m,rfl⟩:=Cf u;exact(d.2.2 k q m).2.2
     .obtain⟨k,q,m,rfl⟩:=Cf he;have:=CW.1 Q k q m;simpa using this
    .exact⟨false,rfl,fun h=>by cases h⟩
   .intro i B C _;rw[As B C,bs,Ui]
  .exact d.elim
 .rw[z];subst d;exact⟨false,rfl,fun h=>by cases h⟩
end Go.Sf.Sc
