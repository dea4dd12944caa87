/- Plain lemmas: what the functions of the program and of the reference compute. -/
import Derived.Test.YtdnblcjdhbadaaaGreatSfRead
import Derived.Test.YtdnblcjdhbadaaaGreatFns
import Derived.Test.YtdnblcjdhbadaaaGreatSfPl
set_option linter.all false
set_option maxRecDepth 100000
namespace Go.Sf
theorem Ws{ρ τ:Type}{d:Int->Option ρ}{g:ρ->τ}:∀(n:Nat)(a:Int),EQ (fun i=>(d i).map g) n a=(EQ d n a).map g
 |0,_=>rfl|n+1,a=>by
  rw [EQ,EQ];cases d a with
  |some r=>rfl|none=>exact Ws n (a+1)
variable{a b:Int}
theorem PF{ρ τ:Type}{d:Int->Option ρ}{g:ρ->τ}:fst (fun i=>(d i).map g) a b=(fst d a b).map g:=Ws _ _
theorem VJ{ρ:Type}{d:Int->Option ρ}{r:ρ}:∀{n:Nat}{a:Int},EQ d n a=some r->∃i,a<=i/\i<a+n/\d i=some r/\∀j,a<=j->j<i->d j=none
 |0,_,h=>by cases h
 |n+1,a,h=>by
  rw [EQ]at h;cases hd:d a with
  |some z=>
   grind
  |none=>
   rw [hd]at h;obtain⟨i,f,u,w,y⟩:=VJ h
   grind
theorem C4{ρ:Type}{d:Int->Option ρ}{r:ρ}(h:fst d a b=some r):∃i,a<=i/\i<b/\d i=some r/\∀j,a<=j->j<i->d j=none:=by
 obtain ⟨i,f,u,w,y⟩:=VJ h
 grind
def Ky(p:Int->Bool)(s:ByteArray):Int:=(fst (fun i=>if p (bt s i)then none else some i) 0 s.size).getD s.size
theorem TQ(p:Int->Bool)(s:ByteArray):0<=Ky p s/\Ky p s<=s.size/\(∀j,0<=j->j<Ky p s->p (bt s j)=true)/\(Ky p s<s.size->p (bt s (Ky p s))=false):=by
 unfold Ky;cases h:fst (fun i=>if p (bt s i)then none else some i) 0 s.size with
 |none=>
  rw [CH]at h
  grind
 |some r=>
  grind [C4,bt,Option.getD]
theorem Zg{s:ByteArray}(h:s≠⟨#[]⟩):0<s.size:=by
 rcases Nat.eq_zero_or_pos s.size with f|f
 .exfalso;apply h;cases s with|mk d=>congr 1;exact Array.eq_empty_of_size_eq_zero f
 .exact f
end Go.Sf
namespace Go.Sf.Sc
open Go Go.Sf
def E7(c:Int):Bool:=((decide (97<=c))&&(decide (c<=122)))||((decide (65<=c))&&(decide (c<=90)))
def Aad(c:Int):Bool:=(decide (48<=c))&&(decide (c<=57))
def QJ(c:Int):Bool:=E7 c||Aad c||decide (c=95)
theorem Y7(c:Int):KN c=some (E7 c):=rfl
theorem WD(c:Int):Jg c=some (Aad c):=rfl
theorem ZQ(c:Int):KA c=some (E7 c):=rfl
theorem bV(c:Int):Hv c=some (Aad c):=rfl
theorem pT(c:Int):M7 c=some (QJ c):=by
 unfold M7 QJ;rw[Y7,bs,WD]
 grind
theorem dG{s:ByteArray}(d:(s.size:Int)<=4611686018427387904){ok:Int->K1}{p:Int->Bool}(h:∀c,ok c=some (p c)):KP s ok=some (Ky p s):=by
 unfold KP;rw[PP (c:=fun i=>(if p (bt s i)then none else some i).map .inl) (a:=0) (b:=s.size) (by omega)]
 .rw[PF];unfold Ky;cases fst (fun i=>if p (bt s i)=true then none else some i) 0 s.size<;>rfl
 .grind[PN,bt,C7,Ap]
 .simp
def EI(s:ByteArray):Bool:=decide (0<s.size)&&E7 (bt s 0)&&decide (s.size<=20)&&decide (Ky QJ s=s.size)
theorem WB(l:List ByteArray)(v:ByteArray):∃k,slices_Index_string l v=some k/\(0<=k↔v∈l):=by
 unfold slices_Index_string;rw[BV (fun i=>if(v==AA l i)=true then some i else none)]
 .cases h:fst (fun i=>if(v==AA l i)=true then some i else none) 0 l.length with
  |none=>
   rw [CH]at h;refine⟨-1,rfl,by omega,fun u=>?_⟩
   grind [BZ]
  |some k=>
   obtain ⟨i,d,f,w,_⟩:=C4 h;have j:(v==AA l i)=true/\i=k:=by
    grind
   obtain ⟨j,rfl⟩:=j;refine⟨i,rfl,fun _=>?_,fun _=>d⟩
   grind [AI]
 .intro i d f _;simp only[AD d f,bs];split<;>rfl
theorem Og(l:List ByteArray)(v:ByteArray):slices_Contains_string l v=some (l.contains v):=by
 unfold slices_Contains_string;obtain⟨k,d,f⟩:=WB l v
 grind
theorem pR{s:ByteArray}(C:0<s.size)(z:(s.size:Int)<=4611686018427387904):∃k n e,M5 s=some (k,n,e)/\(((decide (e=0))&&(decide (k=1)))&&(decide (n=(s.size:Int))))=EI s:=by
 have I:=TQ QJ s;unfold M5 EI;simp only[PN (Int.le_refl 0) (show(0:Int)<s.size by omega),bs,Y7,WD,dG z pT,dG z WD,C,decide_true,Bool.true_and];by_cases d:E7 (bt s 0)=true
 .rw[a6 d];by_cases f:20<Ky QJ s
  .refine⟨0,0,3,by simp[f],?_⟩;simp[d];intro H h;omega
  .refine⟨1,_,0,by rw[ae (by simpa using f)],?_⟩;simp only[d,decide_true,Bool.true_and];rw[Bool.eq_iff_iff];simp only[x7,pc];omega
 .rw[ae d];have j:E7 (bt s 0)=false:=by simpa using d
  rw [j,Bool.false_and,Bool.false_and];by_cases hd:Aad (bt s 0)=true
  .rw[a6 hd];by_cases A:9<Ky Aad s
   .exact⟨0,0,3,by simp[A],by simp⟩
   .exact⟨2,_,0,by rw[ae (by simpa using A)],by simp⟩
  .rw[ae hd];by_cases B:bt s 0=34
   .have D:=Xk (s:=s) (a:=1) (b:=s.size) (by omega) (by omega) (by omega);have u:∀c,Kr c=some (((decide (32<=c))&&(decide (c<=126)))&&(!decide (c=34))):=fun _=>rfl;have E:=TQ (fun c=>((decide (32<=c))&&(decide (c<=126)))&&(!decide (c=34))) (s.extract (1:Int).toNat (s.size:Int).toNat);have w:∃n e,KO s=some (n,e):=by
     unfold KO;rw[MD (by omega) (by omega) (by omega),bs,dG (by omega) u,bs];rw[Ap (by omega) (by omega)];by_cases he:1+Ky (fun c=>((decide (32<=c))&&(decide (c<=126)))&&(!decide (c=34))) (s.extract (1:Int).toNat (s.size:Int).toNat)=s.size
     .refine⟨0,2,?_⟩;simp only[he,decide_true,if_true,bs]
     .simp only[he,decide_false,Bool.false_eq_true,if_false];rw[PN (by omega) (by omega)];simp only[bs];split
      .exact⟨_,_,rfl⟩
      .split
       .exact⟨_,_,rfl⟩
       .exact⟨_,_,rfl⟩
    obtain ⟨n,e,y⟩:=w;refine⟨3,n,e,by rw[a6 (by simpa using B),y];rfl,by simp⟩
   .rw[ae (by simpa using B)];have F:∃b,M6 s=some b:=by
     unfold M6;by_cases h:2<=(s.size:Int)
     .rw[a6 (by simpa using h),MD (by omega) (by omega) h];simp only[bs,Og];exact⟨_,rfl⟩
     .rw[ae (by simpa using h)];exact⟨_,rfl⟩
    obtain ⟨b,G⟩:=F;rw[G,bs];cases b
    .simp only[Bool.false_eq_true,if_false,strings_IndexByte,bs];split
     .exact⟨_,_,_,rfl,rfl⟩
     .exact⟨_,_,_,rfl,rfl⟩
    .exact⟨_,_,_,rfl,rfl⟩
theorem Pk{s:ByteArray}(d:(s.size:Int)<=4611686018427387904):El s=some (EI s):=by
 unfold El N4;simp only[show decide ((1:Int)=3)=false from rfl,Bool.false_eq_true,if_false,bs];by_cases he:s=⟨#[]⟩
 .subst he;rfl
 grind [pR,Zg]
theorem py{s:ByteArray}(w:(s.size:Int)<=4611686018427387904)(d:Bool):∃n,OJ s 0 d=some n/\0<=n/\n<=s.size/\(d=false->n=Ky QJ s):=by
 have h:=TQ (fun c=>Aad c||(!d&&(E7 c||decide (c=95)))) s;refine⟨Ky (fun c=>Aad c||(!d&&(E7 c||decide (c=95)))) s,?_,h.1,h.2.1,fun hd=>?_⟩
 .unfold OJ;rw[PP (c:=fun i=>(if(Aad (bt s i)||(!d&&(E7 (bt s i)||decide (bt s i=95))))then none else some i).map .inl) (a:=0) (b:=s.size) (by omega)]
  .rw[PF];unfold Ky;cases fst (fun i=>if(Aad (bt s i)||(!d&&(E7 (bt s i)||decide (bt s i=95))))=true then none else some i) 0 s.size<;>rfl
  .intro i u f _;have j:Al (0+i)=i:=by rw[Ap (by omega) (by omega)];omega
   simp only[j,f,decide_true,if_true,PN u f,bs,bV,ZQ]
   grind [Aad,bt,E7,C7,Ap]
  .have j:Al (0+(s.size:Int))=s.size:=by rw[Ap (by omega) (by omega)];omega
   grind
 .subst hd;congr 1
  grind [QJ,E7,Aad]
theorem jD{s:ByteArray}(w:0<s.size)(y:(s.size:Int)<=4611686018427387904):∃n,KB s 0=some n/\(n=0\/(2<=n/\n<=s.size)):=by
 unfold KB;rw[PP (c:=fun i=>if decide (bt s i=34)=true then some (Sum.inr (i+1):Int ⊕ Int)else if(decide (bt s i<32)||decide (126<bt s i))=true then some (Sum.inr 0)else none) (a:=1) (b:=s.size) (by omega)]
 .cases h:fst (fun i=>if decide (bt s i=34)=true then some (Sum.inr (i+1):Int ⊕ Int)else if(decide (bt s i<32)||decide (126<bt s i))=true then some (Sum.inr 0)else none) 1 s.size with
  |none=>exact⟨0,rfl,.inl rfl⟩|some r=>
   obtain ⟨i,u,f,d,_⟩:=C4 h;split at d
   .cases d;exact⟨_,rfl,.inr (by omega)⟩
   .split at d
    .cases d;exact⟨_,rfl,.inl rfl⟩
    .cases d
 .intro i u f _;have j:Al (0+i)=i:=by rw[Ap (by omega) (by omega)];omega
  simp only[j,f,decide_true,if_true,PN (show 0<=i by omega) f,bs,Ap (show -9223372036854775808<=i+1 by omega) (by omega)];split
  .rfl
  .split<;>rfl
 .have j:Al (0+(s.size:Int))=s.size:=by rw[Ap (by omega) (by omega)];omega
  grind
theorem tN{s:ByteArray}(S:0<s.size)(T:(s.size:Int)<=4611686018427387904):∃t n e,OI s 0=some (t,n,e)/\(((decide (e=0))&&(decide (n=(s.size:Int))))&&(decide (t.l3=1)))=EI s:=by
 obtain ⟨m,O,y,z,Q⟩:=py T (Aad (bt s 0));unfold OI EI;simp only[PN (Int.le_refl 0) (show(0:Int)<s.size by omega),bs,ZQ,bV,S,decide_true,Bool.true_and,O];have U:Al (0+m)=m:=by rw[Ap (by omega) (by omega)];omega
 by_cases H:E7 (bt s 0)=true
 .have hd:Aad (bt s 0)=false:=by
   unfold E7 at H;unfold Aad
   grind
  have hm:=Q hd;subst hm;simp only[H,if_true,hd,Bool.false_eq_true,if_false,bs,U];by_cases w:20<Ky QJ s
  .refine⟨_,_,_,by rw[a6 (by simpa using w)],?_⟩
   grind
  .rw[ae (by simpa using w),MD (Int.le_refl _) y z];refine⟨_,_,_,rfl,?_⟩
   grind
 .have I:E7 (bt s 0)=false:=by simpa using H
  simp only[I,Bool.false_eq_true,if_false,bs,Bool.false_and,U];by_cases hd:Aad (bt s 0)=true
  .simp only[hd,if_true,bs];by_cases V:9<m
   .exact⟨_,_,_,by rw[a6 (by simpa using V)],by simp⟩
   .rw[ae (by simpa using V),MD (Int.le_refl _) y z];exact⟨_,_,_,rfl,by simp⟩
  .have J:Aad (bt s 0)=false:=by simpa using hd
   simp only[J,Bool.false_eq_true,if_false,bs];by_cases W:bt s 0=34
   .obtain⟨n,hn,A⟩:=jD S T;rw[a6 (by simpa using W),hn,bs];rcases A with rfl|A
    .grind
    .rw[ae (by simp;omega)];split
     .grind
     .have e1:Al (0+1)=1:=by decide
      have e2:Al (0+n)=n:=by rw[Ap (by omega) (by omega)];omega
      rw [e1,e2,Ap (show -9223372036854775808<=n-1 by omega) (by omega),MD (by omega) (by omega) (by omega)];exact⟨_,_,_,rfl,by simp⟩
   .rw[ae (by simpa using W)];unfold Nn;rw[bs];generalize hL:([(⟨#[45,62]⟩:ByteArray),(⟨#[60,61]⟩:ByteArray),(⟨#[62,61]⟩:ByteArray),(⟨#[61,61]⟩:ByteArray),(⟨#[33,61]⟩:ByteArray),(⟨#[123]⟩:ByteArray),(⟨#[125]⟩:ByteArray),(⟨#[40]⟩:ByteArray),(⟨#[41]⟩:ByteArray),(⟨#[91]⟩:ByteArray),(⟨#[93]⟩:ByteArray),(⟨#[44]⟩:ByteArray),(⟨#[59]⟩:ByteArray),(⟨#[58]⟩:ByteArray),(⟨#[61]⟩:ByteArray),(⟨#[43]⟩:ByteArray),(⟨#[45]⟩:ByteArray),(⟨#[42]⟩:ByteArray),(⟨#[60]⟩:ByteArray),(⟨#[62]⟩:ByteArray),(⟨#[33]⟩:ByteArray),(⟨#[38]⟩:ByteArray),(⟨#[124]⟩:ByteArray),(⟨#[46]⟩:ByteArray),(⟨#[63]⟩:ByteArray)]:List ByteArray)=L;have K:∀x∈L,x.size<=2:=by subst hL;decide
    rcases Yg (f:=(fun(h:Int)(Z:EO)=>
      (idx L h).bind fun C=>
      (if(decide ((Al (0+(C.size:Int)))<=(s.size:Int)))=true then((idx L h).bind fun D=>
      (Aax s 0 (Al (0+(D.size:Int)))).bind fun E=>
      (idx L h).bind fun F=>
      some (E==F))else some false).bind fun G=>
      if G=true then
      (idx L h).bind fun j=>
      (idx L h).bind fun u=>
      some (B0.ret (EO.mk 4 j 0,(u.size:Int),(0:Int)))
      else
      some (B0.next Z))) (fun _ s=>True) (fun _=>True) (fun r=>r.1.l3=4) (a:=0) (b:=L.length) (s:=EO.mk 0 (⟨#[]⟩:ByteArray) 0) (by omega) trivial (fun i t d B _=>by
      have hx:=K _ (AI d B);have M:Al (0+((AA L i).size:Int))=(AA L i).size:=by rw[Ap (by omega) (by omega)];omega
      simp only[AD d B,bs,M];by_cases N:((AA L i).size:Int)<=s.size
      .rw[a6 (by simpa using N),MD (by omega) (by omega) N];simp only[bs];split
       .exact .inr (.inr ⟨_,rfl,rfl⟩)
       .exact .inl ⟨_,rfl,trivial⟩
      .rw[ae (by simpa using N)];simp only[bs];exact .inl ⟨_,rfl,trivial⟩)with⟨s',d,_⟩|⟨r,d,B⟩
    .rw[d];exact⟨_,_,_,rfl,by simp⟩
    .rw[d];exact⟨_,_,_,rfl,by simp[B]⟩
theorem Pl{s:ByteArray}(d:(s.size:Int)<=4611686018427387904):Eg s=some (EI s):=by
 unfold Eg Nl Ox;simp only[show decide ((1:Int)=3)=false from rfl,Bool.false_eq_true,if_false,bs];by_cases he:s=⟨#[]⟩
 .subst he;rfl
 grind [tN,Zg]
end Go.Sf.Sc
namespace Go.Sf
variable{ρ β:Type}
def nz(e:Int):QQ:=if e=0 then none else some e
theorem Mb(e:Int):(if(!decide (e=0))=true then some (B0.ret e)else some (B0.next ()))=some (Lk (nz e)):=by grind[nz,Lk]
theorem oa(b:Bool)(r:ρ):(if b=true then some (B0.ret r)else some (B0.next ()))=some (Lk (if b=true then some r else none)):=by
 cases b<;>rfl
variable{kr:ρ->Option β}
theorem Bc{σ:Type}{s:σ}{k:σ->Option β}:AM (some (.inl s)) k kr=k s:=rfl
theorem TY{σ:Type}{r:ρ}{k:σ->Option β}:AM (some (.inr r)) k kr=kr r:=rfl
theorem DE(o:Option ρ)(k:Unit->Option β)(kr:ρ->Option β):AM (some (kU o)) k kr=match o with|none=>k ()|some r=>kr r:=by
 cases o<;>rfl
theorem CP(o:QQ):AM (some (kU o)) (fun _=>some 0) (fun v=>some v)=some (o.getD 0):=by
 cases o<;>rfl
variable{a b:Int}
theorem VK{c:Int->Int}(h:(fst (fun i=>nz (c i)) a b).getD 0=0):∀i,a<=i->i<b->c i=0:=by
 have:fst (fun i=>nz (c i)) a b=none:=by
  cases hf:fst (fun i=>nz (c i)) a b with
  |none=>rfl|some r=>
   grind [Option.getD,C4,nz]
 grind [CH,nz]
variable{e:Int}
theorem PJ:nz e=none↔e=0:=by grind[nz]
theorem Ub{α:Type}[Inhabited α]{l:List α}{f:α->K1}{p:α->Bool}(h:∀x∈l,f x=some (p x)):
  (AM (Ag (ρ:=Int) (fun(u:Int)(_:Unit)=>(idx l u).bind fun d=>(f d).bind fun j=>if j=true then some (.ret u)else some (.next ())) 0 (l.length:Int) ()) (fun _=>some (-1)) (fun z=>some z))=
   some ((fst (fun i=>if p (AA l i)=true then some i else none) 0 l.length).getD (-1)):=by
 rw [BV (fun i=>if p (AA l i)=true then some i else none)]
 .rw[DE];cases fst (fun i=>if p (AA l i)=true then some i else none) 0 l.length<;>rfl
 .intro i w y _;rw[AD w y,bs,h _ (AI w y),bs,oa]
theorem Wy{α:Type}[Inhabited α]{l:List α}{p:α->Bool}:decide (0<=(fst (fun i=>if p (AA l i)=true then some i else none) 0 l.length).getD (-1))=l.any p:=by
 rw [FM,ns];cases h:fst (fun i=>if p (AA l i)=true then some i else none) 0 l.length with
 |none=>
  grind [CH,Option.isSome,Option.isSome_eq_false_iff,Option.isNone_iff_eq_none,AA]
 |some k=>
  grind [C4,AA,Option.getD,Option.isSome,Option.isSome_iff_ne_none,CH]
theorem ET{α:Type}[Inhabited α]{l:List α}{f:α->K1}{p:α->Bool}(h:∀x∈l,f x=some (p x)):
  ((AM (Ag (ρ:=Int) (fun(u:Int)(_:Unit)=>(idx l u).bind fun d=>(f d).bind fun j=>if j=true then some (.ret u)else some (.next ())) 0 (l.length:Int) ()) (fun _=>some (-1)) (fun w=>some w)).bind fun y=>some (decide (0<=y)))=some (l.any p):=by
 rw [Ub h,bs,Wy]
end Go.Sf
namespace Go.Sf.Sc
open Go Go.Sf
instance:Inhabited mo:=⟨⟨⟨#[]⟩,0,0,[]⟩⟩
instance:Inhabited B6:=⟨⟨⟨#[]⟩,0,false,[]⟩⟩
instance:Inhabited CY:=⟨⟨⟨#[]⟩,0,0,0,0,0,0⟩⟩
instance:Inhabited BY:=⟨⟨0,0,0⟩⟩
instance:Inhabited CI:=⟨⟨0,0,⟨0,0⟩⟩⟩
instance:Inhabited Test:=⟨⟨0,⟨0,0⟩,⟨0,0⟩⟩⟩
instance:Inhabited ea:=⟨⟨0,[],⟨[],[]⟩,⟨⟨[],[]⟩,[],0,[]⟩⟩⟩
variable{l:Fp}
theorem Ss{f:Int->K1}{p:Int->Bool}(h:∀x∈l,f x=some (p x)):BO l f=some (l.any p):=ET h
theorem aS{l:List BY}{f:BY->K1}{p:BY->Bool}(h:∀x∈l,f x=some (p x)):By l f=some (l.any p):=ET h
theorem YK{l:List ea}{f:ea->K1}{p:ea->Bool}(h:∀x∈l,f x=some (p x)):Cn l f=some (l.any p):=ET h
theorem UC{l:List B6}{p:B6->Bool}:Cw l (fun x=>some (p x))=some (l.any p):=ET (fun _ _=>rfl)
theorem Zy{l:List CY}{p:CY->Bool}:Dg l (fun x=>some (p x))=some (l.any p):=ET (fun _ _=>rfl)
theorem ls{l:List mo}{p:mo->Bool}:Ei l (fun x=>some (p x))=some (l.any p):=ET (fun _ _=>rfl)
theorem YL{p:Int->Bool}:BO l (fun x=>some (p x))=some (l.any p):=ET (fun _ _=>rfl)
theorem aT{l:List BY}{p:BY->Bool}:By l (fun x=>some (p x))=some (l.any p):=ET (fun _ _=>rfl)
theorem aU{l:List CI}{p:CI->Bool}:DW l (fun x=>some (p x))=some (l.any p):=ET (fun _ _=>rfl)
theorem ed(l:Fp)(v:Int):slices_Index_int l v=some ((fst (fun i=>if decide (v=AA l i)=true then some i else none) 0 l.length).getD (-1)):=by
 have:=Ub (l:=l) (f:=fun x=>some (decide (v=x))) (p:=fun x=>decide (v=x)) (fun _ _=>rfl);unfold slices_Index_int
 grind
theorem J0(l:Fp)(v:Int):slices_Contains_int l v=some (l.any fun x=>decide (v=x)):=by grind[slices_Contains_int,ed,Wy]
theorem lv(l:a5)(v:Bool):Ej l v=some (l.any fun x=>v==x):=by
 have:=ET (l:=l) (f:=fun x=>some (v==x)) (p:=fun x=>v==x) (fun _ _=>rfl);unfold Ej IA
 grind
structure US(a:mo):Prop where
 name:(a.og.size:Int)<=40
 names:a.tg.length<=25
 each:∀x∈a.tg,(x.size:Int)<=40
structure Au(t:AC):Prop where
 ej:t.d4.length<=20
 fd:t.d5.length<=30
 name:∀n∈t.d4,(n.og.size:Int)<=40
 AbP:∀n∈t.d4,n.tl.length<=30
 each:∀n∈t.d4,∀a∈n.tl,US a
 ename:∀e∈t.d5,(e.og.size:Int)<=40
def par(t:AC)(i:Int):Int:=(AA t.d4 i).r0
def Eb(t:AC)(k:Int):Prop:=∀i,0<=i->i<k->-1<=par t i/\par t i<i
def B3(t:AC):Nat->Int->List mo
 |0,_=>[]|n+1,a=>if a<0 then[]else B3 t n (par t a)++(AA t.d4 a).tl
def Ax(t:AC)(a:Int):List mo:=B3 t (a+1).toNat a
variable{t:AC}{a:Int}
theorem Ir{n:Nat}(h:a<0):B3 t n a=[]:=by
 cases n with
 |zero=>rfl|succ n=>rw[B3,a6 h]
variable{k:Int}
theorem Lw(d:Eb t k):∀(n m:Nat)(a:Int),a<k->a<n->a<m->B3 t n a=B3 t m a
 |n,m,a,h,j,u=>by
  by_cases f:a<0
  .grind[Ir]
  .cases n with
   |zero=>omega|succ n=>
    cases m with
    |zero=>omega|succ m=>
     rw [B3,B3,ae f,ae f];have:=d a (by omega) h;rw[Lw d n m (par t a) (by omega) (by omega) (by omega)]
theorem MK(hf:Au t)(f:k<=t.d4.length)(d:Eb t k):∀(n:Nat)(a:Int),a<k->((B3 t n a).length:Int)<=30*n
 |0,_,_=>by simp[B3]|n+1,a,h=>by
  rw [B3];split
  .simp;omega
  .rename_i j;have u:=d a (by omega) h;have w:=MK hf f d n (par t a) (by omega);have y:=hf.AbP _ (AI (l:=t.d4) (show 0<=a by omega) (by omega))
   grind
theorem U2(hf:Au t)(h:k<=t.d4.length)(f:Eb t k):∀(n:Nat)(a:Int),a<k->∀x∈B3 t n a,US x
 |0,_,_=>by simp[B3]|n+1,a,j=>by
  rw [B3];split
  .simp
  .rename_i u;have w:=f a (by omega) j;intro x d;rcases List.mem_append.1 d with d|d
   .exact U2 hf h f n (par t a) (by omega) x d
   .exact hf.each _ (AI (l:=t.d4) (show 0<=a by omega) (by omega)) x d
theorem GA(hf:Au t)(d:k<=t.d4.length)(f:Eb t k)(h:a<k):(Ax t a).length<=600:=by
 have:=MK hf d f (a+1).toNat a h;have:=hf.ej;unfold Ax;omega
theorem ML(hf:Au t)(d:k<=t.d4.length)(f:Eb t k)(h:a<k):∀x∈Ax t a,US x:=U2 hf d f _ a h
theorem Y3(hf:Au t)(j:k<=t.d4.length)(h:Eb t k):∀(n:Nat)(a:Int),0<=a->a<k->a<n->D2 n t a=some (B3 t n a)
 |0,_,_,_,_=>by omega|n+1,a,w,C,G=>by
  have D:=h a (by omega) C;have y:=MK hf j h n (par t a) (by omega);have E:=hf.AbP _ (AI (l:=t.d4) w (by omega));have F:=hf.ej;rw[D2,B3,ae (by omega),AD w (by omega)];simp only[bs];show((if decide (0<=par t a)=true then(D2 n t (par t a)).bind fun f=>some f else some []).bind _)=_;have e:(if decide (0<=par t a)=true then(D2 n t (par t a)).bind fun f=>some f else some [])=some (B3 t n (par t a)):=by
   by_cases u:0<=par t a
   .rw[a6 (by simpa using u),Y3 hf j h n (par t a) u (by omega) (by omega)];rfl
   .rw[ae (by simpa using u),Ir (by omega)]
  have z:(B3 t n (par t a)).length+(AA t.d4 a).tl.length<=AW:=by
   unfold AW;have:((B3 t n (par t a)).length:Int)<=30*n:=y;have A:B3 t n (par t a)=B3 t 20 (par t a):=by
    by_cases d:par t a<0
    .rw[Ir d,Ir d]
    .exact Lw h n 20 (par t a) (by omega) (by omega) (by omega)
   have B:=MK hf j h 20 (par t a) (by omega);rw[<-A]at B;omega
  rw [e,bs,AT z];rfl
theorem bM(hf:Au t)(d:k<=t.d4.length)(f:Eb t k)(h:0<=a)(j:a<k):N6 t a=some (Ax t a):=
 Dw (a+1).toNat fun n u=>by
  grind [Y3,Ax,Lw]
theorem ZI(hf:Au t)(h:k<=t.d4.length)(f:Eb t k):∀(n:Nat)(a:Int),-1<=a->a<k->a+1<n->FT n t a=some (B3 t n a)
 |0,_,_,_,_=>by omega|n+1,a,C,y,D=>by
  rw [FT,B3];by_cases d:a<0
  .grind
  .have z:=f a (by omega) y;have A:=hf.AbP _ (AI (l:=t.d4) (show 0<=a by omega) (by omega));have B:=hf.ej;rw[ae (by simpa using d),ae d,AD (by omega) (by omega)];simp only[bs];have j:B3 t n (par t a)=B3 t 20 (par t a):=by
    by_cases d:par t a<0
    .rw[Ir d,Ir d]
    .exact Lw f n 20 (par t a) (by omega) (by omega) (by omega)
   have u:=MK hf h f 20 (par t a) (by omega);rw[<-j]at u;have w:(B3 t n (par t a)).length+(AA t.d4 a).tl.length<=AW:=by unfold AW;omega
   rw [show(AA t.d4 a).r0=par t a from rfl,ZI hf h f n (par t a) (by omega) (by omega) (by omega),bs,AT (by simp;unfold AW;omega)];simp only[bs,List.nil_append];rw[AT w];rfl
theorem bU(hf:Au t)(d:k<=t.d4.length)(f:Eb t k)(h:0<=a)(j:a<k):Np t a=some (Ax t a):=
 Dw (a+2).toNat fun n u=>by
  grind [ZI,Ax,Lw]
end Go.Sf.Sc
namespace Go.Sf.Sc
open Go Go.Sf
def J5(l:List ByteArray):Int:=
 if (20:Int)<l.length then 3 else(fst (fun i=>if EI (AA l i)=false then some 2 else if ns (fun j=>AA l j==AA l i) 0 i=true then some 5 else none) 0 l.length).getD 0
variable{b:Int}
theorem YQ{l:List ByteArray}{x:ByteArray}(d:0<=b)(f:b<=l.length):(l.take b.toNat).contains x=ns (fun j=>AA l j==x) 0 b:=by
 rw [List.contains_eq_any_beq,PW d f]
 grind
theorem mT{l:List ByteArray}(u:∀x∈l,(x.size:Int)<=40):LS l=some (J5 l):=by
 unfold LS J5;by_cases d:(20:Int)<l.length
 .grind
 .rw[ae (by simpa using d),ae d];rw[BV (fun i=>if EI (AA l i)=false then some 2 else if ns (fun j=>AA l j==AA l i) 0 i=true then some 5 else none),CP];intro i f h _;have w:=u _ (AI f h);rw[AD f h,bs,Pk (by omega),bs,Lq f (by omega)];simp only[bs,Og,YQ f (show i<=l.length by omega)];cases EI (AA l i)<;>cases ns (fun j=>AA l j==AA l i) 0 i<;>rfl
theorem ms{l:List ByteArray}(u:∀x∈l,(x.size:Int)<=40):K8 l=some (J5 l):=by
 unfold K8 J5;by_cases d:(20:Int)<l.length
 .grind
 .rw[ae (by simpa using d),ae d];rw[BV (fun i=>if EI (AA l i)=false then some 2 else if ns (fun j=>AA l j==AA l i) 0 i=true then some 5 else none),CP];intro i f h _;have w:=u _ (AI f h);rw[AD f h,bs,Pl (by omega),bs,BE (fun j=>AA l j==AA l i) 5]
  .cases EI (AA l i)<;>cases ns (fun j=>AA l j==AA l i) 0 i<;>rfl
  grind [AD]
def LU(all:List mo)(k:Int):Int:=
 let x:=AA all k
 if EI x.og=false then 2 else if ns (fun j=>(AA all j).og==x.og) 0 k=true then 5 else
 if x.tg.length=0 then(if -1000000<=x.Low/\x.Low<=x.Aao/\x.Aao<=1000000 then 0 else 6)else
 if J5 x.tg≠0 then J5 x.tg else if x.Low=0/\x.Aao=x.tg.length-1 then 0 else 6
variable{k:Int}
theorem Z8{d:List mo}(w:∀x∈d,US x)(u:0<=k)(y:k<d.length):Hp (AA d k) (d.take k.toNat)=some (LU d k):=by
 have j:=w _ (AI u y);have C:=j.name;unfold Hp LU;dsimp only;rw[Pk (by omega),bs,show(fun f=>IB f (AA d k))=(fun f=>some (f.og==(AA d k).og))from rfl,ls,bs,PW u (by omega),mT j.each,bs];have z:=j.names;have A:Al ((AA d k).tg.length-1)=(AA d k).tg.length-1:=Ap (by omega) (by omega);rw[A];have B:(AA d k).tg.length=0->J5 (AA d k).tg=0:=fun h=>by rw[List.eq_nil_of_length_eq_zero h];rfl
 generalize J5 (AA d k).tg=e at B|-;simp only[bs,x7,Bool.or_eq_true,pc,Bool.not_eq_true',decide_eq_false_iff_not,Bool.not_eq_false',Bool.or_eq_false_iff,Bool.and_eq_false_iff,ne_eq]
 repeat' (first|rfl|(exfalso;omega;done)|split)
 all_goals (first|rfl|(exfalso;omega)|omega|simp_all|(simp_all;omega))
theorem aA{x:mo}(d:US x):Ha x=some (
 if x.tg.length=0 then(if -1000000<=x.Low/\x.Low<=x.Aao/\x.Aao<=1000000 then 0 else 6)else
 if J5 x.tg≠0 then J5 x.tg else if x.Low=0/\x.Aao=x.tg.length-1 then 0 else 6):=by
 have f:=d.names;have h:Al (x.tg.length-1)=x.tg.length-1:=Ap (by omega) (by omega);unfold Ha DI;simp only[bs,h,ms d.each];generalize J5 x.tg=e;simp only[bs,x7,Bool.or_eq_true,pc,Bool.not_eq_true',decide_eq_false_iff_not,Bool.not_eq_false',Bool.or_eq_false_iff,Bool.and_eq_false_iff,ne_eq]
 repeat' (first|rfl|(exfalso;omega;done)|split)
 all_goals (first|rfl|(exfalso;omega)|omega|simp_all|(simp_all;omega))
def H9(t:AC)(i:Int):Int:=
 let n:=AA t.d4 i
 if EI n.og=false then 2 else if ns (fun j=>(AA t.d4 j).og==n.og) 0 i=true then 5 else
 if n.r0< -1\/i<=n.r0 then 6 else if 4<n.tl.length\/8<(Ax t i).length then 3 else
 (fst (fun k=>nz (LU (Ax t i) k)) ((Ax t i).length-n.tl.length) (Ax t i).length).getD 0
variable{t:AC}{i:Int}
theorem U4(d:0<=i):(AA t.d4 i).tl.length<=(Ax t i).length:=by
 unfold Ax;rw[show(i+1).toNat=i.toNat+1 by omega,B3,ae (by omega),bk];omega
theorem Eb.next(h:Eb t i)(f:-1<=par t i)(u:par t i<i):Eb t (i+1):=by
 intro j d w;by_cases y:j=i
 .grind
 .exact h j d (by omega)
theorem pS(hf:Au t)(f:0<=i)(z:i<t.d4.length)(D:Eb t i):NA t i=some (H9 t i):=by
 have F:=hf.name _ (AI f z);unfold NA H9;dsimp only;rw[AD f z,bs,Pk (by omega),bs,Lq f (by omega),bs,show(fun w=>NB w (AA t.d4 i))=(fun w=>some (w.og==(AA t.d4 i).og))from rfl,UC,bs,PW f (by omega)];cases EI (AA t.d4 i).og
 .rfl
 .cases ns (fun j=>(AA t.d4 j).og==(AA t.d4 i).og) 0 i
  .by_cases h:(AA t.d4 i).r0< -1\/i<=(AA t.d4 i).r0
   .rcases h with h|h<;>simp[h]
   .have d:Eb t (i+1):=D.next (by unfold par;omega) (by unfold par;omega)
    have y:(decide ((AA t.d4 i).r0< -1)||decide (i<=(AA t.d4 i).r0))=false:=by
     rw [Bool.eq_false_iff];simpa using h
    rw [bM hf (k:=i+1) (by omega) d f (by omega),bs];have B:=GA hf (k:=i+1) (a:=i) (by omega) d (by omega);have C:=U4 (t:=t) f;have u:=ML hf (k:=i+1) (a:=i) (by omega) d (by omega);rw[Ap (by omega) (by omega),BV (fun k=>nz (LU (Ax t i) k)),CP]
    .simp only[y,h,Bool.not_true,Bool.false_eq_true,if_false];simp only[bs,x7,Bool.or_eq_true,pc,Bool.not_eq_true',decide_eq_false_iff_not,Bool.not_eq_false',Bool.or_eq_false_iff,Bool.and_eq_false_iff,ne_eq]
     repeat' (first|rfl|(exfalso;omega;done)|split)
     all_goals (first|rfl|(exfalso;omega)|omega|simp_all|(simp_all;omega))
    .intro k E A _;rw[AD (by omega) A,bs,Lq (by omega) (by omega),bs,Z8 u (by omega) A,bs,Mb]
  .rfl
theorem px(hf:Au t)(h:0<=i)(w:i<t.d4.length)(D:Eb t i):Mh t i=some (H9 t i):=by
 have H:=hf.name _ (AI h w);have I:=hf.ej;unfold Mh H9 DI;dsimp only;rw[AD h w,bs,Pl (by omega),bs,BE (fun j=>(AA t.d4 j).og==(AA t.d4 i).og) 5]
 .cases EI (AA t.d4 i).og
  .rfl
  .cases ns (fun j=>(AA t.d4 j).og==(AA t.d4 i).og) 0 i
   .simp only[Bool.not_true,Bool.false_eq_true,if_false,Bc,bs];rw[Ap (by omega) (by omega)];by_cases z:(AA t.d4 i).r0< -1\/i<=(AA t.d4 i).r0
    .rw[a6,ae (by decide),a6 z];simp;omega
    .have d:Eb t (i+1):=D.next (by unfold par;omega) (by unfold par;omega)
     rw [ae (by simp;omega),ae (by decide),ae z];rw[bU hf (k:=i+1) (by omega) d h (by omega),bs];have A:=GA hf (k:=i+1) (a:=i) (by omega) d (by omega);have B:=U4 (t:=t) h;have f:=ML hf (k:=i+1) (a:=i) (by omega) d (by omega);rw[Ap (by omega) (by omega)];rw[BV (fun k=>nz (LU (Ax t i) k)),CP]
     .simp only[bs,x7,Bool.or_eq_true,pc,Bool.not_eq_true',decide_eq_false_iff_not,Bool.not_eq_false',Bool.or_eq_false_iff,Bool.and_eq_false_iff,ne_eq]
      repeat' (first|rfl|(exfalso;omega;done)|split)
      all_goals (first|rfl|(exfalso;omega)|omega|simp_all|(simp_all;omega))
     .intro k y u _;have C:=f _ (AI (show 0<=k by omega) u);have F:=C.name;simp only[AD (show 0<=k by omega) u,bs];rw[Pl (by omega),bs,BE (fun j=>(AA (Ax t i) j).og==(AA (Ax t i) k).og) 5]
      .rw[aA C];simp only[bs,Mb];unfold LU;dsimp only;cases EI (AA (Ax t i) k).og
       .rfl
       .cases ns (fun j=>(AA (Ax t i) j).og==(AA (Ax t i) k).og) 0 k<;>rfl
      .intro j E G _;rw[AD E (by omega),bs];split<;>rfl
   .rfl
 .intro j y u _;rw[AD y (by omega),bs];split<;>rfl
def MM(low high:Int):Bool:=((decide (0<=low))&&(decide (low<=40)))&&((decide (high=(-1)))||((decide (low<=high))&&(decide (high<=40))))
theorem mh(low high:Int):JZ low high=some (MM low high):=by
 unfold JZ MM DI
 grind
def KV(t:AC)(i:Int):Int:=
 let x:=AA t.d5 i
 if EI x.og=false then 2 else if ns (fun j=>(AA t.d5 j).og==x.og) 0 i=true then 5 else
 if (0<=x.kq/\x.kq<t.d4.length)/\(0<=x.To/\x.To<t.d4.length)/\MM x.Aa5 x.AaP=true/\MM x.Abp x.Aa4=true then 0 else 6
theorem pK(hf:Au t)(d:0<=i)(h:i<t.d5.length):M8 t i=some (KV t i):=by
 have u:=hf.ename _ (AI d h);unfold M8 KV KS;dsimp only;rw[AD d h,bs,Pk (by omega),bs,Lq d (by omega),bs,show(fun f=>M9 f (AA t.d5 i))=(fun f=>some (f.og==(AA t.d5 i).og))from rfl,Zy,bs,PW d (by omega)];simp only[show∀a b,JT a b=some (MM a b)from fun _ _=>rfl,bs];generalize EI (AA t.d5 i).og=b1;generalize ns (fun j=>(AA t.d5 j).og==(AA t.d5 i).og) 0 i=b2;generalize MM (AA t.d5 i).Aa5 (AA t.d5 i).AaP=b3;generalize MM (AA t.d5 i).Abp (AA t.d5 i).Aa4=b4;cases b1
 .rfl
 grind
theorem ph(hf:Au t)(u:0<=i)(w:i<t.d5.length):Mg t i=some (KV t i):=by
 have z:=hf.ename _ (AI u w);have A:=hf.ej;unfold Mg KV DI;dsimp only;rw[AD u w,bs,Pl (by omega),bs,BE (fun j=>(AA t.d5 j).og==(AA t.d5 i).og) 5]
 .simp only[Ap (show -9223372036854775808<=(t.d4.length:Int)-1 by omega) (by omega),mh,bs];generalize EI (AA t.d5 i).og=b1;generalize ns (fun j=>(AA t.d5 j).og==(AA t.d5 i).og) 0 i=b2;generalize MM (AA t.d5 i).Aa5 (AA t.d5 i).AaP=b3;generalize MM (AA t.d5 i).Abp (AA t.d5 i).Aa4=b4;cases b1
  .rfl
  .cases b2
   .cases b3<;>cases b4
    all_goals
     by_cases f:0<=(AA t.d5 i).kq/\(AA t.d5 i).kq<t.d4.length
     .have d:(AA t.d5 i).kq<=(t.d4.length:Int)-1:=by omega
      by_cases y:0<=(AA t.d5 i).To/\(AA t.d5 i).To<t.d4.length
      .have h:(AA t.d5 i).To<=(t.d4.length:Int)-1:=by omega
       simp [f,y,d,h,Bc]
      .have:(decide (0<=(AA t.d5 i).To)&&decide ((AA t.d5 i).To<=(t.d4.length:Int)-1))=false:=by rw[Bool.eq_false_iff];simp;omega
       simp [f,y,d,this,Bc]
     .have:(decide (0<=(AA t.d5 i).kq)&&decide ((AA t.d5 i).kq<=(t.d4.length:Int)-1))=false:=by rw[Bool.eq_false_iff];simp;omega
      simp [f,this,Bc]
   .rfl
 grind [AD]
def A1(t:AC):ByteArray×Int:=
 if t.d4.length=0 then(⟨#[]⟩,7)else if 12<t.d4.length\/20<t.d5.length then(⟨#[]⟩,3)else
 match fst (fun i=>(nz (H9 t i)).map fun e=>((AA t.d4 i).og,e)) 0 t.d4.length with
 |some r=>r|none=>(fst (fun i=>(nz (KV t i)).map fun e=>((AA t.d5 i).og,e)) 0 t.d5.length).getD (⟨#[]⟩,0)
theorem eg(h:H9 t i=0):-1<=par t i/\par t i<i:=by grind[H9,par,AA]
theorem NQ{α β:Type}{o:Option α}{g:α->β}:o.map g=none↔o=none:=by cases o<;>simp
theorem Ue(h:∀j,0<=j->j<i->H9 t j=0):Eb t i:=fun j d f=>eg (h j d f)
theorem Tw{ρ:Type}(e:Int)(n:ByteArray):(if(!decide (e=0))=true then some (B0.ret (n,e))else some (B0.next ()))=some (Lk ((nz e).map fun e=>(n,e))):=by grind[nz,Lk]
theorem NV(hf:Au t):D1 t=some (A1 t):=by
 unfold D1 A1;rw[BV (fun i=>(nz (H9 t i)).map fun e=>((AA t.d4 i).og,e)),DE]
 .rw[BV (fun i=>(nz (KV t i)).map fun e=>((AA t.d5 i).og,e)),DE]
  .cases fst (fun i=>(nz (H9 t i)).map fun e=>((AA t.d4 i).og,e)) 0 t.d4.length<;>cases fst (fun i=>(nz (KV t i)).map fun e=>((AA t.d5 i).og,e)) 0 t.d5.length
   all_goals dsimp only
   all_goals try simp only[Option.getD]
   all_goals
    simp only[bs,x7,Bool.or_eq_true,pc,Bool.not_eq_true',decide_eq_false_iff_not,Bool.not_eq_false',Bool.or_eq_false_iff,Bool.and_eq_false_iff,ne_eq]
    repeat' (first|rfl|(exfalso;omega;done)|split)
    all_goals (first|rfl|(exfalso;omega)|omega|simp_all|(simp_all;omega))
  .intro i d f _;rw[AD d f,bs,pK hf d f,bs];exact Tw (ρ:=Unit) _ _
 .intro i d f w;have y:Eb t i:=Ue fun j h u=>PJ.1 (NQ.1 (w j h u));rw[AD d f,bs,pS hf d f y,bs];exact Tw (ρ:=Unit) _ _
theorem PL(hf:Au t):EW t=some (A1 t):=by
 unfold EW A1;rw[BV (fun i=>(nz (H9 t i)).map fun e=>((AA t.d4 i).og,e)),DE]
 .rw[BV (fun i=>(nz (KV t i)).map fun e=>((AA t.d5 i).og,e)),DE]
  .cases fst (fun i=>(nz (H9 t i)).map fun e=>((AA t.d4 i).og,e)) 0 t.d4.length<;>cases fst (fun i=>(nz (KV t i)).map fun e=>((AA t.d5 i).og,e)) 0 t.d5.length
   all_goals dsimp only
   all_goals try simp only[Option.getD]
   all_goals
    simp only[bs,x7,Bool.or_eq_true,pc,Bool.not_eq_true',decide_eq_false_iff_not,Bool.not_eq_false',Bool.or_eq_false_iff,Bool.and_eq_false_iff,ne_eq]
    repeat' (first|rfl|(exfalso;omega;done)|split)
    all_goals (first|rfl|(exfalso;omega)|omega|simp_all|(simp_all;omega))
  .intro i d f _;simp only[ph hf d f,AD d f,bs];exact Tw (ρ:=Unit) _ _
 .intro i d f w;have y:Eb t i:=Ue fun j h u=>PJ.1 (NQ.1 (w j h u));simp only[px hf d f y,AD d f,bs];exact Tw (ρ:=Unit) _ _
end Go.Sf.Sc
namespace Go.Sf.Sc
open Go Go.Sf
theorem FO{α:Type}{c:Bool}{a b:α}:(if c=true then some a else some b)=some (if c=true then a else b):=by cases c<;>rfl
def LZ(n:Int):Bool:=(decide (0<=n))&&(decide (n<=99))
def RJ(e:BY)(n:Int):Bool:=LZ e.kg&&(decide (0<=e.kq)&&decide (e.kq<n))&&(decide (0<=e.To)&&decide (e.To<n))
def Bn(g:d6):Int:=
 if 40<g.d4.length\/80<g.d5.length then 3 else if(g.d4.any fun n=>!LZ n)=true then 6 else if(g.d5.any fun e=>!RJ e g.d4.length)=true then 6 else 0
structure Cc(g:d6):Prop where
 ej:g.d4.length<=40
 fd:g.d5.length<=80
 kind:∀n∈g.d4,0<=n/\n<=99
 fit:∀e∈g.d5,(0<=e.kg/\e.kg<=99)/\(0<=e.kq/\e.kq<g.d4.length)/\(0<=e.To/\e.To<g.d4.length)
variable{g:d6}
theorem C3(h:Bn g=0):Cc g:=by
 unfold Bn at h;split at h
 .cases h
 .split at h
  .cases h
  .split at h
   .cases h
   .rename_i u f d;refine⟨by omega,by omega,fun n j=>?_,fun e he=>?_⟩
    .rw[Bool.not_eq_true,List.any_eq_false]at f
     grind [LZ]
    .rw[Bool.not_eq_true,List.any_eq_false]at d;have:=d e he;simp only[RJ,LZ,Bool.not_eq_true',Bool.not_eq_false,pc,x7]at this;omega
theorem pO{e:BY}{n:Nat}(h:n<=40):MU e n=some (RJ e n):=by
 unfold MU GY RJ LZ;simp only[bs,Ap (show -9223372036854775808<=(n:Int)-1 by omega) (by omega)];have d:decide (e.kq<=(n:Int)-1)=decide (e.kq<n):=by rw[decide_eq_decide];omega
 have f:decide (e.To<=(n:Int)-1)=decide (e.To<n):=by rw[decide_eq_decide];omega
 rw [d,f];generalize (decide (0<=e.kg)&&decide (e.kg<=99))=b1;generalize (decide (0<=e.kq)&&decide (e.kq<n))=b2;cases b1<;>cases b2<;>simp
theorem L6(g:d6):DX g=some (Bn g):=by
 unfold DX Bn;by_cases h:40<g.d4.length\/80<g.d5.length
 .grind
 .rw[ae (by simp;omega),ae h,show LX=(fun n=>some (!LZ n))from rfl,YL,aS (p:=fun e=>!RJ e g.d4.length) (fun e _=>by
   grind [LY,pO])]
  grind
theorem L7(g:d6):DZ g=some (Bn g):=by
 unfold DZ Bn;by_cases h:40<g.d4.length\/80<g.d5.length
 .grind
 .rw[ae (by simp;omega),ae h,FM,FM,BE (fun i=>!LZ (AA g.d4 i)) 6]
  .rw[BE (fun i=>!RJ (AA g.d5 i) g.d4.length) 6]
   .cases ns (fun i=>!LZ (AA g.d4 i)) 0 g.d4.length
    .cases ns (fun i=>!RJ (AA g.d5 i) g.d4.length) 0 g.d5.length<;>rfl
    .rfl
   .intro i d f _;rw[AD d f,bs];unfold Nq RJ;simp only[show∀n,Ka n=some (LZ n)from fun _=>rfl,bs]
    grind
  grind [AD,Ka,AA,LZ]
def CQ(t:AC)(g:d6):Bool:=!(g.d4.any fun n=>decide (t.d4.length<=n))&&!(g.d5.any fun e=>decide (t.d5.length<=e.kg))
variable{t:AC}
theorem Gr(d:Cc g)(h:CQ t g=true):(∀n∈g.d4,0<=n/\n<t.d4.length)/\∀e∈g.d5,0<=e.kg/\e.kg<t.d5.length:=by
 unfold CQ at h;simp only[pc,Bool.not_eq_true',List.any_eq_false,x7]at h;refine⟨fun n f=>?_,fun e he=>?_⟩
 .have:=h.1 n f;have:=d.kind n f;omega
 .have:=h.2 e he;have:=d.fit e he;omega
theorem md(t:AC)(g:d6):Mu t g=some (CQ t g):=by grind[Mu,CQ,Mv,YL,Mw,BY,aT]
theorem WQ(h:Cc g):GL t g=some (CQ t g):=by
 unfold GL CQ;rw[FM,FM,BE (fun i=>decide (t.d4.length<=AA g.d4 i)) false]
 .rw[BE (fun i=>decide (t.d5.length<=(AA g.d5 i).kg)) false]
  .cases ns (fun i=>decide (t.d4.length<=AA g.d4 i)) 0 g.d4.length
   .cases ns (fun i=>decide (t.d5.length<=(AA g.d5 i).kg)) 0 g.d5.length<;>rfl
   .rfl
  .intro i d f _;have:=(h.fit _ (AI d f)).1.1;simp only[AD d f,bs]
   grind
 .intro i d f _;have:=(h.kind _ (AI d f)).1;simp only[AD d f,bs]
  grind
structure Em(t:AC):Prop where
 ej:t.d4.length<=12
 fd:t.d5.length<=20
 node:∀i:Int,0<=i->i<t.d4.length->H9 t i=0
 edge:∀i:Int,0<=i->i<t.d5.length->KV t i=0
theorem Cd(h:(A1 t).2=0):Em t:=by
 unfold A1 at h;split at h
 .cases h
 .split at h
  .cases h
  .rename_i y z;have f:∀i:Int,0<=i->i<t.d4.length->H9 t i=0:=by
    grind [C4,nz,PJ,NQ,CH]
   have he:∀i:Int,0<=i->i<t.d5.length->KV t i=0:=by
    split at h
    .rename_i r d;obtain⟨i,u,w,j,_⟩:=C4 d;rw[f i u w]at j;cases j
    .cases d:fst (fun i=>(nz (KV t i)).map fun e=>((AA t.d5 i).og,e)) 0 t.d5.length with
     |some r=>
      grind [C4,nz]
     |none=>
      grind [PJ,NQ,CH]
   exact ⟨by omega,by omega,f,he⟩
theorem Em.par(h:Em t):Eb t t.d4.length:=Ue h.node
variable{i:Int}
theorem Em.ends(h:Em t)(d:0<=i)(f:i<t.d5.length):(0<=(AA t.d5 i).kq/\(AA t.d5 i).kq<t.d4.length)/\(0<=(AA t.d5 i).To/\(AA t.d5 i).To<t.d4.length):=by
 have:=h.edge i d f
 grind [KV]
def Jl(t:AC)(a:Int):Bool:=decide (0<=a)&&decide (a<t.d4.length)
variable{a:Int}
theorem Lz:Jl t a=true↔0<=a/\a<t.d4.length:=by unfold Jl;simp
theorem WE(hf:Au t)(l:Fp):H5 t l=some (if(A1 t).2≠0 then(A1 t).2 else if(l.all (Jl t))=true then 0 else 6):=by
 unfold H5;rw[NV hf,bs,Ss (p:=fun a=>!Jl t a) (fun a _=>by unfold Lg Jl;rw[show decide (a<0)=!decide (0<=a)from by rw[<-decide_not,decide_eq_decide];omega,show decide ((t.d4.length:Int)<=a)=!decide (a<t.d4.length)from by rw[<-decide_not,decide_eq_decide];omega,Bool.not_and]),bs]
 grind
theorem bW(hf:Au t)(a b:Int):Ja t a b=some (if(A1 t).2≠0 then(A1 t).2 else if(Jl t a&&Jl t b)=true then 0 else 6):=by
 have d:=hf.ej;have e:∀a,decide (a<=(t.d4.length:Int)-1)=decide (a<(t.d4.length:Int)):=fun a=>by rw[decide_eq_decide];omega
 unfold Ja DI;rw[PL hf,bs]
 grind [Ap,A1,Jl]
theorem gE{α:Type}[Inhabited α]{l:List α}(d:0<=i)(f:i<l.length):BP l i (AA l i)=l:=by grind[BP,AA,List.getElem?_eq_getElem,List.set_getElem_self]
theorem CJ{α:Type}[Inhabited α]{l:List α}(d:0<=i)(f:i<l.length):l.take (i+1).toNat=l.take i.toNat++[AA l i]:=by
 unfold AA;rw[show(i+1).toNat=i.toNat+1 by omega,List.take_add_one,List.getD_eq_getElem?_getD,List.getElem?_eq_getElem (by omega)];rfl
theorem BI{α:Type}{l:List α}(h:l.length<=AW):Aj [] l=some l:=by grind[AT]
def Fx(t:AC)(a:Int):List mo×Int:=if(A1 t).2≠0 then([],(A1 t).2)else if Jl t a=true then(Ax t a,0)else([],6)
theorem Qn(hf:Au t)(a:Int):FK t a=some (Fx t a):=by
 unfold FK Fx;rw[WE hf,bs];by_cases h:(A1 t).2=0
 .have j:=Cd h;have e:[a].all (Jl t)=Jl t a:=by simp
  rw [e];simp only[h,ne_eq,not_true_eq_false,if_false];cases hi:Jl t a
  .rfl
  .rw[a6 rfl,a6 rfl];have u:=Lz.1 hi;have G:=GA hf (Int.le_refl _) j.par u.2;have E:=ML hf (Int.le_refl _) j.par u.2;rw[ae (by decide),bM hf (Int.le_refl _) j.par u.1 u.2,bs];obtain⟨s',F,rfl⟩:=Pd (f:=(fun(w:Int)(y:List mo)=>
 (idx y w).bind fun z=>
 (slices_Clone_string z.tg).bind fun A=>
 (idx y w).bind fun d=>
 some (BP y w (mo.mk d.og d.Low d.Aao A)))) (fun _ s=>s=Ax t a) (a:=0) (b:=(Ax t a).length) (s:=Ax t a) (by omega) rfl (fun i s B C D=>by
     subst D;have:=(E _ (AI B C)).names;refine⟨Ax t a,?_,rfl⟩;unfold slices_Clone_string;rw[AD B C,bs,BI (by unfold AW;omega),bs,bs];congr 1;exact gE B C)
   rw [F];rfl
 .simp only[h,ne_eq,not_false_eq_true,if_true,decide_false,Bool.not_false]
theorem Qo(hf:Au t)(a:Int):FJ t a=some (Fx t a):=by
 unfold FJ Fx;rw[bW hf,bs];by_cases h:(A1 t).2=0
 .have d:=Cd h;rw[Bool.and_self];simp only[h,ne_eq,not_true_eq_false,if_false];cases hi:Jl t a
  .rfl
  .rw[a6 rfl,a6 rfl];have f:=Lz.1 hi;have y:=GA hf (Int.le_refl _) d.par f.2;have w:=ML hf (Int.le_refl _) d.par f.2;rw[ae (by decide),bU hf (Int.le_refl _) d.par f.1 f.2,bs];rw[BM (fun i=>(Ax t a).take i.toNat) (by omega) (by simp)]
   .rw[bs,Int.toNat_natCast,List.take_length]
   .intro i j u;have:=(w _ (AI j u)).names;rw[AD j u,bs,BI (by unfold AW;omega),bs,AT (by rw[cE];simp;unfold AW;omega),CJ j u];rfl
 grind
end Go.Sf.Sc
namespace Go.Sf.Sc
open Go Go.Sf
def Pt(t:AC):Nat->Int->Fp
 |0,_=>[]|n+1,a=>if a<0 then[]else a::Pt t n (par t a)
theorem bv(t:AC):∀(n:Nat)(a:Int),(Pt t n a).length<=n
 |0,_=>by simp[Pt]|n+1,a=>by
  rw [Pt];split
  .simp
  .have:=bv t n (par t a);simp;omega
def If(t:AC)(a b:Int):Bool:=(Pt t (a+1).toNat a).any fun x=>decide (b=x)
variable{t:AC}
theorem bF(f:t.d4.length<=12)(w:Eb t t.d4.length):∀(n:Nat)(a:Int)(l:Fp),a<t.d4.length->a<n->l.length+n<=1000 ->
  ∃x,Lj (ρ:=Fp) (fun(d:Int×Fp)=>
 if (decide (0<=d.1))=true then
 (Aj d.2 [d.1]).bind fun h=>
 (idx t.d4 d.1).bind fun j=>
 some (.next (j.r0,h))
 else
 some (.brk (d.1,d.2))) (a,l) (.inl (x,l++Pt t n a))
 |0,a,l,u,y,_=>by
  refine ⟨a,.brk ?_⟩
  grind [Pt]
 |n+1,a,l,u,y,C=>by
  by_cases z:a<0
  .refine⟨a,.brk ?_⟩
   grind [Pt]
  .have A:=w a (by omega) u;obtain⟨x,B⟩:=bF f w n (par t a) (l++[a]) (by omega) (by omega) (by simp;omega);refine⟨x,.next (s':=(par t a,l++[a])) ?_ ?_⟩
   .rw[a6 (by simp;omega),AT (by simp;unfold AW;omega),bs,AD (by omega) u];rfl
   grind [Pt,par]
variable{a b:Int}
theorem io(h:Em t)(u:0<=a)(d:a<t.d4.length):Lr t a b=some (If t a b):=by
 have f:=h.ej;obtain⟨x,j⟩:=bF f h.par (a+1).toNat a [] d (by omega) (by simp;omega);have w:=bv t (a+1).toNat a;unfold Lr PB;rw[j.eq,Bc]
 grind [slices_Reverse_int,AW,J0,If]
theorem ZK(d:Eb t t.d4.length)(j:0<=b):∀(n m:Nat)(a:Int),-1<=a->a<t.d4.length->a+1<n->a<m->Et n t a b=some ((Pt t m a).any fun x=>decide (b=x))
 |0,_,_,_,_,_,_=>by omega|n+1,m,a,w,h,y,z=>by
  rw [Et];by_cases f:a<0
  .rw[ae (by simp;omega),ae (by simp;omega)];cases m<;>simp[Pt,f]
  .cases m with
   |zero=>omega|succ m=>
    have u:=d a (by omega) h;rw[Pt,ae f,List.any_cons,a6 (show decide (0<=a)=true by simp;omega),AD (by omega) h];simp only[bs];rw[show(AA t.d4 a).r0=par t a from rfl,ZK d j n m (par t a) (by omega) (by omega) (by omega) (by omega)]
    grind
theorem T6(h:Em t)(j:0<=a)(d:a<t.d4.length)(f:0<=b):Ga t a b=some (If t a b):=
 Dw (a+2).toNat fun n u=>ZK h.par f n (a+1).toNat a (by omega) d (by omega) (by omega)
def P6(t:AC)(e f g:Int):Bool:=
 decide ((A1 t).2=0)&&(Jl t f&&Jl t g)&&(decide (0<=e)&&decide (e<t.d5.length))&&(If t f (AA t.d5 e).kq&&If t g (AA t.d5 e).To)
theorem Y1(hf:Au t)(e f g:Int):JB t e f g=some (P6 t e f g):=by
 unfold JB P6;rw[WE hf,bs,show[f,g].all (Jl t)=(Jl t f&&Jl t g)by simp];by_cases h:(A1 t).2=0
 .simp only[h,ne_eq,not_true_eq_false,if_false];have d:=Cd h;cases hi:(Jl t f&&Jl t g)
  .rfl
  .rw[pc,Lz,Lz]at hi;by_cases he:0<=e/\e<t.d5.length
   .rw[ae (by simp;omega),AD he.1 he.2];simp only[bs,io d hi.1.1 hi.1.2,io d hi.2.1 hi.2.2,he.1,he.2,decide_true,Bool.true_and]
    grind
   grind
 .simp[h]
theorem ZH(hf:Au t)(e f g:Int):I0 t e f g=some (P6 t e f g):=by
 have y:=hf.fd;unfold I0 P6 DI;rw[bW hf,bs];by_cases h:(A1 t).2=0
 .simp only[h,ne_eq,not_true_eq_false,if_false];have d:=Cd h;cases hi:(Jl t f&&Jl t g)
  .rfl
  .rw[pc,Lz,Lz]at hi;rw[Ap (by omega) (by omega)];simp only[bs];by_cases he:0<=e/\e<t.d5.length
   .have j:=d.ends he.1 he.2;have u:e<=(t.d5.length:Int)-1:=by omega
    rw [ae (by simp),bs,ae (by simp[he.1,u]),AD he.1 he.2];simp only[bs,T6 d hi.1.1 hi.1.2 j.1.1,T6 d hi.2.1 hi.2.2 j.2.1,he.1,he.2,decide_true,Bool.true_and];cases If t f (AA t.d5 e).kq<;>rfl
   .have:(decide (0<=e)&&decide (e<t.d5.length))=false:=by rw[Bool.eq_false_iff];simpa using he
    have w:(decide (0<=e)&&decide (e<=(t.d5.length:Int)-1))=false:=by rw[Bool.eq_false_iff];simp;omega
    rw [this,w];simp
 .simp[h]
def M4(n:Int)(x:j4):Bool:=(((decide ((-1)<=x.Var))&&(decide (x.Var<n)))&&(decide ((-1000000)<=x.Add)))&&(decide (x.Add<=1000000))
def N3(n:Int)(x:Test):Int:=if¬x.l3=1/\¬x.l3=2 then 1 else if(M4 n x.f0&&M4 n x.ek)=true then 0 else 6
def JS(n:Int)(l:List Test):Int:=if n<0\/12<n then 6 else if 40<l.length then 3 else(fst (fun i=>nz (N3 n (AA l i))) 0 l.length).getD 0
theorem pV(n:Int)(x:Test):IG n x=some (N3 n x):=by
 unfold IG N3;simp only[show∀n x,HO n x=some (M4 n x)from fun _ _=>rfl,bs];generalize M4 n x.f0=b1;generalize M4 n x.ek=b2;cases b1<;>cases b2
 all_goals
  simp only[bs,x7,Bool.or_eq_true,pc,Bool.not_eq_true',decide_eq_false_iff_not,Bool.not_eq_false',Bool.or_eq_false_iff,Bool.and_eq_false_iff,ne_eq]
  repeat' (first|rfl|(exfalso;omega;done)|split)
  all_goals (first|rfl|(exfalso;omega)|omega|simp_all|(simp_all;omega))
theorem jH(n:Int)(x:j4):IL n x=some (if M4 n x=true then 0 else 6):=by
 unfold IL M4;simp only[bs,x7,Bool.or_eq_true,pc,Bool.not_eq_true',decide_eq_false_iff_not,Bool.not_eq_false',Bool.or_eq_false_iff,Bool.and_eq_false_iff,ne_eq]
 repeat' (first|rfl|(exfalso;omega;done)|split)
 all_goals (first|rfl|(exfalso;omega)|omega|simp_all|(simp_all;omega))
theorem p5(n:Int)(x:Test):OK n x=some (N3 n x):=by
 unfold OK N3;simp only[jH,bs];generalize M4 n x.f0=b1;generalize M4 n x.ek=b2;cases b1<;>cases b2
 all_goals
  simp only[bs,x7,Bool.or_eq_true,pc,Bool.not_eq_true',decide_eq_false_iff_not,Bool.not_eq_false',Bool.or_eq_false_iff,Bool.and_eq_false_iff,ne_eq]
  repeat' (first|rfl|(exfalso;omega;done)|split)
  all_goals (first|rfl|(exfalso;omega)|omega|simp_all|(simp_all;omega))
theorem mc(n:Int)(l:List Test):GX n l=some (JS n l):=by
 unfold GX JS;rw[BV (fun i=>nz (N3 n (AA l i))),CP]
 .simp only[bs,x7,Bool.or_eq_true,pc,Bool.not_eq_true',decide_eq_false_iff_not,Bool.not_eq_false',Bool.or_eq_false_iff,Bool.and_eq_false_iff,ne_eq]
  repeat' (first|rfl|(exfalso;omega;done)|split)
  all_goals (first|rfl|(exfalso;omega)|omega|simp_all|(simp_all;omega))
 .intro i d f _;rw[AD d f,bs,pV,bs,Mb]
theorem m8(n:Int)(l:List Test):K7 n l=some (JS n l):=by
 unfold K7 JS;rw[BV (fun i=>nz (N3 n (AA l i))),CP]
 .simp only[bs,x7,Bool.or_eq_true,pc,Bool.not_eq_true',decide_eq_false_iff_not,Bool.not_eq_false',Bool.or_eq_false_iff,Bool.and_eq_false_iff,ne_eq]
  repeat' (first|rfl|(exfalso;omega;done)|split)
  all_goals (first|rfl|(exfalso;omega)|omega|simp_all|(simp_all;omega))
 .intro i d f _;rw[AD d f,bs,p5,bs,Mb]
def Q6(t:AC)(p:ec)(node ix:Int):mo×Bool:=
 if node<0\/p.d6.d4.length<=node then(default,false)else
 let l:=(Fx t (AA p.d6.d4 node)).1
 if ix<0\/l.length<=ix then(default,false)else(AA l ix,true)
theorem U3(hf:Au t)(a:Int):(Fx t a).1.length<=600/\((Fx t a).2≠0->(Fx t a).1=[]):=by
 unfold Fx;split
 .simp
 .rename_i h;have d:=Cd (t:=t) (by omega);split
  .rename_i hi;exact⟨GA hf (Int.le_refl _) d.par (Lz.1 hi).2,by simp⟩
  .simp
variable{p:ec}
theorem mN(hf:Au t)(d:Cc p.d6)(s:CI):IF t p s=some (Q6 t p s.sx s.mo):=by
 have j:=d.ej;unfold IF Q6 CT;dsimp only;rw[Ap (by omega) (by omega),bs];by_cases h:s.sx<0\/p.d6.d4.length<=s.sx
 .rw[a6 (by simp;omega),a6 h];rfl
 .rw[ae (by simp;omega),ae h,AD (by omega) (by omega),bs,Qn hf,bs];have u:=(U3 hf (AA p.d6.d4 s.sx)).1;rw[Ap (by omega) (by omega),bs];by_cases f:s.mo<0\/(Fx t (AA p.d6.d4 s.sx)).1.length<=s.mo
  .rw[a6 (by simp;omega),a6 f];rfl
  grind [AD]
theorem mg(hf:Au t)(node d:Int):Mj t p node d=some (Q6 t p node d):=by
 unfold Mj Q6;dsimp only;by_cases h:node<0\/p.d6.d4.length<=node
 .rw[a6 (by simp;omega),a6 h];rfl
 .rw[ae (by simp;omega),ae h,AD (by omega) (by omega),bs,Qo hf,bs];have j:=(U3 hf (AA p.d6.d4 node)).2;by_cases f:d<0\/(Fx t (AA p.d6.d4 node)).1.length<=d
  .rw[a6 (by simp;omega),a6 f];rfl
  grind [Fx,AA,AD]
end Go.Sf.Sc
namespace Go.Sf
variable{σ ρ:Type}
def gJ(s:σ)(o:Option ρ):B0 σ ρ:=match o with
 |none=>.next s|some r=>.ret r
def lP(s:σ)(o:Option ρ):σ ⊕ ρ:=match o with
 |none=>.inl s|some r=>.inr r
theorem Yf{f:Int->σ->Option (B0 σ ρ)}(g:Int->σ)(c:Int->Option ρ):∀(n:Nat)(a:Int),
  (∀i,a<=i->i<a+n->(∀j,a<=j->j<i->c j=none)->f i (g i)=some (gJ (g (i+1)) (c i)))->FE f n a (g a)=some (lP (g (a+n)) (EQ c n a))
 |0,a,_=>by simp[FE,EQ,lP]|n+1,a,h=>by
  have w:=h a (Int.le_refl _) (by omega) (fun j d u=>by omega);rw[FG,w,EQ];cases B:c a with
  |some r=>rfl|none=>
   simp only[gJ];rw[show a+((n+1:Nat):Int)=a+1+n by omega];refine Yf g c n (a+1) (fun i d u y=>h i (by omega) (by omega) (fun j z A=>?_))
   grind
variable{a b:Int}
theorem KW{f:Int->σ->Option (B0 σ ρ)}(g:Int->σ)(c:Int->Option ρ){s:σ}(d:a<=b)(u:s=g a)(h:∀i,a<=i->i<b->(∀j,a<=j->j<i->c j=none)->f i (g i)=some (gJ (g (i+1)) (c i))):Ag f a b s=some (lP (g b) (fst c a b)):=by
 subst u;unfold Ag fst;have:=Yf g c (b-a).toNat a (fun i w z y=>h i w (by omega) y)
 grind
variable{α:Type}
variable{e:Int}
theorem C6{X:QQ}{Y:Int}(h:e=0->X=some Y):(if(!decide (e=0))=true then some e else X)=some (if e≠0 then e else Y):=by grind
variable{v:α}{X:Option α}{Y:α}
theorem Dt(h:e=0->X=some Y):(if(!decide (e=0))=true then some v else X)=some (if e≠0 then v else Y):=by grind
variable{P:Prop}
theorem N9[Decidable P]{b:Bool}(d:b=true↔P)(h:¬P->X=some Y):(if b=true then some v else X)=some (if P then v else Y):=by grind
theorem Su{b:Bool}(h:b=true->X=some Y):(if(!b)=true then some v else X)=some (if b=false then v else Y):=by grind
theorem WZ{b:Bool}(h:b=false->X=some Y):(if b=true then some v else X)=some (if b=true then v else Y):=by grind
end Go.Sf
namespace Go.Sf.Sc
open Go Go.Sf
def Q9(t:AC)(p:ec)(s:CI):Bool:=!(Q6 t p s.sx s.mo).2||decide (s.j4.Var< -1)||decide (p.gn<=s.j4.Var)||(decide (s.j4.Add< -1000000)||decide (1000000<s.j4.Add))
def J9(p:ec)(v:Int):Bool:=p.ff.any fun s=>decide (s.j4.Var=v)
def Gy(t:AC)(p:ec):Int:=
 if (A1 t).2≠0 then(A1 t).2 else if Bn p.d6≠0 then Bn p.d6 else if CQ t p.d6=false then 13 else
 if p.gn<0\/12<p.gn then 6 else if 10<p.ff.length\/10<p.l4.length then 3 else
 if (p.ff.any (Q9 t p))=true then 6 else if JS p.gn p.l4≠0 then JS p.gn p.l4 else
 if ns (fun v=>!J9 p v) 0 p.gn=true then 9 else 0
def JC(p:ec)(i:Int):a5:=(List.range p.gn.toNat).map fun(v:Nat)=>(p.ff.take i.toNat).any fun s=>decide (s.j4.Var=(v:Int))
variable{p:ec}
theorem dk:JC p 0=List.replicate p.gn.toNat false:=by
 unfold JC;refine List.ext_getElem (by simp) (fun n d f=>by simp)
theorem gh(p:ec)(i:Int):(JC p i).length=p.gn.toNat:=by simp[JC]
variable{i:Int}
theorem gi(d:0<=i)(f:i<p.ff.length)(hv:0<=(AA p.ff i).j4.Var):BP (JC p i) (AA p.ff i).j4.Var true=JC p (i+1):=by
 unfold BP;refine List.ext_getElem (by simp[JC]) (fun n h j=>?_);simp only[JC,List.getElem_set,List.getElem_map,List.getElem_range,CJ d f,List.any_append,List.any_cons,List.any_nil,Bool.or_false]
 grind
theorem dj(d:0<=i)(f:i<p.ff.length)(hv:(AA p.ff i).j4.Var<0):JC p i=JC p (i+1):=by
 refine List.ext_getElem (by simp[JC]) (fun n h j=>?_);simp only[JC,List.getElem_map,List.getElem_range,CJ d f,List.any_append,List.any_cons,List.any_nil,Bool.or_false]
 grind
theorem gf(p:ec):((JC p p.ff.length).any fun x=>false==x)=ns (fun v=>!J9 p v) 0 p.gn:=by
 rw [Bool.eq_iff_iff,List.any_eq_true,Dj];simp only[JC,Int.toNat_natCast,List.take_length,List.mem_map,List.mem_range];constructor
 .rintro⟨x,⟨v,hv,rfl⟩,d⟩;refine⟨v,by omega,by omega,?_⟩
  grind [J9]
 .rintro⟨v,f,h,d⟩;refine⟨_,⟨v.toNat,by omega,rfl⟩,?_⟩
  grind [Int.toNat_of_nonneg,J9]
theorem ax{α ρ:Type}[Inhabited α]{l:List α}{q:α->Bool}{v:ρ}:fst (fun i=>if q (AA l i)=true then some v else none) 0 l.length=if l.any q=true then some v else none:=by
 rw [Lx,FM]
variable{t:AC}
theorem Vd(hf:Au t)(p:ec):Dl t p=some (Gy t p):=by
 unfold Dl Gy;rw[NV hf,bs,L6,bs];refine C6 fun I=>C6 fun G=>?_;have A:=C3 G;have e:((BO p.d6.d4 (fun d=>Fv d t)).bind fun u=>
   (if u=true then some true else((By p.d6.d5 (fun d=>Fw d t)).bind fun w=>some (w))))=some (!CQ t p.d6):=by
  unfold CQ;rw[show(fun d=>Fv d t)=(fun(n:Int)=>some (decide (t.d4.length<=n)))from rfl,YL,show(fun d=>Fw d t)=(fun(e:BY)=>some (decide (t.d5.length<=e.kg)))from rfl,aT];simp only[bs];cases p.d6.d4.any fun n=>decide (t.d4.length<=n)<;>simp
 rw [<-Option.bind_assoc,e,bs];refine Su fun H=>?_;unfold CT;simp only[bs];refine N9 (by simp;try omega) fun hv=>N9 (by simp;try omega) fun J=>?_;unfold JL;rw[a6 (by omega),bs,<-dk,Ap (show -9223372036854775808<=p.gn-1 by omega) (by omega),KW (JC p) (fun i=>if Q9 t p (AA p.ff i)=true then some 6 else none) (by omega) rfl,ax]
 .cases f:p.ff.any (Q9 t p)
  .simp only[Bool.false_eq_true,if_false,lP,Bc,mc,bs,lv,gf];by_cases h:JS p.gn p.l4=0
   .simp only[h];cases ns (fun v=>!J9 p v) 0 p.gn<;>rfl
   .simp[h]
  .rfl
 .intro i y z _;rw[AD y z,bs,mN hf A,bs];unfold Q9;by_cases f:(Q6 t p (AA p.ff i).sx (AA p.ff i).mo).2=true
  .by_cases F:(AA p.ff i).j4.Var< -1\/p.gn<=(AA p.ff i).j4.Var
   .have B:(decide (-1<=(AA p.ff i).j4.Var)&&decide ((AA p.ff i).j4.Var<=p.gn-1))=false:=by rw[Bool.eq_false_iff];simp;omega
    have C:(decide ((AA p.ff i).j4.Var< -1)||decide (p.gn<=(AA p.ff i).j4.Var))=true:=by simp;omega
    rw [f,B,Bool.or_assoc (!true),C];rfl
   .have B:(decide (-1<=(AA p.ff i).j4.Var)&&decide ((AA p.ff i).j4.Var<=p.gn-1))=true:=by simp;omega
    have C:(decide ((AA p.ff i).j4.Var< -1)||decide (p.gn<=(AA p.ff i).j4.Var))=false:=by rw[Bool.eq_false_iff];simp;omega
    rw [f,B,Bool.or_assoc (!true),C];by_cases K:(AA p.ff i).j4.Add< -1000000\/1000000<(AA p.ff i).j4.Add
    .have D:(decide (-1000000<=(AA p.ff i).j4.Add)&&decide ((AA p.ff i).j4.Add<=1000000))=false:=by rw[Bool.eq_false_iff];simp;omega
     have E:(decide ((AA p.ff i).j4.Add< -1000000)||decide (1000000<(AA p.ff i).j4.Add))=true:=by simp;omega
     rw [D,E];rfl
    .have D:(decide (-1000000<=(AA p.ff i).j4.Add)&&decide ((AA p.ff i).j4.Add<=1000000))=true:=by simp;omega
     have E:(decide ((AA p.ff i).j4.Add< -1000000)||decide (1000000<(AA p.ff i).j4.Add))=false:=by rw[Bool.eq_false_iff];simp;omega
     rw [D,E];by_cases j:0<=(AA p.ff i).j4.Var
     .simp only[Bool.not_true,Bool.false_eq_true,if_false,bs,j,decide_true,if_true,Bool.or_false];rw[AD j (by rw[gh];omega),bs,gi y z j];rfl
     .simp only[Bool.not_true,Bool.false_eq_true,if_false,bs,j,decide_false,Bool.or_false];rw[dj y z (by omega)];rfl
  .rw[Bool.not_eq_true]at f;rw[f];rfl
theorem kw(p:ec)(v:Int):KF p v=some (J9 p v):=by
 unfold KF J9;rw[BE (fun i=>decide ((AA p.ff i).j4.Var=v)) true,FM]
 .cases ns (fun i=>decide ((AA p.ff i).j4.Var=v)) 0 p.ff.length<;>rfl
 .intro i d f _;rw[AD d f,bs,FO]
theorem X0(hf:Au t)(p:ec):GM t p=some (Gy t p):=by
 unfold GM Gy;rw[PL hf,bs,L7,bs];refine C6 fun y=>C6 fun u=>?_;have f:=C3 u;rw[WQ f,bs];refine Su fun w=>N9 (by simp;try omega) fun hv=>N9 (by simp;try omega) fun z=>?_;rw[BE (fun i=>Q9 t p (AA p.ff i)) 6,<-FM]
 .cases A:p.ff.any (Q9 t p)
  .simp only[Bool.false_eq_true,if_false,Bc,m8,bs];by_cases d:JS p.gn p.l4=0
   .simp only[d];rw[BE (fun v=>!J9 p v) 9]
    .cases ns (fun v=>!J9 p v) 0 p.gn<;>rfl
    .intro i h j _;rw[kw,bs,FO]
   .simp[d]
  .rfl
 .intro i h j _;rw[AD h j,bs,mg hf,bs];unfold Q9 La
  grind
def N1(t:AC)(p:ec)(i:Int):Int:=
 let s:=AA p.ff i
 if s.sx<0\/p.d6.d4.length<=s.sx then 6 else
 let l:=(Fx t (AA p.d6.d4 s.sx)).1
 if ((((((decide (s.mo<0))||(decide ((l.length:Int)<=s.mo)))||(decide (s.j4.Var<(-1))))||(decide (p.gn<=s.j4.Var)))||(decide (s.j4.Add<(-1000000))))||(decide (1000000<s.j4.Add)))=true then 6 else
 if ns (fun j=>(decide ((AA p.ff j).sx=s.sx))&&(decide ((AA p.ff j).mo=s.mo))) 0 i=true then 5 else 0
theorem pU(hf:Au t)(r:em)(d:0<=i)(f:i<r.ek.ff.length):OR t r i=some (N1 t r.ek i):=by
 unfold OR N1;dsimp only;rw[AD d f,bs];refine N9 (by simp) fun h=>?_;rw[AD (by omega) (by omega),bs,Qn hf,bs,Lq d (by omega),bs,
  show (fun j=>Nz j (AA r.ek.ff i))=(fun y=>some ((decide (y.sx=(AA r.ek.ff i).sx))&&(decide (y.mo=(AA r.ek.ff i).mo))))from rfl,aU,bs,PW d (by omega)]
 grind
theorem pz(hf:Au t)(p:ec)(d:0<=i)(f:i<p.ff.length):Mn t p i=some (N1 t p i):=by
 unfold Mn N1;dsimp only;rw[AD d f,bs];refine N9 (by simp) fun h=>?_;rw[AD (by omega) (by omega),bs,Qo hf,bs,
  BE (fun j=>(decide ((AA p.ff j).sx=(AA p.ff i).sx))&&(decide ((AA p.ff j).mo=(AA p.ff i).mo))) 5]
 .refine WZ fun _=>?_;cases ns (fun j=>(decide ((AA p.ff j).sx=(AA p.ff i).sx))&&(decide ((AA p.ff j).mo=(AA p.ff i).mo))) 0 i<;>rfl
 grind [AD,AA,mo]
def JP(t:AC)(r:em):Int:=
 if Bn r.ek.d6≠0 then Bn r.ek.d6 else if CQ t r.ek.d6=false then 13 else
 if r.ek.gn≠r.f0.gn\/0<r.ek.l4.length then 1 else if 10<r.ek.ff.length then 3 else
 (fst (fun i=>nz (N1 t r.ek i)) 0 r.ek.ff.length).getD 0
theorem mU(hf:Au t)(r:em):Mt t r=some (JP t r):=by
 unfold Mt JP;rw[L6,bs,md,bs,BV (fun i=>nz (N1 t r.ek i)),CP]
 .grind
 grind [pU,Mb]
theorem mu(hf:Au t)(r:em):LI t r=some (JP t r):=by
 unfold LI JP;rw[L7,bs];refine C6 fun d=>?_;rw[WQ (C3 d),bs,BV (fun i=>nz (N1 t r.ek i)),CP]
 .grind
 grind [pz,Mb]
end Go.Sf.Sc
namespace Go.Sf
variable{a b:Int}
theorem cX{ρ:Type}{c d:Int->Option ρ}(h:∀i,c i=d i):fst c a b=fst d a b:=by rw[funext h]
def Br(l:Fp)(v:Int):Int:=(fst (fun i=>if decide (v=AA l i)=true then some i else none) 0 l.length).getD (-1)
variable{l:Fp}
theorem G0{v:Int}(h:v∈l):0<=Br l v/\Br l v<l.length/\AA l (Br l v)=v/\∀j,0<=j->j<Br l v->AA l j≠v:=by
 unfold Br;cases hf:fst (fun i=>if decide (v=AA l i)=true then some i else none) 0 l.length with
 |none=>
  grind [BZ,CH]
 |some k=>
  grind [C4,AA]
variable{R:Int->Int->Prop}
theorem JX(h:l.Pairwise R){i j:Int}(d:0<=i)(f:i<j)(u:j<l.length):R (AA l i) (AA l j):=by grind[List.pairwise_iff_getElem,AA,List.getElem?_eq_getElem]
theorem QX(h:∀i j:Int,0<=i->i<j->j<l.length->R (AA l i) (AA l j)):l.Pairwise R:=by
 refine List.pairwise_iff_getElem.2 (fun i j d f u=>?_);have:=h i j (by omega) (by omega) (by omega);unfold AA at this
 grind
theorem UX(y:l.Pairwise (·<·)){v:Int}(h:v∈l):(l.countP (fun x=>decide (x<v)):Int)=Br l v:=by
 obtain ⟨z,A,u,_⟩:=G0 h;generalize G:Br l v=k at z A u;have e:l=l.take k.toNat++l.drop k.toNat:=(List.take_append_drop _ _).symm;have B:(l.take k.toNat).countP (fun x=>decide (x<v))=k.toNat:=by
  rw [List.countP_eq_length.2 (fun x d=>?_),cE]
  .omega
  .obtain⟨i,E,F,rfl⟩:=BZ d;rw[cE]at F;rw[PE (by omega),x7,<-u];exact JX y E (by omega) A
 have C:(l.drop k.toNat).countP (fun x=>decide (x<v))=0:=by
  rw [List.countP_eq_zero];intro x d;obtain⟨n,w⟩:=List.getElem?_of_mem d;rw[List.getElem?_drop]at w;have D:=(List.getElem?_eq_some_iff.1 w).1;have f:x=AA l (k+n):=by
   unfold AA;rw[List.getD_eq_getElem?_getD,show(k+(n:Int)).toNat=k.toNat+n by omega,w];rfl
  rw [x7,f,<-u];by_cases j:n=0
  .subst j;simp
  .have:=JX y z (show k<k+(n:Int)by omega) (by omega);omega
 rw [e,List.countP_append,B,C];omega
end Go.Sf
namespace Go.Sf.Sc
open Go Go.Sf
theorem PG(l:Fp)(v:Int):slices_Index_int l v=some (Br l v):=ed l v
theorem bA(l:Fp)(n:Int):(AM (Ag (ρ:=Int) (fun(h:Int)(_:Unit)=>
 (idx l h).bind fun d=>
 if (decide (d=n))=true then
 some (.ret h)
 else
 some (.next ())) 0 (l.length:Int) ()) (fun _=>
 some (-1)) (fun j=>some j))=some (Br l n):=by
 have:=Ub (l:=l) (f:=fun x=>some (decide (x=n))) (p:=fun x=>decide (x=n)) (fun _ _=>rfl);simp only[bs]at this;rw[this];unfold Br;congr 2;exact cX fun i=>by simp only[eq_comm]
theorem pw(l:Fp)(v:Int):Hx l v=some (Br l v):=bA l v
theorem Mf(l:Fp)(v:Int):Cl l v=some (Br l v):=bA l v
def hasB(l:Fp)(v:Int):Bool:=l.any fun x=>decide (v=x)
variable{l:Fp}
theorem Bk{v:Int}:hasB l v=true↔v∈l:=by
 unfold hasB
 grind
theorem NP(l:Fp)(n:Int):(AM (Ag (ρ:=Bool) (fun(f:Int)(_:Unit)=>
 (idx l f).bind fun d=>
 if (decide (d=n))=true then
 some (.ret true)
 else
 some (.next ())) 0 (l.length:Int) ()) (fun _=>
 some false) (fun h=>some h))=some (hasB l n):=by
 unfold hasB;rw[BE (fun i=>decide (n=AA l i)) true,FM]
 .cases ns (fun i=>decide (n=AA l i)) 0 l.length<;>rfl
 .intro i j u _;rw[AD j u,bs,FO];simp only[eq_comm]
theorem mq(l:Fp)(v:Int):QN l v=some (hasB l v):=NP l v
theorem mn(l:Fp)(v:Int):OL l v=some (hasB l v):=NP l v
def PX(l:Fp)(n:Int):Int:=(fst (fun i=>if AA l i<0\/n<=AA l i then some 6 else if 0<i/\AA l i<=AA l (i-1)then some 12 else none) 0 l.length).getD 0
theorem ki(w:l.length<=1000)(n:Int):G8 l n=some (PX l n):=by
 unfold G8 PX;rw[BV (fun i=>if AA l i<0\/n<=AA l i then some 6 else if 0<i/\AA l i<=AA l (i-1)then some 12 else none),CP];intro i j u _;rw[AD j u,bs];by_cases h:AA l i<0\/n<=AA l i
 .rw[a6 (by simpa using h),a6 h];rfl
 .rw[ae (by simpa using h),ae h];by_cases d:0<i
  .rw[a6 (by simpa using d),Ap (by omega) (by omega),AD (by omega) (by omega),bs,bs];by_cases f:AA l i<=AA l (i-1)
   .rw[a6 (by simpa using f),a6 ⟨d,f⟩];rfl
   .rw[ae (by simpa using f),ae (fun h=>f h.2)];rfl
  .rw[ae (by simpa using d),bs,ae (by decide),ae (fun h=>d h.1)];rfl
theorem ku(y:l.length<=1000)(n:Int):Ff l n=some (PX l n):=by
 unfold Ff PX;rw[BV (fun i=>if AA l i<0\/n<=AA l i then some 6 else if 0<i/\AA l i<=AA l (i-1)then some 12 else none),CP];intro i j u _;rw[AD j u];simp only[bs];by_cases h:AA l i<0\/n<=AA l i
 .have:(if decide (AA l i<0)=true then some true else some (decide (n<=AA l i)))=some true:=by
   rcases h with h|h
   .simp[h]
   .by_cases w:AA l i<0<;>simp[h,w]
  rw [this,bs,a6 rfl,a6 h];rfl
 .have:(if decide (AA l i<0)=true then some true else some (decide (n<=AA l i)))=some false:=by
   rw [ae (by simp;omega),decide_eq_false (by omega)]
  rw [this,bs,ae (by decide),ae h];by_cases d:0<i
  .rw[a6 (by simpa using d),Ap (by omega) (by omega),AD (by omega) (by omega),bs,bs];by_cases f:AA l i<=AA l (i-1)
   .rw[a6 (by simpa using f),a6 ⟨d,f⟩];rfl
   .rw[ae (by simpa using f),ae (fun h=>f h.2)];rfl
  .rw[ae (by simpa using d),bs,ae (by decide),ae (fun h=>d h.1)];rfl
variable{a b:Int}
theorem P9{c:Int->QQ}(d:∀i,c i≠some 0)(h:(fst c a b).getD 0=0):∀i,a<=i->i<b->c i=none:=by
 have:fst c a b=none:=by
  cases hf:fst c a b with
  |none=>rfl|some r=>
   grind [Option.getD,C4]
 exact CH.1 this
variable{n:Int}
theorem Sg(h:PX l n=0):(∀x∈l,0<=x/\x<n)/\l.Pairwise (·<·):=by
 have A:=P9 (c:=fun i=>if AA l i<0\/n<=AA l i then some 6 else if 0<i/\AA l i<=AA l (i-1)then some 12 else none) (fun i=>by
  split
  .simp
  .split<;>simp) h
 have f:∀i:Int,0<=i->i<l.length->(0<=AA l i/\AA l i<n)/\(0<i->AA l (i-1)<AA l i):=by
  intro i u z;have:=A i u z;split at this
  .cases this
  .split at this
   .cases this
   .omega
 refine ⟨fun x w=>?_,QX (fun i j u d y=>?_)⟩
 .obtain⟨i,B,C,rfl⟩:=BZ w;exact(f i B C).1
 .obtain⟨k,D⟩:∃k:Nat,j=i+1+k:=⟨(j-i-1).toNat,by omega⟩;subst D;clear d
  induction k with
  |zero=>
   have:=(f (i+1) (by omega) (by omega)).2 (by omega);rw[show i+1-1=i by omega]at this;simpa using this
  |succ k E=>
   have a:=E (by omega);have b:=(f (i+1+((k+1:Nat):Int)) (by omega) y).2 (by omega);rw[show i+1+((k+1:Nat):Int)-1=i+1+k by omega]at b;omega
theorem Rd(f:l.length<=1000)(d:l.Pairwise (·<·))(v:Int):slices_BinarySearch_int l v=some (((l.countP (fun x=>decide (x<v)):Nat):Int),hasB l v):=by
 unfold slices_BinarySearch_int;rw[a6 ⟨by unfold AW;omega,d.imp (fun h=>by omega)⟩];congr 2;rw[Bool.eq_iff_iff,Bk,List.contains_iff_mem]
def Ni(g:d6)(p:Ak):Int:=
 if PX p.d4 g.d4.length≠0 then PX p.d4 g.d4.length else if PX p.d5 g.d5.length≠0 then PX p.d5 g.d5.length else
 (fst (fun i=>if(hasB p.d4 (AA g.d5 (AA p.d5 i)).kq&&hasB p.d4 (AA g.d5 (AA p.d5 i)).To)=true then none else some 14) 0 p.d5.length).getD 0
structure YA(g:d6)(p:Ak):Prop where
 ej:(∀x∈p.d4,0<=x/\x<g.d4.length)/\p.d4.Pairwise (·<·)
 fd:(∀x∈p.d5,0<=x/\x<g.d5.length)/\p.d5.Pairwise (·<·)
 ends:∀x∈p.d5,(AA g.d5 x).kq∈p.d4/\(AA g.d5 x).To∈p.d4
variable{g:d6}
theorem Vg{p:Ak}(h:Ni g p=0):YA g p:=by
 unfold Ni at h;split at h
 .omega
 .split at h
  .omega
  .rename_i w y;refine⟨Sg (by omega),Sg (by omega),fun x f=>?_⟩;obtain⟨i,j,u,rfl⟩:=BZ f;have:=P9 (c:=fun i=>if(hasB p.d4 (AA g.d5 (AA p.d5 i)).kq&&hasB p.d4 (AA g.d5 (AA p.d5 i)).To)=true then none else some 14) (fun i=>by
    split<;>simp) h i j u
   split at this
   .rename_i d;rw[pc,Bk,Bk]at d;exact d
   .cases this
def D7(g:d6)(p:Ak):Int:=if Bn g≠0 then Bn g else Ni g p
structure QV(p:Ak):Prop where
 ej:p.d4.length<=1000
 fd:p.d5.length<=1000
theorem bO{p:Ak}(d:QV p):GU g p=some (D7 g p):=by
 unfold GU D7;rw[L6,bs];refine C6 fun u=>?_;have z:=C3 u;unfold Lf Ni;rw[ki d.ej,bs,ki d.fd,bs,Option.bind_fun_some];refine C6 fun w=>C6 fun y=>?_;obtain⟨a1,A⟩:=Sg w;obtain⟨B,C⟩:=Sg y;rw[BV (fun i=>if(hasB p.d4 (AA g.d5 (AA p.d5 i)).kq&&hasB p.d4 (AA g.d5 (AA p.d5 i)).To)=true then none else some 14),CP];intro i f h _;have j:=B _ (AI f h);unfold KM;rw[AD f h,bs,AD j.1 j.2];simp only[bs,Rd d.ej A];cases hasB p.d4 (AA g.d5 (AA p.d5 i)).kq<;>cases hasB p.d4 (AA g.d5 (AA p.d5 i)).To<;>rfl
theorem WL{p:Ak}(d:QV p):Hw g p=some (D7 g p):=by
 unfold Hw D7;rw[L7,bs];refine C6 fun u=>?_;have y:=C3 u;unfold Nr Ni;rw[ku d.ej,bs,ku d.fd,bs,Option.bind_fun_some];refine C6 fun A=>C6 fun w=>?_;obtain⟨z,B⟩:=Sg w;rw[BV (fun i=>if(hasB p.d4 (AA g.d5 (AA p.d5 i)).kq&&hasB p.d4 (AA g.d5 (AA p.d5 i)).To)=true then none else some 14),CP];intro i f h _;have j:=z _ (AI f h);rw[AD f h,bs,AD j.1 j.2];simp only[bs,mn];cases hasB p.d4 (AA g.d5 (AA p.d5 i)).kq<;>cases hasB p.d4 (AA g.d5 (AA p.d5 i)).To<;>rfl
def Ef(g:d6)(p:Ak):d6:=⟨p.d4.map (AA g.d4),p.d5.map fun x=>⟨(AA g.d5 x).kg,Br p.d4 (AA g.d5 x).kq,Br p.d4 (AA g.d5 x).To⟩⟩
variable{i:Int}
theorem DY{α:Type}{f:Int->α}(d:0<=i)(h:i<l.length):(l.take (i+1).toNat).map f=(l.take i.toNat).map f++[f (AA l i)]:=by grind[CJ]
theorem Oq(B:l.length<=1000)(h:∀x∈l,0<=x/\x<g.d4.length)(es:List BY):(A9 (fun(A:Int)(y:d6)=>
 (idx l A).bind fun d=>
 (idx g.d4 d).bind fun f=>
 (Aj y.d4 [f]).bind fun j=>
 some (d6.mk j y.d5)) 0 (l.length:Int) (d6.mk [] es))=some (d6.mk (l.map (AA g.d4)) es):=by
 rw [BM (fun i=>d6.mk ((l.take i.toNat).map (AA g.d4)) es) (by omega) (by simp)]
 .rw[Int.toNat_natCast,List.take_length]
 .intro i u w;have z:=h _ (AI u w);rw[AD u w,bs,AD z.1 z.2,bs,AT (by simp;unfold AW;omega),bs,DY u w]
theorem RM(D:l.length<=1000)(h:∀x∈l,0<=x/\x<g.d5.length)(u:Fp)(F:BY->BY){f:BY->List BY->Option (List BY)}(hf:∀x∈l,∀s,s.length<=1000->f (AA g.d5 x) s=some (s++[F (AA g.d5 x)])):(A9 (fun(C:Int)(A:d6)=>
 (idx l C).bind fun w=>
 (idx g.d5 w).bind fun y=>
 (f y A.d5).bind fun z=>
 some (d6.mk A.d4 z)) 0 (l.length:Int) (d6.mk u []))=some (d6.mk u (l.map fun x=>F (AA g.d5 x))):=by
 rw [BM (fun i=>d6.mk u ((l.take i.toNat).map fun x=>F (AA g.d5 x))) (by omega) (by simp)]
 .rw[Int.toNat_natCast,List.take_length]
 .intro i d j;have B:=h _ (AI d j);rw[AD d j,bs,AD B.1 B.2,bs,hf _ (AI d j) _ (by simp;omega),bs,DY d j]
theorem ew{p:Ak}(d:QV p):Gk g p=some (if D7 g p≠0 then(⟨[],[]⟩,⟨[],[]⟩,D7 g p)else(Ef g p,⟨p.d4,p.d5⟩,0)):=by
 unfold Gk;rw[bO d,bs];refine Dt fun h=>?_;have z:Bn g=0/\Ni g p=0:=by
  grind [D7]
 have ho:=Vg z.2;rw[Oq d.ej ho.ej.1,bs];have:=RM (g:=g) (l:=p.d5) d.fd ho.fd.1 (p.d4.map (AA g.d4)) (fun x=>⟨x.kg,Br p.d4 x.kq,Br p.d4 x.To⟩) (f:=fun j s=>
  (slices_BinarySearch_int p.d4 j.kq).bind fun u=>
  (slices_BinarySearch_int p.d4 j.To).bind fun w=>
  Aj s [BY.mk j.kg u.1 w.1]) (fun x y s A=>by
   have he:=ho.ends x y;rw[Rd d.ej ho.ej.2,bs,Rd d.ej ho.ej.2,bs,AT (by simp;unfold AW;omega),UX ho.ej.2 he.1,UX ho.ej.2 he.2])
 simp only[Option.bind_assoc]at this;rw[this,bs];unfold slices_Clone_int;have B:=d.ej;have C:=d.fd;rw[BI (by unfold AW;omega),bs,BI (by unfold AW;omega)];rfl
theorem XI{p:Ak}(j:QV p):G3 g p=some (if D7 g p≠0 then(⟨[],[]⟩,⟨[],[]⟩,D7 g p)else(Ef g p,⟨p.d4,p.d5⟩,0)):=by
 unfold G3;rw[WL j,bs];refine Dt fun h=>?_;have y:Bn g=0/\Ni g p=0:=by
  grind [D7]
 have ho:=Vg y.2;rw[Oq j.ej ho.ej.1,bs];have:=RM (g:=g) (l:=p.d5) j.fd ho.fd.1 (p.d4.map (AA g.d4)) (fun x=>⟨x.kg,Br p.d4 x.kq,Br p.d4 x.To⟩) (f:=fun d s=>
  (Hx p.d4 d.kq).bind fun u=>
  (Hx p.d4 d.To).bind fun w=>
  Aj s [BY.mk d.kg u w]) (fun x z s A=>by
   grind [pw,AT,AW])
 simp only[Option.bind_assoc]at this;rw[this,bs];have B:=j.ej;have C:=j.fd;rw[BI (by unfold AW;omega),bs,BI (by unfold AW;omega)];rfl
end Go.Sf.Sc
namespace Go.Sf.Sc
open Go Go.Sf
def K4(a b:d6)(m:d7)(i:Int):QQ:=
 if AA m.d4 i<0\/b.d4.length<=AA m.d4 i then some 6 else if AA b.d4 (AA m.d4 i)≠AA a.d4 i then some 13 else none
def GZ(a b:d6)(m:d7)(i:Int):QQ:=
 if AA m.d5 i<0\/b.d5.length<=AA m.d5 i then some 6 else
 if (AA a.d5 i).kg≠(AA b.d5 (AA m.d5 i)).kg then some 13 else
 if AA m.d4 (AA a.d5 i).kq≠(AA b.d5 (AA m.d5 i)).kq\/AA m.d4 (AA a.d5 i).To≠(AA b.d5 (AA m.d5 i)).To then some 11 else none
def IK(a b:d6)(m:d7):Int:=
 if Bn a≠0 then Bn a else if Bn b≠0 then Bn b else if m.d4.length≠a.d4.length\/m.d5.length≠a.d5.length then 20 else
 match fst (K4 a b m) 0 m.d4.length with
 |some e=>e|none=>(fst (GZ a b m) 0 m.d5.length).getD 0
structure Xn(a b:d6)(m:d7):Prop where
 ga:Cc a
 gb:Cc b
 Aas:m.d4.length=a.d4.length
 Aaz:m.d5.length=a.d5.length
 node:∀i:Int,0<=i->i<m.d4.length->(0<=AA m.d4 i/\AA m.d4 i<b.d4.length)/\AA b.d4 (AA m.d4 i)=AA a.d4 i
 edge:∀i:Int,0<=i->i<m.d5.length->(0<=AA m.d5 i/\AA m.d5 i<b.d5.length)/\(AA a.d5 i).kg=(AA b.d5 (AA m.d5 i)).kg/\
  AA m.d4 (AA a.d5 i).kq=(AA b.d5 (AA m.d5 i)).kq/\AA m.d4 (AA a.d5 i).To=(AA b.d5 (AA m.d5 i)).To
variable{m:d7}
theorem Tu{a b:d6}(h:IK a b m=0):Xn a b m:=by
 unfold IK at h;split at h
 .omega
 split at h
 .omega
 split at h
 .cases h
 rename_i u w y;have j:fst (K4 a b m) 0 m.d4.length=none:=by
  grind [C4,K4]
 rw [j]at h;have he:=P9 (fun i=>by
  grind [GZ]) h
 refine ⟨C3 (by omega),C3 (by omega),by omega,by omega,fun i d f=>?_,fun i d f=>?_⟩
 .grind[CH,K4]
 grind [GZ]
theorem Xs(a b:d6)(m:d7):EK a b m=some (IK a b m):=by
 unfold EK IK;rw[L6,bs,L6,bs];refine C6 fun y=>C6 fun z=>N9 (by simp;try omega) fun C=>?_;have ga:=C3 y;have gb:=C3 z;rw[BV (K4 a b m),DE]
 .cases A:fst (K4 a b m) 0 m.d4.length with
  |some e=>rfl|none=>
   have B:=CH.1 A;dsimp only;rw[BV (GZ a b m),CP];intro i h w _;unfold GZ;rw[AD h w,bs];by_cases d:AA m.d5 i<0\/b.d5.length<=AA m.d5 i
   .rw[a6 (by simpa using d),a6 d];rfl
   .have hf:=ga.fit _ (AI (l:=a.d5) h (by omega));rw[ae (by simpa using d),ae d,AD h (by omega),bs,AD (by omega) (by omega),bs];by_cases f:(AA a.d5 i).kg=(AA b.d5 (AA m.d5 i)).kg
    .rw[ae (by simpa using f),ae (by simpa using f),AD (by omega) (by omega),bs];by_cases j:AA m.d4 (AA a.d5 i).kq=(AA b.d5 (AA m.d5 i)).kq
     .rw[ae (by simpa using j),AD (by omega) (by omega),bs,bs];by_cases u:AA m.d4 (AA a.d5 i).To=(AA b.d5 (AA m.d5 i)).To
      .rw[ae (by simpa using u),ae (by simp[j,u])];rfl
      .rw[a6 (by simpa using u),a6 (.inr u)];rfl
     .rw[a6 (by simpa using j),bs,a6 rfl,a6 (.inl j)];rfl
    .rw[a6 (by simpa using f),a6 f];rfl
 .intro i h w _;unfold K4;rw[AD h w,bs];by_cases d:AA m.d4 i<0\/b.d4.length<=AA m.d4 i
  .rw[a6 (by simpa using d),a6 d];rfl
  .rw[ae (by simpa using d),ae d,AD (by omega) (by omega),bs,AD h (by omega),bs];by_cases f:AA b.d4 (AA m.d4 i)=AA a.d4 i
   .rw[ae (by simpa using f),ae (by simpa using f)];rfl
   .rw[a6 (by simpa using f),a6 f];rfl
theorem TI{x y:Prop}[Decidable x][Decidable y]:(if decide x=true then some true else some (decide y))=some (decide (x\/y)):=by grind
theorem Xz(a b:d6)(m:d7):GK a b m=some (IK a b m):=by
 unfold GK IK;rw[L7,bs,L7,bs];refine C6 fun y=>C6 fun z=>N9 (by simp;try omega) fun C=>?_;have ga:=C3 y;have gb:=C3 z;rw[show(a.d4.length:Int)=m.d4.length by omega,show(a.d5.length:Int)=m.d5.length by omega,BV (K4 a b m),DE]
 .cases A:fst (K4 a b m) 0 m.d4.length with
  |some e=>rfl|none=>
   have B:=CH.1 A;dsimp only;rw[BV (GZ a b m),CP];intro i h w _;unfold GZ;rw[AD h w];simp only[bs,TI];by_cases d:AA m.d5 i<0\/b.d5.length<=AA m.d5 i
   .rw[a6 (by simpa using d),a6 d];rfl
   .have hf:=ga.fit _ (AI (l:=a.d5) h (by omega));rw[ae (by simpa using d),ae d,AD h (by omega),bs,AD (by omega) (by omega),bs];by_cases f:(AA a.d5 i).kg=(AA b.d5 (AA m.d5 i)).kg
    .rw[ae (by simpa using f),ae (by simpa using f),AD (by omega) (by omega),bs];by_cases j:AA m.d4 (AA a.d5 i).kq=(AA b.d5 (AA m.d5 i)).kq
     .rw[ae (by simpa using j),AD (by omega) (by omega),bs,bs];by_cases u:AA m.d4 (AA a.d5 i).To=(AA b.d5 (AA m.d5 i)).To
      .rw[ae (by simpa using u),ae (by simp[j,u])];rfl
      .rw[a6 (by simpa using u),a6 (.inr u)];rfl
     .rw[a6 (by simpa using j),bs,a6 rfl,a6 (.inl j)];rfl
    .rw[a6 (by simpa using f),a6 f];rfl
 .intro i h w _;unfold K4;rw[AD h w];simp only[bs,TI];by_cases d:AA m.d4 i<0\/b.d4.length<=AA m.d4 i
  .rw[a6 (by simpa using d),a6 d];rfl
  .rw[ae (by simpa using d),ae d,AD (by omega) (by omega),bs,AD h (by omega),bs];by_cases f:AA b.d4 (AA m.d4 i)=AA a.d4 i
   .rw[ae (by simpa using f),ae (by simpa using f)];rfl
   .rw[a6 (by simpa using f),a6 f];rfl
def IH(l:Fp):Bool:=!ns (fun i=>ns (fun j=>decide (AA l i=AA l j)) 0 i) 0 l.length
variable{l:Fp}
theorem RF:IH l=true↔l.Nodup:=by grind[IH,Bool.not_eq_true',Bp,QX,JX]
theorem Xy(l:Fp):EL l=some (IH l):=by
 unfold EL IH;rw[BE (fun i=>ns (fun j=>decide (AA l i=AA l j)) 0 i) false]
 .cases ns (fun i=>ns (fun j=>decide (AA l i=AA l j)) 0 i) 0 l.length<;>rfl
 .intro i d f _;rw[BE (fun j=>decide (AA l i=AA l j)) false]
  .cases ns (fun j=>decide (AA l i=AA l j)) 0 i<;>rfl
  .intro j h u _;rw[AD d f,bs,AD h (by omega),bs,FO]
theorem Y6(f:l.length<=1000):∃k,Fd l=some k/\decide (k=(l.length:Int))=IH l:=by
 have d:(QC l).length=l.length:=(Ot l).length_eq;refine⟨((Go.Lib.compact (QC l)).length:Int),?_,?_⟩
 .grind[Fd,slices_Clone_int,slices_Sort_int,slices_Compact_int,BI,AW]
 .rw[Bool.eq_iff_iff,RF,x7,<-(Ot l).nodup_iff,<-R2 (Pe l),d];omega
def J3(m:d7):Bool:=IH m.d4&&IH m.d5
theorem kj{a b:d6}(h:IK a b m=0):EJ a b m=some (J3 m):=by
 have ho:=Tu h;have:=ho.ga.ej;have:=ho.ga.fd;have:=ho.Aas;have:=ho.Aaz;obtain⟨k,d,f⟩:=Y6 (l:=m.d4) (by omega);obtain⟨j,u,w⟩:=Y6 (l:=m.d5) (by omega);unfold EJ J3;rw[Xs,h,bs,a6 (decide_eq_true rfl),d];simp only[bs,u,f,w];cases IH m.d4<;>rfl
theorem tK{a b:d6}(h:IK a b m=0):Hd a b m=some (J3 m):=by grind[Hd,J3,Xz,Xy,IH]
def QD(r:em):Int:=
 if D7 r.f0.d6 r.sr≠0 then D7 r.f0.d6 r.sr else
 if IK (Ef r.f0.d6 r.sr) r.ek.d6 r.kl≠0 then IK (Ef r.f0.d6 r.sr) r.ek.d6 r.kl else if J3 r.kl=false then 11 else 0
variable{r:em}
theorem pQ(d:QV r.sr):OQ r=some (QD r):=by
 unfold OQ QD;rw[ew d,bs];by_cases h:D7 r.f0.d6 r.sr=0
 .simp only[h,ne_eq,not_true_eq_false,if_false,decide_true,Bool.not_true,Bool.false_eq_true];rw[Xs,bs];refine C6 fun f=>?_;rw[kj f,bs];exact Su fun _=>rfl
 .simp[h]
def T8(r:em):Int:=if D7 r.f0.d6 r.sr≠0 then D7 r.f0.d6 r.sr else IK (Ef r.f0.d6 r.sr) r.ek.d6 r.kl
theorem p0(d:QV r.sr):Mo r=some (T8 r):=by
 unfold Mo T8;rw[WL d,bs];refine C6 fun h=>?_
 grind [XI,Xz]
theorem mA(h:QD r=0):D7 r.f0.d6 r.sr=0/\IK (Ef r.f0.d6 r.sr) r.ek.d6 r.kl=0/\J3 r.kl=true:=by grind[QD]
def BF(l:Fp)(n:Int):Fp:=((List.range n.toNat).map Int.ofNat).filter fun i=>!hasB l i
variable{i:Int}
theorem Mr(l:Fp)(h:0<=i):BF l (i+1)=BF l i++if(!hasB l i)=true then[i]else[]:=by
 unfold BF;rw[show(i+1).toNat=i.toNat+1 by omega,List.range_succ,List.map_append,List.filter_append]
 grind
variable{n x:Int}
theorem GO(h:x∈BF l n):0<=x/\x<n:=by
 unfold BF at h
 grind
theorem QS(l:Fp)(n:Int):(BF l n).length<=n.toNat:=by
 unfold BF
 grind
theorem TO(w:0<=n)(z:n<=1000){f:Int->K1}(hf:∀i,f i=some (hasB l i)):(A9 (fun(j:Int)(u:Fp)=>
 (f j).bind fun d=>
 if (!d)=true then
 (Aj u [j]).bind fun h=>
 some h
 else
 some u) 0 n [])=some (BF l n):=by
 refine BM (BF l) w (by simp[BF]) (fun i y A=>?_);have:=QS l i;rw[hf,bs,Mr l y];cases hasB l i
 .rw[a6 (by decide),a6 (by decide),AT (by simp;unfold AW;omega)];rfl
 .rw[ae (by decide),ae (by decide),List.append_nil]
theorem Y8(d:0<=n)(f:n<=1000):Je l n=some (BF l n):=by
 unfold Je;rw[TO d f (fun i=>J0 l i)];rfl
theorem fb(d:0<=n)(f:n<=1000):Ke n l=some (BF l n):=by
 unfold Ke;rw[TO d f (fun i=>mq l i)];rfl
def Ht(r:em):Fp:=BF r.kl.d4 r.ek.d6.d4.length
def NI(r:em):Fp:=BF r.kl.d5 r.ek.d6.d5.length
theorem ey(d:Cc r.ek.d6):KJ r=some (Ht r,NI r):=by
 have:=d.ej;have:=d.fd;unfold KJ;rw[Y8 (by omega) (by omega),bs,Y8 (by omega) (by omega)];rfl
theorem fS(d:Cc r.ek.d6):JO r=some (Ht r,NI r):=by
 have:=d.ej;have:=d.fd;unfold JO;rw[fb (by omega) (by omega),bs,fb (by omega) (by omega)];rfl
def E6(t:AC)(g:d6)(i:Int):Bool:=P6 t (AA g.d5 i).kg (AA g.d4 (AA g.d5 i).kq) (AA g.d4 (AA g.d5 i).To)
def Yr(t:AC)(g:d6)(ej fd:Fp):Bool:=!(ej.any fun i=>(AA t.d4 (AA g.d4 i)).Aae)&&!(fd.any fun i=>!E6 t g i)
variable{t:AC}{g:d6}
theorem tI(hf:Au t)(u:Cc g)(w:CQ t g=true){ej fd:Fp}(y:∀x∈ej,0<=x/\x<g.d4.length)(he:∀x∈fd,0<=x/\x<g.d5.length):KK t g ej fd=some (Yr t g ej fd):=by
 have h:=Gr u w;unfold KK Yr;rw[Ss (p:=fun i=>(AA t.d4 (AA g.d4 i)).Aae) (fun x f=>by
  have d:=y x f;have j:=h.1 _ (AI d.1 d.2);unfold Km;rw[AD d.1 d.2,bs,AD j.1 j.2];rfl),bs,Ss (p:=fun i=>!E6 t g i) (fun x f=>by
  have d:=he x f;have j:=u.fit _ (AI d.1 d.2);unfold Kn;rw[AD d.1 d.2,bs,AD (by omega) (by omega),bs,AD (by omega) (by omega),bs,Y1 hf];rfl)]
 grind
theorem tM(hf:Au t)(w:Cc g)(y:CQ t g=true){ej fd:Fp}(z:∀x∈ej,0<=x/\x<g.d4.length)(he:∀x∈fd,0<=x/\x<g.d5.length):KH t g ej fd=some (Yr t g ej fd):=by
 have j:=Gr w y;unfold KH Yr;rw[FM,FM,BE (fun i=>(AA t.d4 (AA g.d4 (AA ej i))).Aae) false]
 .rw[BE (fun i=>!E6 t g (AA fd i)) false]
  .cases ns (fun i=>(AA t.d4 (AA g.d4 (AA ej i))).Aae) 0 ej.length
   .cases ns (fun i=>!E6 t g (AA fd i)) 0 fd.length<;>rfl
   .rfl
  .intro i f h _;have d:=he _ (AI f h);have u:=w.fit _ (AI d.1 d.2);rw[AD f h,bs,AD d.1 d.2,bs,AD (by omega) (by omega),bs,AD (by omega) (by omega),bs,ZH hf,bs,FO];rfl
 .intro i f h _;have d:=z _ (AI f h);have u:=j.1 _ (AI d.1 d.2);rw[AD f h,bs,AD d.1 d.2,bs,AD u.1 u.2,bs,FO]
end Go.Sf.Sc
namespace Go.Sf.Sc
open Go Go.Sf
structure QW(p:ec):Prop where
 ej:p.d6.d4.length<=45
 fd:p.d6.d5.length<=90
 slots:p.ff.length<=15
 tests:p.l4.length<=15
structure cA(m:d7):Prop where
 ej:m.d4.length<=140
 fd:m.d5.length<=140
inductive DN:ea->Prop where
 |mk (c:ea) (hq:QW c.ec) (hm:cA c.Map) (hk:∀k∈c.gp,DN k):DN c
variable{c:ea}
theorem DN.q(h:DN c):QW c.ec:=by cases h;assumption
theorem DN.m(h:DN c):cA c.Map:=by cases h;assumption
theorem DN.k(h:DN c):∀k∈c.gp,DN k:=by cases h;assumption
theorem EC{c k:ea}(h:k∈c.gp):SizeOf.sizeOf k<SizeOf.sizeOf c:=by
 have:=List.sizeOf_lt_of_mem h;cases c
 grind
theorem DV(c:ea):0<SizeOf.sizeOf c:=by
 cases c
 grind
def Ok(c:ea):Bool:=decide (c.Map.d4.length=0/\c.Map.d5.length=0/\c.ec.d6.d4.length=0/\c.ec.d6.d5.length=0/\c.ec.ff.length=0/\c.ec.l4.length=0/\c.ec.gn=0)
theorem pI(hf:DN c):EE c=some (Ok c):=by
 have d:=hf.q;have f:=hf.m;have:=d.ej;have:=d.fd;have:=d.slots;have:=d.tests;have:=f.ej;have:=f.fd;unfold EE Ok;rw[Ap (n:=(c.Map.d4.length:Int)+c.Map.d5.length) (by omega) (by omega),Ap (n:=(c.Map.d4.length:Int)+c.Map.d5.length+c.ec.d6.d4.length) (by omega) (by omega),
  Ap (n:=(c.Map.d4.length:Int)+c.Map.d5.length+c.ec.d6.d4.length+c.ec.d6.d5.length) (by omega) (by omega),
  Ap (n:=(c.Map.d4.length:Int)+c.Map.d5.length+c.ec.d6.d4.length+c.ec.d6.d5.length+c.ec.ff.length) (by omega) (by omega),
  Ap (n:=(c.Map.d4.length:Int)+c.Map.d5.length+c.ec.d6.d4.length+c.ec.d6.d5.length+c.ec.ff.length+c.ec.l4.length) (by omega) (by omega)]
 congr 1
 grind
theorem jG(hf:DN c):Gc c=some (Ok c):=by
 have d:=hf.q;have f:=hf.m;have:=d.ej;have:=d.fd;have:=d.slots;have:=d.tests;have:=f.ej;have:=f.fd;unfold Gc Ok;rw[Ap (n:=(c.Map.d4.length:Int)+c.Map.d5.length) (by omega) (by omega),Ap (n:=(c.Map.d4.length:Int)+c.Map.d5.length+c.ec.d6.d4.length) (by omega) (by omega),
  Ap (n:=(c.Map.d4.length:Int)+c.Map.d5.length+c.ec.d6.d4.length+c.ec.d6.d5.length) (by omega) (by omega),
  Ap (n:=(c.ec.ff.length:Int)+c.ec.l4.length) (by omega) (by omega)]
 congr 1
 grind
def RO(c:ea):Bool:=
 if c.l3=1 then decide (c.gp.length=0)&&Ok c else if c.l3=2 then decide (c.gp.length=1)&&Ok c else
 if c.l3=3\/c.l3=4 then decide (1<=c.gp.length)&&Ok c else if c.l3=5 then decide (c.gp.length=1)else false
def Qz:Nat->ea->Bool
 |0,_=>false|n+1,c=>RO c&&c.gp.all (Qz n)
theorem pX:∀(N:Nat)(c:ea),SizeOf.sizeOf c<=N->DN c->∀n,2*N<=n->CF n c=some (Qz N c)
 |0,c,h,_,_,_=>by have:=DV c;omega|N+1,c,h,hf,n,D=>by
  obtain ⟨n,rfl⟩:∃m,n=m+2:=⟨n-2,by omega⟩;rw[CF,Qz,pI hf];have f:Cn c.gp (B4 (n+1))=some (!c.gp.all (Qz N)):=by
   rw [YK (p:=fun k=>!Qz N k) (fun k f=>by
    have:=EC f;rw[B4,pX N k (by omega) (hf.k k f) n (by omega)];rfl),List.all_eq_not_any_not,Bool.not_not]
  rw [f];unfold RO;simp only[bs,x7];generalize Ok c=b;generalize c.gp.all (Qz N)=w;have e0:decide ((c.gp.length:Int)=0)=decide (c.gp.length=0):=by rw[decide_eq_decide];omega
  have B:decide ((c.gp.length:Int)=1)=decide (c.gp.length=1):=by rw[decide_eq_decide];omega
  have C:decide (1<=(c.gp.length:Int))=decide (1<=c.gp.length):=by rw[decide_eq_decide];omega
  simp only[show((c.gp.length:Int)=0)↔c.gp.length=0 by omega,show((c.gp.length:Int)=1)↔c.gp.length=1 by omega,show(1<=(c.gp.length:Int))↔1<=c.gp.length by omega];by_cases j:c.l3=1
  .rw[a6 j,a6 j];by_cases d:c.gp.length=0<;>cases b<;>cases w<;>simp[d]
  .rw[ae j,ae j];by_cases u:c.l3=2
   .rw[a6 u,a6 u];by_cases d:c.gp.length=1<;>cases b<;>cases w<;>simp[d]
   .rw[ae u,ae u];by_cases z:c.l3=3
    .simp only[z,if_true,true_or];by_cases d:1<=c.gp.length<;>cases b<;>cases w<;>simp[d]
    .by_cases A:c.l3=4
     .simp only[A,if_true,or_true,show¬(4:Int)=3 by decide,if_false];by_cases d:1<=c.gp.length<;>cases b<;>cases w<;>simp[d]
     .simp only[z,A,if_false,or_false];by_cases y:c.l3=5
      .rw[a6 y,a6 y];by_cases d:c.gp.length=1<;>cases w<;>simp[d]
      .rw[ae y,ae y];cases w<;>rfl
theorem pu(hf:DN c):LH c=some (RO c):=by
 unfold LH RO;rw[jG hf];simp only[bs,x7];generalize Ok c=b;simp only[show((c.gp.length:Int)=0)↔c.gp.length=0 by omega,show((c.gp.length:Int)=1)↔c.gp.length=1 by omega,show(0<(c.gp.length:Int))↔1<=c.gp.length by omega]
 grind
theorem oW{α:Type}[Inhabited α]{l:List α}{p:α->Bool}:l.all p=!ns (fun i=>!p (AA l i)) 0 l.length:=by
 rw [List.all_eq_not_any_not,FM]
theorem ko:∀(N:Nat)(c:ea),SizeOf.sizeOf c<=N->DN c->∀n,N<=n->Dq n c=some (Qz N c)
 |0,c,h,_,_,_=>by have:=DV c;omega|N+1,c,h,hf,n,u=>by
  obtain ⟨n,rfl⟩:∃m,n=m+1:=⟨n-1,by omega⟩;rw[Dq,Qz,pu hf,bs,oW,BE (fun i=>!Qz N (AA c.gp i)) false]
  .cases RO c
   .rfl
   .cases ns (fun i=>!Qz N (AA c.gp i)) 0 c.gp.length<;>rfl
  .intro i d f _;have j:=AI (l:=c.gp) d f;have:=EC j;rw[AD d f,bs,ko N _ (by omega) (hf.k _ j) n (by omega),bs,FO]
noncomputable def lQ(c:ea):Bool:=Qz (SizeOf.sizeOf c) c
theorem tJ(hf:DN c):It c=some (lQ c):=Dw (2*SizeOf.sizeOf c) fun n d=>pX _ c (az _) hf n d
theorem tR(hf:DN c):NY c=some (lQ c):=Dw (SizeOf.sizeOf c) fun n d=>ko _ c (az _) hf n d
def MW:Nat->ea->Int×Int
 |0,_=>(0,0)|n+1,c=>
  let s:=c.gp.foldl (fun s k=>(Al (s.1+(MW n k).1),max s.2 (MW n k).2)) ((1,0):Int×Int)
  (s.1,if c.l3=5 then Al (s.2+1)else s.2)
theorem W9{α σ:Type}[Inhabited α]{l:List α}{g:σ->α->σ}{s:σ}{f:Int->σ->Option σ}(h:∀(i:Int)s,0<=i->i<l.length->f i s=some (g s (AA l i))):A9 f 0 l.length s=some (l.foldl g s):=by
 rw [BM (fun i=>(l.take i.toNat).foldl g s) (by omega) (by simp)]
 .rw[Int.toNat_natCast,List.take_length]
 grind [CJ]
theorem fB:∀(N:Nat)(c:ea),SizeOf.sizeOf c<=N->∀n,N<=n->C0 n c=some (MW N c)
 |0,c,h,_,_=>by have:=DV c;omega|N+1,c,h,n,j=>by
  obtain ⟨n,rfl⟩:∃m,n=m+1:=⟨n-1,by omega⟩;rw[C0,MW,W9 (g:=fun s k=>(Al (s.1+(MW N k).1),max s.2 (MW N k).2))]
  .grind
  .intro i s d f;have:=EC (AI (l:=c.gp) d f);rw[AD d f,bs,fB N _ (by omega) n (by omega)];rfl
theorem fZ:∀(N:Nat)(c:ea),SizeOf.sizeOf c<=N->∀n,N<=n->EM n c=some (MW N c)
 |0,c,h,_,_=>by have:=DV c;omega|N+1,c,h,n,j=>by
  obtain ⟨n,rfl⟩:∃m,n=m+1:=⟨n-1,by omega⟩;rw[EM,MW,W9 (g:=fun s k=>(Al (s.1+(MW N k).1),max s.2 (MW N k).2))]
  .grind
  .intro i s d f;have:=EC (AI (l:=c.gp) d f);rw[AD d f,bs,fZ N _ (by omega) n (by omega)];rfl
noncomputable def Xr(c:ea):Int×Int:=MW (SizeOf.sizeOf c) c
noncomputable def Pp(c:ea):Int:=if lQ c=false then 1 else if 12<(Xr c).1\/3<(Xr c).2 then 3 else 0
theorem mZ(hf:DN c):HN c=some (Pp c):=by
 unfold HN Pp;rw[tJ hf,bs,show Kv c=some (Xr c)from Dw (SizeOf.sizeOf c) fun n d=>fB _ c (az _) n d,bs]
 grind
theorem my(hf:DN c):LF c=some (Pp c):=by
 unfold LF Pp;rw[tR hf,bs,show Oc c=some (Xr c)from Dw (SizeOf.sizeOf c) fun n d=>fZ _ c (az _) n d,bs]
 grind
theorem VM(g:d6):Bn g≠9:=by grind[Bn]
variable{t:AC}{p:ec}
theorem ZE(d:(A1 t).2=0)(h:Gy t p=0\/Gy t p=9):0<=p.gn/\p.gn<=12:=by grind[VM,Gy]
def S7(t:AC)(q:ec)(v:Int):Int:=if Gy t q≠9 then Gy t q else if ns (fun i=>!J9 q i) v q.gn=true then 9 else 0
variable{P:Prop}
theorem uq{α:Type}[Decidable P]{v:α}{X:Option α}{Y:α}(h:P->X=some Y):(if(!decide P)=true then some v else X)=some (if¬P then v else Y):=by grind
theorem tH(hf:Au t)(f:(A1 t).2=0){q:ec}{v:Int}(w:0<=v)(h:v<=q.gn):F1 t q v=some (S7 t q v):=by
 unfold F1 S7;rw[Vd hf,bs];refine uq fun d=>?_;have hv:=ZE f (.inr d);rw[PP (c:=fun i=>(if(!J9 q i)=true then some ()else none).map fun _=>.inr 9) (a:=v) (b:=q.gn) h]
 .rw[PF,Lx];cases ns (fun i=>!J9 q i) v q.gn<;>rfl
 .intro i z u _;rw[a6 (by simpa using u),show(fun j=>Gu j i)=(fun y=>some (decide (y.j4.Var=i)))from rfl,aU,bs,show(q.ff.any fun y=>decide (y.j4.Var=i))=J9 q i from rfl,d,Ap (by omega) (by omega)];cases J9 q i<;>rfl
 .rw[ae (by simp)]
theorem mt(p:ec)(v:Int):Mk p v=some (J9 p v):=kw p v
theorem tL(hf:Au t)(q:ec)(v:Int):LG t v q=some (if q.gn<v then 20 else S7 t q v):=by
 unfold LG S7;refine N9 (by simp) fun _=>?_;rw[X0 hf,bs];refine uq fun d=>?_;rw[d,BE (fun i=>!J9 q i) 9]
 .cases ns (fun i=>!J9 q i) v q.gn<;>rfl
 .intro i f h _;rw[mt,bs,FO]
def Js:Nat->AC->ec->ea->Int
 |0,_,_,_=>0|N+1,t,p,c=>
  if c.l3=5 then
   if c.ec.gn<p.gn then 20 else if S7 t c.ec p.gn≠0 then S7 t c.ec p.gn else
   if IK p.d6 c.ec.d6 c.Map≠0 then IK p.d6 c.ec.d6 c.Map else if J3 c.Map=false then 1 else
   (fst (fun i=>nz (Js N t c.ec (AA c.gp i))) 0 c.gp.length).getD 0
  else (fst (fun i=>nz (Js N t p (AA c.gp i))) 0 c.gp.length).getD 0
theorem fD(hf:Au t)(u:(A1 t).2=0):∀(N:Nat)(c:ea)(p:ec),0<=p.gn->SizeOf.sizeOf c<=N->∀n,N<=n->CU n t p c=some (Js N t p c)
 |0,c,p,_,h,_,_=>by have:=DV c;omega|N+1,c,p,E,h,n,F=>by
  obtain ⟨n,rfl⟩:∃m,n=m+1:=⟨n-1,by omega⟩;rw[CU,Js];have j:∀q:ec,0<=q.gn->(AM (Ag (ρ:=Int) (fun(A:Int)(_:Unit)=>
    (idx c.gp A).bind fun f=>
    (CU n t q f).bind fun d=>
    if (!decide (d=0))=true then
    some (.ret d)
    else
    some (.next ())) 0 (c.gp.length:Int) ()) (fun _=>
    some 0) (fun B=>some B))=some ((fst (fun i=>nz (Js N t q (AA c.gp i))) 0 c.gp.length).getD 0):=by
   intro q D;rw[BV (fun i=>nz (Js N t q (AA c.gp i))),CP];intro i w y _;have:=EC (AI (l:=c.gp) w y);rw[AD w y,bs,fD hf u N _ q D (by omega) n (by omega),bs,Mb]
  by_cases z:c.l3=5
  .rw[a6 (by simpa using z),a6 z];refine N9 (by simp) fun hv=>?_;rw[tH hf u E (by omega),bs];refine C6 fun hi=>?_;rw[Xs,bs];refine C6 fun C=>?_;rw[kj C,bs]
   grind
  grind
theorem fa(hf:Au t):∀(N:Nat)(c:ea)(p:ec),SizeOf.sizeOf c<=N->∀n,N<=n->EX n t p c=some (Js N t p c)
 |0,c,p,h,_,_=>by have:=DV c;omega|N+1,c,p,h,n,C=>by
  obtain ⟨n,rfl⟩:∃m,n=m+1:=⟨n-1,by omega⟩;rw[EX,Js];have d:∀q:ec,(AM (Ag (ρ:=Int) (fun(z:Int)(_:Unit)=>
    (idx c.gp z).bind fun u=>
    (EX n t q u).bind fun f=>
    if (!decide (f=0))=true then
    some (.ret f)
    else
    some (.next ())) 0 (c.gp.length:Int) ()) (fun _=>
    some 0) (fun A=>some A))=some ((fst (fun i=>nz (Js N t q (AA c.gp i))) 0 c.gp.length).getD 0):=by
   intro q;rw[BV (fun i=>nz (Js N t q (AA c.gp i))),CP];intro i w y _;have:=EC (AI (l:=c.gp) w y);rw[AD w y,bs,fa hf N _ q (by omega) n (by omega),bs,Mb]
  by_cases j:c.l3=5
  .rw[a6 (by simpa using j),a6 j,tL hf,bs];by_cases hv:c.ec.gn<p.gn
   .simp[hv]
   .simp only[ae hv];refine C6 fun hi=>?_;rw[Xz,bs];refine C6 fun B=>?_;rw[tK B,bs];exact Su fun _=>d _
  .rw[ae (by simpa using j),ae j];exact d p
noncomputable def MQ(t:AC)(p:ec)(c:ea):Int:=if Gy t p≠0 then Gy t p else if Pp c≠0 then Pp c else Js (SizeOf.sizeOf c) t p c
theorem ex(hf:Au t)(d:(A1 t).2=0)(p:ec)(f:DN c):Do t p c=some (MQ t p c):=by
 unfold Do MQ;rw[Vd hf,bs];refine C6 fun h=>?_;rw[mZ f,bs,Option.bind_fun_some];exact C6 fun _=>Dw (SizeOf.sizeOf c) fun n j=>fD hf d _ c p (ZE d (.inl h)).1 (az _) n j
theorem fQ(hf:Au t)(p:ec)(d:DN c):Jb t p c=some (MQ t p c):=by
 unfold Jb MQ;rw[X0 hf,bs];refine C6 fun h=>?_;rw[my d,bs,Option.bind_fun_some];exact C6 fun _=>Dw (SizeOf.sizeOf c) fun n f=>fa hf _ c p (az _) n f
end Go.Sf.Sc
namespace Go.Sf.Sc
open Go Go.Sf
structure Ez(r:em):Prop where
 name:(r.og.size:Int)<=60
 left:QW r.f0
 right:QW r.ek
 hV:QV r.sr
 into:cA r.kl
 cond:DN r.ea
noncomputable def GF(t:AC)(r:em):Int:=
 if (A1 t).2≠0 then(A1 t).2 else if EI r.og=false then 2 else if Gy t r.f0≠0 then Gy t r.f0 else
 if JP t r≠0 then JP t r else if QD r≠0 then QD r else if Yr t r.ek.d6 (Ht r) (NI r)=false then 13 else MQ t r.f0 r.ea
variable{t:AC}{r:em}
theorem Ul(h:JP t r=0):Cc r.ek.d6/\CQ t r.ek.d6=true:=by grind[JP,C3]
theorem fE(hf:Au t)(d:Ez r):Kl t r=some (GF t r):=by
 have w:=d.name;unfold Kl GF;rw[NV hf,bs];refine C6 fun j=>?_;rw[Pk (by omega),bs];refine Su fun _=>?_;rw[Vd hf,bs];refine C6 fun _=>?_;rw[mU hf,bs];refine C6 fun f=>?_;have ho:=Ul f;rw[pQ d.hV,bs];refine C6 fun u=>?_;rw[ey ho.1,bs];dsimp only;rw[tI (ej:=Ht r) (fd:=NI r) hf ho.1 ho.2 (fun x h=>GO h) (fun x h=>GO h),bs];refine Su fun _=>?_;rw[ex hf j _ d.cond,bs]
theorem fc(hf:Au t)(d:Ez r):Jc t r=some (GF t r):=by
 have y:=d.name;unfold Jc GF;rw[PL hf,bs];refine C6 fun w=>?_;rw[Pl (by omega),bs];refine Su fun _=>?_;rw[X0 hf,bs];refine C6 fun _=>?_;rw[mu hf,bs];refine C6 fun f=>?_;have ho:=Ul f;rw[p0 d.hV,bs,Xy,bs];simp only[Xy,bs];have e:(if(!IH r.kl.d4)=true then some true else some (!IH r.kl.d5))=some (!J3 r.kl):=by
  grind [J3,IH]
 rw [e,bs];have u:QD r=if T8 r≠0 then T8 r else if J3 r.kl=false then 11 else 0:=by
  grind [QD,T8,D7]
 rw [u];by_cases j:T8 r=0
 .simp only[j,ne_eq,not_true_eq_false,if_false,decide_true,Bool.not_true,Bool.false_eq_true];cases hi:J3 r.kl
  .simp
  .simp only[Bool.not_true,Bool.false_eq_true,if_false,not_true_eq_false,Bool.true_eq_false];rw[fS ho.1,bs];dsimp only;rw[tM (ej:=Ht r) (fd:=NI r) hf ho.1 ho.2 (fun x h=>GO h) (fun x h=>GO h),bs];refine Su fun _=>?_;rw[fQ hf _ d.cond,bs]
 .simp[j]
def O7(n:Int):Bool:=(decide (1<=n))&&(decide (n<=3))
def Po(t:AC)(s:Ao)(i:Int):QQ:=
 if O7 (AA s.d4 i)=false then some 6 else if 0<=par t i/\AA s.d4 (par t i)≠AA s.d4 i then some 13 else none
def Qs(t:AC)(s:Ao)(i:Int):Int:=
 if O7 (AA s.d5 i)=false then 6 else
 if ((!decide (AA s.d4 (AA t.d5 i).kq=AA s.d5 i))||((decide (AA s.d4 (AA t.d5 i).To=AA s.d5 i))==(decide (AA s.d5 i=2))))=true then 13 else 0
def LP(t:AC)(s:Ao):Int:=
 if (A1 t).2≠0 then(A1 t).2 else if s.d4.length≠t.d4.length\/s.d5.length≠t.d5.length then 20 else
 match fst (Po t s) 0 t.d4.length with
 |some e=>e|none=>(fst (fun i=>nz (Qs t s i)) 0 t.d5.length).getD 0
structure Vz(t:AC)(s:Ao):Prop where
 types:Em t
 Aas:s.d4.length=t.d4.length
 Aaz:s.d5.length=t.d5.length
variable{s:Ao}
theorem Zj(h:LP t s=0):(A1 t).2=0/\Vz t s:=by
 unfold LP at h;split at h
 .omega
 .split at h
  .cases h
  .exact⟨by omega,Cd (by omega),by omega,by omega⟩
variable{o:K1}
theorem aO{x:Prop}[Decidable x]{b:Bool}(h:x->o=some b):(if decide x=true then o else some false)=some (decide x&&b):=by grind
theorem mb(hf:Au t)(s:Ao):KQ t s=some (LP t s):=by
 unfold KQ LP;rw[NV hf,bs];refine C6 fun j=>N9 (by simp;try omega) fun u=>?_;have ho:=Cd j;rw[show(s.d4.length:Int)=t.d4.length by omega,show(s.d5.length:Int)=t.d5.length by omega,BV (Po t s),DE]
 .cases fst (Po t s) 0 t.d4.length with
  |some e=>rfl|none=>
   dsimp only;rw[BV (fun i=>nz (Qs t s i)),CP];intro i d f _;have he:=ho.ends d f;have e:LQ t s i=some (Qs t s i):=by
    unfold LQ Qs;rw[AD d (by omega),bs,show ME (AA s.d5 i)=some (O7 (AA s.d5 i))from rfl,bs];refine Su fun _=>?_;rw[AD d f,bs,AD (by omega) (by omega),bs,bs,AD (by omega) (by omega),bs];exact WZ fun _=>rfl
   rw [e,bs,Mb]
 .intro i d f _;have w:=ho.par i d f;unfold Po;rw[AD d (by omega),bs,show ME (AA s.d4 i)=some (O7 (AA s.d4 i))from rfl,bs,AD d f,bs];cases O7 (AA s.d4 i)
  .rfl
  .simp only[Bool.not_true,Bool.false_eq_true,if_false,Bool.true_eq_false];rw[show(AA t.d4 i).r0=par t i from rfl,aO (b:=!decide (AA s.d4 (par t i)=AA s.d4 i)) (fun h=>by rw[AD h (by omega)];rfl),bs];by_cases h:0<=par t i/\AA s.d4 (par t i)≠AA s.d4 i
   .rw[a6 (by simpa using h),a6 h];rfl
   .rw[ae (by simpa using h),ae h];rfl
theorem m7(hf:Au t)(s:Ao):LK t s=some (LP t s):=by
 unfold LK LP;rw[PL hf,bs];refine C6 fun A=>N9 (by simp;try omega) fun B=>?_;have ho:=Cd A;rw[BV (Po t s),DE]
 .cases fst (Po t s) 0 t.d4.length with
  |some e=>rfl|none=>
   dsimp only;rw[BV (fun i=>nz (Qs t s i)),CP];intro i d f _;have he:=ho.ends d f;unfold Qs;rw[AD (l:=s.d5) d (by omega)];simp only[bs,show Ki (AA s.d5 i)=some (O7 (AA s.d5 i))from rfl];cases O7 (AA s.d5 i)
   .rfl
   .rw[ae (by decide),ae (by decide),AD d f];simp only[bs];rw[AD (l:=s.d4) (i:=(AA t.d5 i).kq) (by omega) (by omega),bs,AD (l:=s.d4) (i:=(AA t.d5 i).To) (by omega) (by omega),bs];generalize AA s.d4 (AA t.d5 i).kq=x;generalize AA s.d4 (AA t.d5 i).To=y;generalize AA s.d5 i=z;by_cases j:x=z
    .by_cases w:z=2
     .by_cases u:y=z
      .simp[j,w,u,nz,Lk]
      .have:¬y=2:=fun h=>u (by omega);simp[j,w,this,nz,Lk]
     .by_cases u:y=z
      .simp[j,w,u,nz,Lk]
      .simp[j,w,u,nz,Lk]
    .simp[j,nz,Lk]
 .intro i d f _;have C:=ho.par i d f;unfold Po;rw[AD (l:=s.d4) d (by omega),bs,show Ki (AA s.d4 i)=some (O7 (AA s.d4 i))from rfl,bs,AD d f,bs];cases O7 (AA s.d4 i)
  .rfl
  .simp only[Bool.not_true,Bool.false_eq_true,if_false,Bool.true_eq_false];rw[show(AA t.d4 i).r0=par t i from rfl,aO (b:=!decide (AA s.d4 (par t i)=AA s.d4 i)) (fun h=>by rw[AD h (by omega),bs,bs]),bs];by_cases h:0<=par t i/\AA s.d4 (par t i)≠AA s.d4 i
   .rw[a6 (by simpa using h),a6 h];rfl
   .rw[ae (by simpa using h),ae h];rfl
variable{l:Fp}
theorem XE(A:l.length<=1000):∃m,GV l=some m:=by
 unfold GV slices_Clone_int;rw[BI (by unfold AW;omega),bs];obtain⟨m,z,C⟩:=Pd (f:=(fun(d:Int)(h:Fp)=>
 (idx h d).bind fun j=>
 (idx h d).bind fun u=>
 some (BP h d (Al (4-j))))) (fun _ s=>s.length=l.length) (a:=0) (b:=l.length) (s:=l) (by omega) rfl (fun i s w B y=>by
  refine ⟨_,by rw[AD w (by omega),bs,bs],?_⟩;simp[BP,y])
 rw [z];exact⟨m,rfl⟩
theorem ir(hf:Au t)(s:Ao):Gn t s=some (LP t s):=by
 unfold Gn N5;rw[mb hf,bs];by_cases h:LP t s=0
 .have ho:=(Zj h).2;have:=ho.Aas;have:=ho.Aaz;have:=ho.types.ej;have:=ho.types.fd;obtain⟨m,d⟩:=XE (l:=s.d4) (by omega);obtain⟨k,f⟩:=XE (l:=s.d5) (by omega);rw[ae (by simpa using h),d,bs,f,h];rfl
 .rw[a6 (by simpa using h)];rfl
def Tn(r:em):Bool:=decide (r.f0.ff.length=0/\r.f0.l4.length=0/\r.ek.ff.length=0/\r.f0.gn=0)&&r.le&&decide (r.ea.l3=1)&&decide (r.sr.d4.length=r.f0.d6.d4.length/\r.sr.d5.length=r.f0.d6.d5.length)
def Aaq(t:AC)(l:Fp):Bool:=!(l.any fun k=>t.d4.any fun n=>decide (n.r0=k))
def VE(t:AC)(g:d6):Bool:=!ns (fun i=>!E6 t g i) 0 g.d5.length
noncomputable def EA(t:AC)(s:Ao)(r:em):Int:=
 if LP t s≠0 then LP t s else if GF t r≠0 then GF t r else if Tn r=false then 8 else
 if (Aaq t r.f0.d6.d4&&Aaq t r.ek.d6.d4&&VE t r.f0.d6)=true then 0 else 13
structure Sb(t:AC)(r:em):Prop where
 left:Cc r.f0.d6
 Abs:CQ t r.f0.d6=true
 right:Cc r.ek.d6
 AaF:CQ t r.ek.d6=true
 rtests:r.ek.l4.length=0
 part:YA r.f0.d6 r.sr
 mor:Xn (Ef r.f0.d6 r.sr) r.ek.d6 r.kl
 inj:r.kl.d4.Nodup/\r.kl.d5.Nodup
variable{p:ec}
theorem pY(h:Gy t p=0):Cc p.d6/\CQ t p.d6=true:=by grind[Gy,C3]
theorem PM(h:GF t r=0):(A1 t).2=0/\Sb t r:=by
 unfold GF at h;split at h
 .omega
 split at h
 .cases h
 split at h
 .omega
 split at h
 .omega
 split at h
 .omega
 rename_i u w y z A;have d:=pY (t:=t) (p:=r.f0) (by omega);have f:=Ul (t:=t) (r:=r) (by omega);have j:=mA (r:=r) (by omega);have hi:IH r.kl.d4=true/\IH r.kl.d5=true:=by
  grind [J3]
 refine ⟨by omega,d.1,d.2,f.1,f.2,?_,?_,Tu j.2.1,RF.1 hi.1,RF.1 hi.2⟩
 .grind[JP]
 grind [D7,Vg]
theorem aP{n:Nat}(h:∀x∈l,0<=x/\x<n)(f:l.Pairwise (·<·)):l.length<=n:=by
 have key:∀i:Int,0<=i->i<l.length->i<=AA l i:=by
  intro i d j;obtain⟨k,rfl⟩:=Int.eq_ofNat_of_zero_le d;clear d
  induction k with
  |zero=>exact(h _ (AI (by omega) (by omega))).1|succ k u=>
   grind [JX]
 by_cases d:l.length=0
 .omega
 .have a:=key ((l.length:Int)-1) (by omega) (by omega)
  grind [AI]
theorem ij{a b:Fp}(y:a.length<=1000)(z:b.length<=1000):F5 [a,b]=some (a++b):=by
 have u:Al (0+(a.length:Int))=a.length:=by rw[Ap (by omega) (by omega)];omega
 have w:Al ((a.length:Int)+(b.length:Int))=a.length+b.length:=Ap (by omega) (by omega);have d:idx [a,b] 0=some a:=rfl;have f:idx [a,b] 1=some b:=rfl;unfold F5;rw[show(([a,b]:List Fp).length:Int)=2 from rfl];rw[BM (a:=0) (b:=2) (s:=(0:Int)) (fun i=>if i=0 then 0 else if i=1 then(a.length:Int)else a.length+b.length) (by decide) rfl]
 .rw[bs,ae (by decide),ae (by decide)];unfold Hm;rw[a6 ⟨rfl,by omega,by unfold AW;omega⟩,bs];rw[BM (a:=0) (b:=2) (s:=([]:Fp)) (fun i=>if i=0 then[]else if i=1 then a else a++b) (by decide) rfl]
  .rfl
  .intro i h j;have:i=0\/i=1:=by omega
   rcases this with rfl|rfl
   .rw[d,bs,a6 rfl,ae (by decide),a6 (by decide),BI (by unfold AW;omega)];rfl
   .rw[f,bs,ae (by decide),a6 rfl,ae (by decide),ae (by decide),AT (by unfold AW;omega)];rfl
 .intro i h j;have:i=0\/i=1:=by omega
  rcases this with rfl|rfl
  .rw[d,bs,a6 rfl,u,ae (by simp)];rfl
  .rw[f,bs];show(if decide (Al ((a.length:Int)+b.length)<0)=true then none else some (Al ((a.length:Int)+b.length)))=some ((a.length:Int)+b.length);rw[w,ae (by simp;omega)]
theorem fI(hf:Au t)(d:Ez r):FC t s r=some (EA t s r):=by
 unfold FC EA;rw[ir hf,bs];refine C6 fun y=>?_;rw[fE hf d,bs];refine C6 fun f=>?_;have ho:=(PM f).2;have w:=(PM f).1;have l1:=d.left.slots;have l2:=d.left.tests;have A:=d.right.slots;have B:=d.right.tests;have C:=aP ho.part.ej.1 ho.part.ej.2;have D:=aP ho.part.fd.1 ho.part.fd.2;have E:=ho.rtests;rw[Ap (n:=(r.f0.ff.length:Int)+r.f0.l4.length) (by omega) (by omega),Ap (n:=(r.f0.ff.length:Int)+r.f0.l4.length+r.ek.ff.length) (by omega) (by omega),Ap (n:=(r.f0.ff.length:Int)+r.f0.l4.length+r.ek.ff.length+r.ek.l4.length) (by omega) (by omega)];refine N9 ?_ fun z=>?_
 .unfold Tn;cases r.le
  .simp
  .simp only[Bool.not_true,Bool.or_false,Bool.and_true,Bool.or_eq_true,pc,Bool.not_eq_true',x7,decide_eq_false_iff_not,Bool.and_eq_false_iff];omega
 rw [ij (by have:=ho.left.ej;omega) (by have:=ho.right.ej;omega),bs,BE (fun i=>t.d4.any fun n=>decide (n.r0=AA (r.f0.d6.d4++r.ek.d6.d4) i)) 13]
 .rw[<-FM (l:=r.f0.d6.d4++r.ek.d6.d4) (p:=fun k=>t.d4.any fun n=>decide (n.r0=k)),List.any_append,BE (fun i=>!E6 t r.f0.d6 i) 13]
  .unfold Aaq VE;cases(r.f0.d6.d4.any fun k=>t.d4.any fun n=>decide (n.r0=k))<;>cases(r.ek.d6.d4.any fun k=>t.d4.any fun n=>decide (n.r0=k))<;>cases ns (fun i=>!E6 t r.f0.d6 i) 0 r.f0.d6.d5.length<;>rfl
  .intro i h j _;have F:=ho.left.fit _ (AI h j);rw[AD h j,bs,AD (by omega) (by omega),bs,AD (by omega) (by omega),bs,Y1 hf,bs,FO];rfl
 .intro i h j _;rw[AD h j,bs,show(fun u=>Hn u (AA (r.f0.d6.d4++r.ek.d6.d4) i))=(fun n=>some (decide (n.r0=AA (r.f0.d6.d4++r.ek.d6.d4) i)))from rfl,UC,bs,FO]
theorem ZP(t:AC)(g:d6):IT t g=some (Aaq t g.d4):=by
 unfold IT Aaq;rw[FM,BE (fun i=>t.d4.any fun n=>decide (n.r0=AA g.d4 i)) false]
 .cases ns (fun i=>t.d4.any fun n=>decide (n.r0=AA g.d4 i)) 0 g.d4.length<;>rfl
 .intro i d f _;rw[FM,BE (fun j=>decide ((AA t.d4 j).r0=AA g.d4 i)) false]
  .cases ns (fun j=>decide ((AA t.d4 j).r0=AA g.d4 i)) 0 t.d4.length<;>rfl
  .intro j h u _;rw[AD h u,bs,AD d f,bs,FO]
variable{g:d6}
theorem ml(hf:Au t)(h:Cc g):Mp t g=some (VE t g):=by
 unfold Mp VE;rw[BE (fun i=>!E6 t g i) false]
 .cases ns (fun i=>!E6 t g i) 0 g.d5.length<;>rfl
 .intro i d f _;have j:=h.fit _ (AI d f);rw[AD d f,bs,AD (by omega) (by omega),bs,AD (by omega) (by omega),bs,ZH hf,bs,FO];rfl
theorem p6(hf:Au t)(d:Ez r):LM t s r=some (EA t s r):=by
 unfold LM EA;rw[m7 hf,bs];refine C6 fun h=>?_;rw[fc hf d,bs];refine C6 fun f=>?_;have ho:=(PM f).2;have l1:=d.left.slots;have l2:=d.left.tests;have j:=d.right.slots;have e:IS r=some (Tn r):=by
  unfold IS Tn;rw[Ap (n:=(r.f0.ff.length:Int)+r.ek.ff.length) (by omega) (by omega),Ap (n:=(r.f0.ff.length:Int)+r.ek.ff.length+r.f0.l4.length) (by omega) (by omega)];congr 1;cases r.le
  .simp
  .rw[Bool.eq_iff_iff];simp only[pc,x7,and_true];omega
 rw [e,bs];refine Su fun _=>?_;rw[ZP,bs,ZP,ml hf ho.left];simp only[bs];cases Aaq t r.f0.d6.d4<;>cases Aaq t r.ek.d6.d4<;>cases VE t r.f0.d6<;>rfl
end Go.Sf.Sc
namespace Go.Sf
variable{a b:Int}
theorem UA{ρ:Type}{f:Int->Option (B0 Int ρ)}(p:Int->Bool)(v:ρ)(d:a<=b)(h:∀i,a<=i->i<b->f i=some (if p i=true then .ret v else .next (i+1)))(j:f b=some (.brk b)):ER f a=some (if ns p a b=true then .inr v else .inl b):=by
 rw [PP (c:=fun i=>(if p i=true then some ()else none).map fun _=>.inr v) d]
 .grind[PF,Lx,ns]
 .intro i u w _;rw[h i u w];cases p i<;>rfl
 .exact j
theorem L4{α:Type}{e:α->TV}{n:Nat}{l:List α}(h:TV.Sm (.list n (l.map e))):(l.length:Int)<=140737488351232/\∀x∈l,(e x).Sm:=by
 simp only[TV.Sm,ci]at h;refine⟨by have:=h.1;unfold reachBytes at this;omega,fun x d=>T7.1 h.2 _ (List.mem_map.2 ⟨x,d,rfl⟩)⟩
end Go.Sf
namespace Go.Sf.Sc
open Go Go.Sf
def YI(a:mo):Bool:=(decide (40<(a.og.size:Int))||decide (25<(a.tg.length:Int)))||ns (fun i=>decide (40<((AA a.tg i).size:Int))) 0 a.tg.length
theorem iA{a:mo}(h:YI a=false):US a:=by
 unfold YI at h;simp only[Bool.or_eq_false_iff,decide_eq_false_iff_not,Bp]at h;refine⟨by omega,by omega,fun x d=>?_⟩
 grind [BZ]
variable{t:AC}
theorem Sz(W:(AO t).Sm):∃b,L9 t=some b/\(b=true->Au t):=by
 have N:TV.Sms [_,_]:=W;obtain⟨z,S⟩:=L4 (e:=Dp) N.1;unfold L9;by_cases hl:20<t.d4.length\/30<t.d5.length
 .rw[a6 (by simp;omega)]
  grind
 rw [ae (by simp;omega)];rcases Yg (f:=(fun(D:Int)(U:Int)=>
 (idx t.d4 D).bind fun B=>
 (if(decide (30<(Al (U+(B.tl.length:Int)))))=true then some true else((idx t.d4 D).bind fun H=>
 some (decide (40<(H.og.size:Int))))).bind fun I=>
 if I=true then
 some (B0.ret false)
 else
 AM (ER (ρ:=Bool) (fun(s2:Int)=>
 (idx t.d4 D).bind fun J=>
 if (decide (s2<(J.tl.length:Int)))=true then
 (idx t.d4 D).bind fun K=>
 (idx K.tl s2).bind fun w=>
 if ((decide (40<(w.og.size:Int)))||(decide (25<(w.tg.length:Int))))=true then
 some (.ret false)
 else
 AM (ER (ρ:=Bool) (fun(A:Int)=>
 if (decide (A<(w.tg.length:Int)))=true then
 (idx w.tg A).bind fun L=>
 if (decide (40<(L.size:Int)))=true then
 some (.ret false)
 else
 some (.next (Al (A+1)))
 else
 some (.brk A)) 0) (fun A=>
 some (.next (Al (s2+1)))) (fun Z=>some (.ret Z))
 else
 some (.brk s2)) 0) (fun s2=>
 some (.next (Al (U+(B.tl.length:Int))))) (fun v2=>some (.ret v2))))
  (fun i s=>0<=s/\s<=30/\∀j,0<=j->j<i->((AA t.d4 j).og.size:Int)<=40/\(AA t.d4 j).tl.length<=30/\∀a∈(AA t.d4 j).tl,US a) (fun _=>False) (fun r=>r=false) (a:=0) (b:=t.d4.length) (s:=0) (by omega) ⟨by omega,by omega,fun j C d=>by omega⟩ (fun i s E F hI=>by
   have hx:=S _ (AI (l:=t.d4) E F);have O:TV.Sms [_,_,_,_]:=hx;obtain⟨ha,T⟩:=L4 (e:=GB) O.2.2.2.1;obtain⟨hI1,hI2,hI3⟩:=hI;have hw:Al (s+(AA t.d4 i).tl.length)=s+(AA t.d4 i).tl.length:=Ap (by omega) (by omega);simp only[AD E F,bs,hw,TI];by_cases hc:30<s+(AA t.d4 i).tl.length\/40<((AA t.d4 i).og.size:Int)
   .grind
   rw [ae (by simpa using hc)];rw[UA (fun j=>YI (AA (AA t.d4 i).tl j)) false (b:=(AA t.d4 i).tl.length) (by omega)]
   .cases V:ns (fun j=>YI (AA (AA t.d4 i).tl j)) 0 (AA t.d4 i).tl.length
    .refine .inl ⟨_,rfl,by omega,by omega,fun j M G=>?_⟩
     grind [BZ,iA,Bp]
    .exact .inr (.inr ⟨_,rfl,rfl⟩)
   .intro j M G;rw[a6 (by simpa using G),AD M G,bs];have hy:=T _ (AI (l:=(AA t.d4 i).tl) M G);have Q:TV.Sms [_,_,_,_]:=hy;obtain⟨hm,_⟩:=L4 (e:=eS) Q.2.2.2.1;unfold YI;cases C:(decide (40<((AA (AA t.d4 i).tl j).og.size:Int))||decide (25<((AA (AA t.d4 i).tl j).tg.length:Int)))
    .rw[ae (by decide),UA (fun k=>decide (40<((AA (AA (AA t.d4 i).tl j).tg k).size:Int))) false (b:=(AA (AA t.d4 i).tl j).tg.length) (by omega)]
     .cases ns (fun k=>decide (40<((AA (AA (AA t.d4 i).tl j).tg k).size:Int))) 0 (AA (AA t.d4 i).tl j).tg.length
      .rw[Bool.or_false,Ap (show -9223372036854775808<=j+1 by omega) (by omega)];rfl
      .rfl
     .intro k y u;rw[a6 (by simpa using u),AD y u,bs,Ap (show -9223372036854775808<=k+1 by omega) (by omega),FO]
     .rw[ae (by simp)]
    .rfl
   .rw[ae (by simp)])with⟨s',C,d⟩|⟨r,C,d⟩
 .rw[C];rcases d with d|d
  .rw[Bc,BE (fun i=>decide (40<((AA t.d5 i).og.size:Int))) false]
   .cases V:ns (fun i=>decide (40<((AA t.d5 i).og.size:Int))) 0 t.d5.length
    .refine⟨true,rfl,fun _=>⟨by omega,by omega,fun n z=>?_,fun n z=>?_,fun n z=>?_,fun e he=>?_⟩⟩
     .obtain⟨k,y,u,rfl⟩:=BZ z;exact(d.2.2 k y u).1
     .obtain⟨k,y,u,rfl⟩:=BZ z;exact(d.2.2 k y u).2.1
     .obtain⟨k,y,u,rfl⟩:=BZ z;exact(d.2.2 k y u).2.2
     .obtain⟨k,y,u,rfl⟩:=BZ he;have:=Bp.1 V k y u;simpa using this
    .exact⟨false,rfl,fun h=>by cases h⟩
   .intro i E F _;rw[AD E F,bs,FO]
  .exact d.elim
 .rw[C];subst d;exact⟨false,rfl,fun h=>by cases h⟩
theorem Qk(p:ec):∃b,Ih p=some b/\(b=true->QW p):=by
 refine ⟨_,rfl,fun h=>?_⟩;simp only[pc,x7]at h;exact⟨by omega,by omega,by omega,by omega⟩
variable{a b:Int}
theorem ar(h:0<=a)(d:a<=140737488351232)(j:0<=b)(f:b<=140737488351232):Al (a+b)=a+b:=Ap (by omega) (by omega)
variable{m:d7}
theorem V7(f:(As m).Sm):∃b,Hc m 140=some b/\(b=true->cA m):=by
 have d:TV.Sms [_,_]:=f;have j:=(L4 (e:=eI) d.1).1;have u:=(L4 (e:=eI) d.2.1).1;refine⟨_,rfl,fun h=>?_⟩;rw[ar (by omega) j (by omega) u]at h;simp only[x7]at h;exact⟨by omega,by omega⟩
theorem iJ{m:Ak}(f:(Da m).Sm):∃b,QM m 140=some b/\(b=true->QV m):=by
 have d:TV.Sms [_,_]:=f;have j:=(L4 (e:=eI) d.1).1;have u:=(L4 (e:=eI) d.2.1).1;refine⟨_,rfl,fun h=>?_⟩;rw[ar (by omega) j (by omega) u]at h;simp only[x7]at h;exact⟨by omega,by omega⟩
variable{c:ea}
theorem aX(h:(AH c).Sm):(As c.Map).Sm/\(c.gp.length:Int)<=140737488351232/\∀k∈c.gp,(AH k).Sm:=by
 have f:TV.Sms [_,_,_,_,_,_,_,_,_]:=h;obtain⟨_,d,j,u,_⟩:=f;rw[MS]at d;obtain⟨w,y⟩:=L4 d;exact⟨⟨j,u,trivial⟩,w,y⟩
theorem YX:∀(N:Nat)(c:ea),SizeOf.sizeOf c<=N->(AH c).Sm->∀t1:Int,0<=t1->t1<=1000->∃r,(∀n,N<=n->CW n c t1=some r)/\-1<=r/\r<=t1-1/\(0<=r->DN c)
 |0,c,h,_,_,_,_=>by have:=DV c;omega|N+1,c,h,hs,t1,m0,m1=>by
  obtain ⟨T,U,E⟩:=aX hs;obtain⟨V,H,W⟩:=Qk c.ec;obtain⟨Z,L,f2⟩:=V7 T;have step:∀n,N+1<=n->∃m,n=m+1/\N<=m:=fun n d=>⟨n-1,by omega,by omega⟩;cases V
  .refine⟨-1,fun n d=>?_,by omega,by omega,fun h=>by omega⟩;obtain⟨n,rfl,_⟩:=step n d;rw[CW,H];rfl
  cases Z
  .refine⟨-1,fun n d=>?_,by omega,by omega,fun h=>by omega⟩;obtain⟨n,rfl,_⟩:=step n d;rw[CW,H,bs,L];rfl
  have loop:∀(m:Nat)(k left:Int),0<=k->k+m=c.gp.length->-1<=left->left<=1000->∃f y,(∀n,N<=n->Lj (ρ:=Int) (fun(w:Int×Int)=>
    if ((decide (w.2<(c.gp.length:Int)))&&(decide (0<=w.1)))=true then
    (idx c.gp w.2).bind fun A=>
    (CW n A w.1).bind fun B=>
    some (.next (B,Al (w.2+1)))
    else
    some (.brk (w.1,w.2))) (left,k) (.inl (f,y)))/\-1<=f/\f<=left/\(0<=f->∀j,k<=j->j<c.gp.length->DN (AA c.gp j)):=by
   intro m
   induction m with
   |zero=>
    intro k left F O G l1;refine⟨left,k,fun n d=>.brk ?_,G,by omega,fun _ j C z=>by omega⟩;rw[ae (by simp;omega)]
   |succ m ih=>
    intro k left F O G l1;by_cases Q:0<=left
    .have u:=AI (l:=c.gp) F (by omega);have:=EC u;obtain⟨r,r1,r2,r3,r4⟩:=YX N _ (by omega) (E _ u) left Q l1;obtain⟨f,y,a1,I,M,J⟩:=ih (k+1) r (by omega) (by omega) r2 (by omega);refine⟨f,y,fun n d=>.next (s':=(r,k+1)) ?_ (a1 n d),I,by omega,fun D j C z=>?_⟩
     .rw[a6 (by simp;omega),AD F (by omega),bs,r1 n d,bs,Ap (by omega) (by omega)]
     .by_cases S:j=k
      .subst S;exact r4 (by omega)
      .exact J D j (by omega) z
    .refine⟨left,k,fun n d=>.brk ?_,G,by omega,fun h=>by omega⟩;rw[ae (by simp;omega)]
  obtain ⟨f,y,a1,I,M,J⟩:=loop c.gp.length 0 (t1-1) (by omega) (by omega) (by omega) (by omega);refine⟨f,fun n d=>?_,I,M,fun D=>.mk c (W rfl) (f2 rfl) (fun k E=>?_)⟩
  .obtain⟨n,rfl,K⟩:=step n d;rw[CW,H,bs,L];simp only[bs,Bool.not_true,Bool.false_eq_true,if_false];rw[Ap (n:=t1-1) (by omega) (by omega),(a1 n K).eq,Bc]
  .obtain⟨j,C,z,rfl⟩:=BZ E;exact J D j C z
theorem iH(d:(AH c).Sm):∃b,Ii c=some b/\(b=true->DN c):=by
 obtain ⟨r,f,_,_,j⟩:=YX (SizeOf.sizeOf c) c (az _) d 40 (by omega) (by omega);have e:Oz c 40=some r:=Dw (SizeOf.sizeOf c) f;unfold Ii;rw[e];exact⟨_,rfl,fun h=>j (by simpa using h)⟩
variable{o:K1}
theorem Jy{b:Bool}{c:Bool}(h:o=some c):(if b=true then o.bind fun x=>some x else some false)=some (b&&c):=by
 subst h;cases b<;>rfl
variable{r:em}
theorem iK(d:(Bq r).Sm):∃b,ON r=some b/\(b=true->Ez r):=by
 have f:TV.Sms [_,_,_,_,_,_,_,_,_,_,_,_,_,_,_,_,_,_,_,_,_,_,_,_,_]:=d;obtain⟨_,_,_,_,_,_,_,_,_,_,_,j,u,w,y,_,z,A,c3,B,c5,c6,c7,c8,c9,_⟩:=f;obtain⟨M,C,D⟩:=Qk r.f0;obtain⟨N,E,F⟩:=Qk r.ek;obtain⟨O,G,H⟩:=iJ (m:=r.sr) ⟨j,u,trivial⟩;obtain⟨Q,I,J⟩:=V7 (m:=r.kl) ⟨w,y,trivial⟩;obtain⟨S,K,L⟩:=iH (c:=r.ea) ⟨z,A,c3,B,c5,c6,c7,c8,c9,trivial⟩;unfold ON;rw[Jy C,bs,Jy E,bs,Jy G,bs,Jy I,bs,Jy K,bs];refine⟨_,rfl,fun h=>?_⟩;simp only[pc,x7]at h;exact⟨h.1.1.1.1.1,D h.1.1.1.1.2,F h.1.1.1.2,H h.1.1.2,J h.1.2,L h.2⟩
end Go.Sf.Sc
namespace Go.Sf
variable{a b:Int}
theorem R0{σ ρ:Type}{f:σ×Int->Option (B0 (σ×Int) ρ)}(g:Int->σ){s:σ}(d:a<=b)(j:s=g a)(h:∀i,a<=i->i<b->f (g i,i)=some (.next (g (i+1),i+1)))(u:f (g b,b)=some (.brk (g b,b))):ER f (s,a)=some (.inl (g b,b)):=by
 subst j;have key:∀(n:Nat)(i:Int),a<=i->i+n=b->Lj f (g i,i) (.inl (g b,b)):=by
  intro n
  induction n with
  |zero=>
   intro i _ hi;have:i=b:=by omega
   subst this;exact .brk u
  |succ n y=>
   intro i w z;exact .next (h i w (by omega)) (y (i+1) (by omega) (by omega))
 exact (key (b-a).toNat a (Int.le_refl _) (by omega)).eq
def Ci(q:Int->Bool)(n:Int):Fp:=((List.range n.toNat).map Int.ofNat).filter q
variable{i:Int}
theorem Ij(q:Int->Bool)(h:0<=i):Ci q (i+1)=Ci q i++if q i=true then[i]else[]:=by
 unfold Ci;rw[show(i+1).toNat=i.toNat+1 by omega,List.range_succ,List.map_append,List.filter_append];congr 1;simp only[List.map_cons,List.map_nil,List.filter_cons,List.filter_nil,show Int.ofNat i.toNat=i from Int.toNat_of_nonneg h]
variable{q:Int->Bool}{n x:Int}
theorem H4(h:x∈Ci q n):0<=x/\x<n:=by
 unfold Ci at h;obtain⟨d,_⟩:=List.mem_filter.1 h;obtain⟨k,f,rfl⟩:=List.mem_map.1 d;have:=List.mem_range.1 f;constructor
 .exact Int.natCast_nonneg k
 .show(k:Int)<n;omega
theorem DJ(q:Int->Bool)(n:Int):(Ci q n).length<=n.toNat:=by
 unfold Ci;exact Nat.le_trans (List.length_filter_le _ _) (by simp)
def Ft(n:Int):Fp:=(List.range n.toNat).map Int.ofNat
theorem TF(h:0<=i):Ft (i+1)=Ft i++[i]:=by
 unfold Ft;rw[show(i+1).toNat=i.toNat+1 by omega,List.range_succ,List.map_append];simp only[List.map_cons,List.map_nil,show Int.ofNat i.toNat=i from Int.toNat_of_nonneg h]
theorem J8(n:Int):(Ft n).length=n.toNat:=by simp[Ft]
end Go.Sf
namespace Go.Sf.Sc
open Go Go.Sf
def GD(s:Ao)(g:d6)(sort i:Int):Bool:=decide (AA s.d4 (AA g.d4 i)=sort)
def Jj(s:Ao)(g:d6)(sort i:Int):Bool:=decide (AA s.d5 (AA g.d5 i).kg=sort)
def A7(s:Ao)(g:d6)(sort:Int):Ak:=⟨Ci (GD s g sort) g.d4.length,Ci (Jj s g sort) g.d5.length⟩
structure Sorted(s:Ao)(g:d6):Prop where
 ok:Cc g
 node:∀n∈g.d4,0<=n/\n<s.d4.length
 edge:∀e∈g.d5,0<=e.kg/\e.kg<s.d5.length
variable{t:AC}{s:Ao}{g:d6}
theorem GP(d:Vz t s)(f:Cc g)(h:CQ t g=true):Sorted s g:=by
 have:=Gr f h;refine⟨f,fun n j=>?_,fun e he=>?_⟩
 .rw[d.Aas];exact this.1 n j
 .rw[d.Aaz];exact this.2 e he
theorem Pq(h:Cc g)(d:Int):(A7 s g d).d4.length<=1000/\(A7 s g d).d5.length<=1000:=by
 have:=h.ej;have:=h.fd;have f:=DJ (GD s g d) g.d4.length;have j:=DJ (Jj s g d) g.d5.length;unfold A7;constructor
 .show(Ci (GD s g d) g.d4.length).length<=1000;omega
 .show(Ci (Jj s g d) g.d5.length).length<=1000;omega
theorem WG(h:Sorted s g)(d:Int):Er g s d=some ⟨Ef g (A7 s g d),(A7 s g d).d4,(A7 s g d).d5⟩:=by
 have:=h.ok.ej;have:=h.ok.fd;unfold Er F8;rw[BM (fun i=>Bz.mk ⟨(Ci (GD s g d) i).map (AA g.d4),[]⟩ (Ci (GD s g d) i) []) (by omega) (by rfl),bs,
  BM (fun i=>Bz.mk ⟨(Ci (GD s g d) g.d4.length).map (AA g.d4),(Ci (Jj s g d) i).map fun x=>⟨(AA g.d5 x).kg,Br (Ci (GD s g d) g.d4.length) (AA g.d5 x).kq,Br (Ci (GD s g d) g.d4.length) (AA g.d5 x).To⟩⟩ (Ci (GD s g d) g.d4.length) (Ci (Jj s g d) i)) (by omega) (by rfl)]
 .rfl
 .intro i f j;have u:=h.edge _ (AI f j);have w:=DJ (Jj s g d) i;rw[AD f j,bs];unfold Gw;dsimp only;rw[AD f j,bs,AD u.1 u.2,bs,bs,Ij _ f];change (if Jj s g d i=true then _ else _)=_;cases Jj s g d i
  .simp only[Bool.false_eq_true,if_false,List.append_nil]
  .simp only[if_true,PG,bs];rw[AT (by simp;unfold AW;omega),bs,AT (by simp;unfold AW;omega),bs,List.map_append];rfl
 .intro i f j;have u:=h.node _ (AI f j);have w:=DJ (GD s g d) i;rw[AD f j,bs];unfold Gv;dsimp only;rw[AD f j,bs,AD u.1 u.2,bs,bs,Ij _ f];change (if GD s g d i=true then _ else _)=_;cases GD s g d i
  .simp only[Bool.false_eq_true,if_false,List.append_nil]
  .simp only[if_true];rw[AT (by simp;unfold AW;omega),bs,AT (by simp;unfold AW;omega),bs,List.map_append];rfl
theorem me(h:g.d4.length<=1000/\g.d5.length<=1000):Gp g=some ⟨Ft g.d4.length,Ft g.d5.length⟩:=by
 unfold Gp;rw[BM (fun i=>Ak.mk (Ft i) []) (by omega) (by rfl),bs,BM (fun i=>Ak.mk (Ft g.d4.length) (Ft i)) (by omega) (by rfl)]
 .rfl
 .intro i d f;have:=J8 i;rw[AT (by simp;unfold AW;omega),TF d];rfl
 .intro i d f;have:=J8 i;rw[AT (by simp;unfold AW;omega),TF d];rfl
variable{n:Int}
theorem XL(d:0<=n)(h:n<=1000):G2 0 n=some (Ft n):=by
 unfold G2;rw[BM Ft d (by rfl)]
 .rfl
 .intro i f j;have:=J8 i;rw[show(0:Int)+i=i by omega,Ap (by omega) (by omega),AT (by simp;unfold AW;omega),TF f];rfl
theorem nB(h:g.d4.length<=1000/\g.d5.length<=1000):LN g=some ⟨Ft g.d4.length,Ft g.d5.length⟩:=by
 unfold LN;rw[XL (by omega) (by omega),bs,XL (by omega) (by omega)];rfl
def Qi(k:Int):ea:=⟨k,[],⟨[],[]⟩,⟨⟨[],[]⟩,[],0,[]⟩⟩
def Ny(name:ByteArray)(l r:d6)(into:d7):em:=⟨name,⟨l,[],0,[]⟩,⟨r,[],0,[]⟩,⟨Ft l.d4.length,Ft l.d5.length⟩,into,true,Qi 1⟩
def X5:em:=⟨⟨#[]⟩,⟨⟨[],[]⟩,[],0,[]⟩,⟨⟨[],[]⟩,[],0,[]⟩,⟨[],[]⟩,⟨[],[]⟩,false,Qi 0⟩
theorem fA{l:d6}(h:l.d4.length<=1000/\l.d5.length<=1000)(x:em)(r:d6)(into:d7):Fg x l r into=some (Ny x.og l r into):=by
 unfold Fg;rw[me h];rfl
theorem fX{l:d6}(h:l.d4.length<=1000/\l.d5.length<=1000)(x:em)(r:d6)(into:d7):Kk x l r into=some (Ny x.og l r into):=by
 unfold Kk;rw[nB h];rfl
def FH(a b l:Fp):Fp:=a.map fun i=>Br b (AA l i)
def C5(s:Ao)(r:em)(sort:Int):em:=
 let a:=A7 s r.f0.d6 sort
 let b:=A7 s r.ek.d6 sort
 Ny r.og (Ef r.f0.d6 a) (Ef r.ek.d6 b) ⟨FH a.d4 b.d4 r.kl.d4,FH a.d5 b.d5 r.kl.d5⟩
variable{r:em}
theorem Ks(h:EA t s r=0):Vz t s/\Sb t r/\r.kl.d4.length=r.f0.d6.d4.length/\r.kl.d5.length=r.f0.d6.d5.length:=by
 unfold EA at h;split at h
 .omega
 split at h
 .omega
 split at h
 .cases h
 rename_i z A w;have y:=(Zj (t:=t) (s:=s) (by omega)).2;have d:=(PM (t:=t) (r:=r) (by omega)).2;have f:Tn r=true:=by simpa using w
 unfold Tn at f;simp only[pc,x7]at f;have j:=d.mor.Aas;have u:=d.mor.Aaz;unfold Ef at j u;simp only[ci]at j u;exact⟨y,d,by omega,by omega⟩
theorem QE(g:d6)(p:Ak):(Ef g p).d4.length=p.d4.length/\(Ef g p).d5.length=p.d5.length:=by simp[Ef]
theorem bR(hf:Au t)(y:Ez r)(d:Int):Ho t s r d=some (if EA t s r≠0 then(X5,EA t s r)else(C5 s r d,0)):=by
 unfold Ho;rw[fI hf y,bs];refine Dt fun h=>?_;obtain⟨w,ho,l1,l2⟩:=Ks h;have z:=GP w ho.left ho.Abs;have A:=GP w ho.right ho.AaF;have B:=Pq (s:=s) ho.left d;rw[WG z,bs,WG A,bs];dsimp only;rw[BM (fun i=>d7.mk (FH ((A7 s r.f0.d6 d).d4.take i.toNat) (A7 s r.ek.d6 d).d4 r.kl.d4) []) (by omega) (by simp[FH]),bs,
  BM (fun i=>d7.mk (FH ((A7 s r.f0.d6 d).d4.take (A7 s r.f0.d6 d).d4.length) (A7 s r.ek.d6 d).d4 r.kl.d4) (FH ((A7 s r.f0.d6 d).d5.take i.toNat) (A7 s r.ek.d6 d).d5 r.kl.d5)) (by omega) (by simp[FH]),bs,fA (by rw[(QE _ _).1,(QE _ _).2];exact B)]
 .simp only[Int.toNat_natCast,List.take_length];rfl
 .intro i f j;have u:=H4 (AI (l:=(A7 s r.f0.d6 d).d5) f j);rw[AD f j,bs,AD u.1 (by omega),bs,PG,bs,AT (by simp[FH];unfold AW;omega),bs];unfold FH;rw[DY f j]
 .intro i f j;have u:=H4 (AI (l:=(A7 s r.f0.d6 d).d4) f j);rw[AD f j,bs,AD u.1 (by omega),bs,PG,bs,AT (by simp[FH];unfold AW;omega),bs];unfold FH;rw[DY f j]
end Go.Sf.Sc
namespace Go.Sf.Sc
open Go Go.Sf
def HV(a:Int)(k:Nat):Fp:=(List.range k).map fun(j:Nat)=>a+(j:Int)
theorem Ov(a:Int)(k:Nat):HV a (k+1)=HV a k++[a+k]:=by
 unfold HV;rw[List.range_succ,List.map_append];rfl
theorem QH(a:Int)(k:Nat):(HV a k).length=k:=by simp[HV]
def J7(s:Ao)(r:em)(l:Fp)(i:Int):Bool:=!hasB r.kl.d4 i&&hasB l (AA s.d4 (AA r.ek.d6.d4 i))
def J6(s:Ao)(r:em)(l:Fp)(i:Int):Bool:=!hasB r.kl.d5 i&&hasB l (AA s.d5 (AA r.ek.d6.d5 i).kg)
def Eh(s:Ao)(r:em)(l:Fp):Fp:=Ci (J7 s r l) r.ek.d6.d4.length
def I4(s:Ao)(r:em)(l:Fp):Fp:=Ci (J6 s r l) r.ek.d6.d5.length
def cP(r:em)(into:Fp)(i:Int):BY:=⟨(AA r.ek.d6.d5 i).kg,Br into (AA r.ek.d6.d5 i).kq,Br into (AA r.ek.d6.d5 i).To⟩
def M3(s:Ao)(r:em)(l:Fp):Fp:=r.kl.d4++Eh s r l
def Cj(s:Ao)(r:em)(l:Fp):em:=
 Ny r.og ⟨r.f0.d6.d4++(Eh s r l).map (AA r.ek.d6.d4),r.f0.d6.d5++(I4 s r l).map (cP r (M3 s r l))⟩ r.ek.d6 ⟨M3 s r l,r.kl.d5++I4 s r l⟩
def TZ(s:Ao)(r:em)(l:Fp):Ak:=⟨HV r.f0.d6.d4.length (Eh s r l).length,HV r.f0.d6.d5.length (I4 s r l).length⟩
theorem Tp(l:Fp)(v:Int):slices_Contains_int l v=some (hasB l v):=J0 l v
variable{o:K1}
theorem eX{b:Bool}{c:Bool}(h:o=some c):(if(!b)=true then o else some false)=some (!b&&c):=by
 subst h;cases b<;>rfl
variable{t:AC}{s:Ao}{r:em}
theorem bQ(hf:Au t)(y:Ez r)(l:Fp):D0 t s r l=some (if EA t s r≠0 then(X5,⟨[],[]⟩,EA t s r)else(Cj s r l,TZ s r l,0)):=by
 unfold D0;rw[fI hf y,bs];refine Dt fun h=>?_;obtain⟨A,ho,l1,l2⟩:=Ks h;have u:=ho.left;have w:=GP A ho.right ho.AaF;have B:=u.ej;have C:=u.fd;have D:=ho.right.ej;have E:=ho.right.fd;unfold slices_Clone_int Cq;rw[BI (by unfold AW;omega),bs,BI (by unfold AW;omega),bs,BI (by unfold AW;omega),bs,BI (by unfold AW;omega),bs];rw[BM (fun i=>(d6.mk (r.f0.d6.d4++(Ci (J7 s r l) i).map (AA r.ek.d6.d4)) r.f0.d6.d5,d7.mk (r.kl.d4++Ci (J7 s r l) i) r.kl.d5,Ak.mk (HV r.f0.d6.d4.length (Ci (J7 s r l) i).length) [])) (by omega) (by simp[Ci,HV]),bs,
  BM (fun i=>(d6.mk (r.f0.d6.d4++(Eh s r l).map (AA r.ek.d6.d4)) (r.f0.d6.d5++(Ci (J6 s r l) i).map (cP r (M3 s r l))),d7.mk (M3 s r l) (r.kl.d5++Ci (J6 s r l) i),Ak.mk (HV r.f0.d6.d4.length (Eh s r l).length) (HV r.f0.d6.d5.length (Ci (J6 s r l) i).length))) (by omega) (by simp[Ci,HV,M3,Eh]),bs]
 .have F:=DJ (J7 s r l) r.ek.d6.d4.length;have G:=DJ (J6 s r l) r.ek.d6.d5.length;rw[BI (by unfold AW;omega),bs,BI (by unfold AW;omega),bs,fA (by simp[Eh];omega)];rfl
 .intro i d f;have j:=w.edge _ (AI d f);have z:=DJ (J6 s r l) i;rw[AD d f,bs,Tp,bs,eX (b:=hasB r.kl.d5 i) (c:=hasB l (AA s.d5 (AA r.ek.d6.d5 i).kg)) (by rw[AD j.1 j.2,bs,Tp];rfl),bs,Ij _ d];change (if J6 s r l i=true then _ else _)=_;cases J6 s r l i
  .simp only[Bool.false_eq_true,if_false,List.append_nil]
  .simp only[if_true,PG,bs];rw[AT (by simp[QH];unfold AW;omega),bs,AT (by simp;unfold AW;omega),bs,AT (by simp;unfold AW;omega),bs];simp only[List.map_append,List.map_cons,List.map_nil,bk,ci,ca,List.length_nil,d3,Nat.zero_add,Ov,Int.natCast_add];rfl
 .intro i d f;have j:=w.node _ (AI d f);have z:=DJ (J7 s r l) i;rw[AD d f,bs,Tp,bs,eX (b:=hasB r.kl.d4 i) (c:=hasB l (AA s.d4 (AA r.ek.d6.d4 i))) (by rw[AD j.1 j.2,bs,Tp];rfl),bs,Ij _ d];change (if J7 s r l i=true then _ else _)=_;cases J7 s r l i
  .simp only[Bool.false_eq_true,if_false,List.append_nil]
  .simp only[if_true];rw[AT (by simp[QH];unfold AW;omega),bs,AT (by simp;unfold AW;omega),bs,AT (by simp;unfold AW;omega),bs];simp only[List.map_append,List.map_cons,List.map_nil,bk,ci,ca,List.length_nil,d3,Nat.zero_add,Ov,Int.natCast_add]
theorem gC{α:Type}[Inhabited α][DecidableEq α](l:List α):Ag (ρ:=Bool) (fun(h:Int)(_:Unit)=>
 (idx l h).bind fun d=>
 (idx l h).bind fun f=>
 if (!decide (d=f))=true then
 some (.ret false)
 else
 some (.next ())) 0 (l.length:Int) ()=some (.inl ()):=by
 rw [BE (fun _=>false) false]
 .rw[Bp.2 (fun _ _ _=>rfl)];rfl
 .intro i j u _;rw[AD j u,bs,bs];simp
theorem eN(l:Fp):slices_Equal_int l l=some true:=by
 unfold slices_Equal_int;rw[gC];simp[Bc]
def VA:AC:=⟨[⟨⟨#[67,108,97,115,115]⟩,-1,false,[]⟩,⟨⟨#[65,116,116,114,105,98,117,116,101]⟩,-1,false,[]⟩,⟨⟨#[84,97,98,108,101]⟩,-1,false,[]⟩,⟨⟨#[67,111,108,117,109,110]⟩,-1,false,[]⟩,⟨⟨#[77,97,112]⟩,-1,false,[]⟩],
 [⟨⟨#[104,97,115]⟩,0,1,0,-1,0,-1⟩,⟨⟨#[119,105,116,104]⟩,2,3,0,-1,0,-1⟩,⟨⟨#[111,102,67,108,97,115,115]⟩,4,0,0,-1,0,-1⟩,⟨⟨#[111,102,65,116,116,114,105,98,117,116,101]⟩,4,1,0,-1,0,-1⟩,⟨⟨#[116,111,84,97,98,108,101]⟩,4,2,0,-1,0,-1⟩,⟨⟨#[116,111,67,111,108,117,109,110]⟩,4,3,0,-1,0,-1⟩]⟩
def ak:Ao:=⟨[1,1,3,3,2],[1,3,2,2,2,2]⟩
def YT:em:=⟨⟨#[99,108,97,115,115,101,115]⟩,⟨⟨[],[]⟩,[],0,[]⟩,⟨⟨[0,2,4],[⟨2,2,0⟩,⟨4,2,1⟩]⟩,[],0,[]⟩,⟨[],[]⟩,⟨[],[]⟩,true,Qi 1⟩
theorem om:Lc=some (VA,ak):=rfl
theorem ol:JK=some YT:=rfl
theorem al:Au VA:=by
 have h:∀n∈VA.d4,n.tl=[]:=by decide
 refine ⟨by decide,by decide,by decide,fun n d=>?_,fun n d a f=>?_,by decide⟩
 .rw[h n d];decide
 .rw[h n d]at f;cases f
theorem RH(k:Int):DN (Qi k):=.mk _ ⟨Nat.zero_le _,Nat.zero_le _,Nat.zero_le _,Nat.zero_le _⟩ ⟨Nat.zero_le _,Nat.zero_le _⟩ (fun k d=>by cases d)
theorem aj:Ez YT:=⟨by decide,⟨by decide,by decide,by decide,by decide⟩,⟨by decide,by decide,by decide,by decide⟩,⟨by decide,by decide⟩,⟨by decide,by decide⟩,RH 1⟩
theorem ux:EA VA ak YT=0:=by decide +kernel
theorem rg:JW=some true:=by
 unfold JW Ep EN;rw[om,bs,ol,bs];dsimp only;rw[bR al aj,ux];simp only[bQ al aj,ux,ne_eq,not_true_eq_false,if_false,bs,decide_true,if_true];rw[show(C5 ak YT 1).ek.d6.d4=[0]by decide,show(Cj ak YT [1]).f0.d6.d4=[0]by decide,show(TZ ak YT [1]).d4=[0]by decide,show(Cj ak YT [1]).ek.d6.d4=[0,2,4]by decide,eN];rfl
end Go.Sf.Sc
namespace Go.Sf
variable{a b:Int}
theorem gk{σ ρ:Type}{f:σ->Option (B0 σ ρ)}(g:Int->σ){s:σ}(d:a<=b)(j:s=g a)(h:∀i,a<=i->i<b->f (g i)=some (.next (g (i+1))))(u:f (g b)=some (.brk (g b))):ER f s=some (.inl (g b)):=by
 subst j;have key:∀(n:Nat)(i:Int),a<=i->i+n=b->Lj f (g i) (.inl (g b)):=by
  intro n
  induction n with
  |zero=>
   intro i _ hi;have:i=b:=by omega
   subst this;exact .brk u
  |succ n y=>
   intro i w z;exact .next (h i w (by omega)) (y (i+1) (by omega) (by omega))
 exact (key (b-a).toNat a (Int.le_refl _) (by omega)).eq
end Go.Sf
namespace Go.Sf.Sc
open Go Go.Sf
theorem ay(l:Fp)(v:Int):decide (Br l v<0)=!hasB l v:=by
 cases h:hasB l v
 .have j:¬v∈l:=fun f=>by rw[Bk.2 f]at h;cases h
  unfold Br;cases hf:fst (fun i=>if decide (v=AA l i)=true then some i else none) 0 l.length with
  |none=>rfl|some k=>
   obtain ⟨i,u,w,d,_⟩:=C4 hf;by_cases hv:v=AA l i
   .exact absurd (hv▸AI u w) j
   .rw[ae (by simpa using hv)]at d;cases d
 .have:=(G0 (Bk.1 h)).1;rw[decide_eq_false (by omega)];rfl
variable{g:d6}
theorem ZM(d:g.d4.length<=1000)(f:g.d5.length<=1000):Dx g=some g:=by
 unfold Dx;rw[BI (by unfold AW;omega),bs,BI (by unfold AW;omega)];rfl
variable{t:AC}{s:Ao}{r:em}
theorem m9(h:EA t s r=0)(l:Fp)(a b:Bool)(u:∀x,(((decide (x=1))&&a)||((decide (x=3))&&b))=hasB l x):F4 s r a b=some (Cj s r l,TZ s r l):=by
 unfold F4;obtain⟨A,ho,l1,l2⟩:=Ks h;have w:=ho.left;have y:=GP A ho.right ho.AaF;have B:=w.ej;have C:=w.fd;have D:=ho.right.ej;have E:=ho.right.fd;rw[ZM (by omega) (by omega),bs,BI (by unfold AW;omega),bs,BI (by unfold AW;omega),bs];rw[gk (fun i=>(d6.mk (r.f0.d6.d4++(Ci (J7 s r l) i).map (AA r.ek.d6.d4)) r.f0.d6.d5,d7.mk (r.kl.d4++Ci (J7 s r l) i) r.kl.d5,Ak.mk (HV r.f0.d6.d4.length (Ci (J7 s r l) i).length) [],i)) (a:=0) (b:=r.ek.d6.d4.length) (by omega) (by simp[Ci,HV]),Bc,
  gk (fun i=>(d6.mk (r.f0.d6.d4++(Eh s r l).map (AA r.ek.d6.d4)) (r.f0.d6.d5++(Ci (J6 s r l) i).map (cP r (M3 s r l))),d7.mk (M3 s r l) (r.kl.d5++Ci (J6 s r l) i),Ak.mk (HV r.f0.d6.d4.length (Eh s r l).length) (HV r.f0.d6.d5.length (Ci (J6 s r l) i).length),i)) (a:=0) (b:=r.ek.d6.d5.length) (by omega) (by simp[Ci,HV,M3,Eh]),Bc]
 .have F:=DJ (J7 s r l) r.ek.d6.d4.length;have G:=DJ (J6 s r l) r.ek.d6.d5.length;rw[ZM (by omega) (by omega),bs,fX (by simp[Eh];omega)];rfl
 .intro i d f;have j:=y.edge _ (AI d f);have z:=DJ (J6 s r l) i;dsimp only;rw[a6 (by simpa using f),AD d f,bs,AD j.1 j.2,bs,Mf,bs,ay,u,Ij _ d,Ap (by omega) (by omega)];change (if J6 s r l i=true then _ else _)=_;cases J6 s r l i
  .simp only[Bool.false_eq_true,if_false,List.append_nil]
  .simp only[if_true,Mf,bs];rw[AT (by simp[QH];unfold AW;omega),bs,AT (by simp;unfold AW;omega),bs,AT (by simp;unfold AW;omega),bs];simp only[List.map_append,List.map_cons,List.map_nil,bk,ci,ca,List.length_nil,d3,Nat.zero_add,Ov,Int.natCast_add];rfl
 .rw[ae (by simp)]
 .intro i d f;have j:=y.node _ (AI d f);have z:=DJ (J7 s r l) i;dsimp only;rw[a6 (by simpa using f),AD d f,bs,AD j.1 j.2,bs,Mf,bs,ay,u,Ij _ d,Ap (by omega) (by omega)];change (if J7 s r l i=true then _ else _)=_;cases J7 s r l i
  .simp only[Bool.false_eq_true,if_false,List.append_nil]
  .simp only[if_true,bs];rw[AT (by simp[QH];unfold AW;omega),bs,AT (by simp;unfold AW;omega),bs,AT (by simp;unfold AW;omega),bs];simp only[List.map_append,List.map_cons,List.map_nil,bk,ci,ca,List.length_nil,d3,Nat.zero_add,Ov,Int.natCast_add]
 .rw[ae (by simp)]
theorem vc(x:Int):(((decide (x=1))&&true)||((decide (x=3))&&false))=hasB [1] x:=by simp[hasB]
end Go.Sf.Sc
namespace Go.Sf.Sc
open Go Go.Sf
end Go.Sf.Sc
namespace Go.Sf.Sc
open Go Go.Sf
end Go.Sf.Sc
namespace Go.Sf.Sc
open Go Go.Sf
variable{s:Ao}{g:d6}
theorem Vk(h:Sorted s g)(d:Int):Hi s g d=some (A7 s g d):=by
 have:=h.ok.ej;have:=h.ok.fd;unfold Hi A7;rw[BM (fun i=>Ak.mk (Ci (GD s g d) i) []) (by omega) (by rfl),bs,BM (fun i=>Ak.mk (Ci (GD s g d) g.d4.length) (Ci (Jj s g d) i)) (by omega) (by rfl)]
 .rfl
 .intro i j u;have w:=h.edge _ (AI j u);have y:=DJ (Jj s g d) i;rw[AD j u,bs,AD w.1 w.2,bs,Ij _ j];unfold Jj at y|-;by_cases f:AA s.d5 (AA g.d5 i).kg=d
  .rw[a6 (by simpa using f),a6 (by simpa using f),AT (by simp;unfold AW;omega)];rfl
  .rw[ae (by simpa using f),ae (by simpa using f),List.append_nil]
 .intro i j u;have w:=h.node _ (AI j u);have y:=DJ (GD s g d) i;rw[AD j u,bs,AD w.1 w.2,bs,Ij _ j];unfold GD at y|-;by_cases f:AA s.d4 (AA g.d4 i)=d
  .rw[a6 (by simpa using f),a6 (by simpa using f),AT (by simp;unfold AW;omega)];rfl
  .rw[ae (by simpa using f),ae (by simpa using f),List.append_nil]
theorem ZR(h:Cc g)(d:Int):Kj g (A7 s g d)=some (Ef g (A7 s g d)):=by
 have z:=Pq (s:=s) h d;unfold Kj;rw[Oq z.1 (fun x u=>H4 u),bs];have:=RM (g:=g) (l:=(A7 s g d).d5) z.2 (fun x u=>H4 u) ((A7 s g d).d4.map (AA g.d4)) (fun x=>⟨x.kg,Br (A7 s g d).d4 x.kq,Br (A7 s g d).d4 x.To⟩) (f:=fun j l=>
  (Cl (A7 s g d).d4 j.kq).bind fun w=>
  (Cl (A7 s g d).d4 j.To).bind fun y=>
  Aj l [BY.mk j.kg w y]) (fun x u l A=>by
   rw [Mf,bs,Mf,bs,AT (by simp;unfold AW;omega)])
 simp only[Option.bind_assoc]at this;rw[this];rfl
variable{t:AC}{r:em}
theorem nA(h:EA t s r=0)(d:Int):Mq s r d=some (C5 s r d):=by
 unfold Mq;obtain⟨w,ho,l1,l2⟩:=Ks h;have y:=GP w ho.left ho.Abs;have z:=GP w ho.right ho.AaF;have A:=Pq (s:=s) ho.left d;rw[Vk y,bs,Vk z,bs];rw[R0 (fun i=>d7.mk (FH ((A7 s r.f0.d6 d).d4.take i.toNat) (A7 s r.ek.d6 d).d4 r.kl.d4) []) (b:=(A7 s r.f0.d6 d).d4.length) (by omega) (by simp[FH]),Bc]
 .rw[R0 (fun i=>d7.mk (FH ((A7 s r.f0.d6 d).d4.take (A7 s r.f0.d6 d).d4.length) (A7 s r.ek.d6 d).d4 r.kl.d4) (FH ((A7 s r.f0.d6 d).d5.take i.toNat) (A7 s r.ek.d6 d).d5 r.kl.d5)) (b:=(A7 s r.f0.d6 d).d5.length) (by omega) (by simp[FH]),Bc]
  .rw[ZR ho.left,bs,ZR ho.right,bs,fX (by rw[(QE _ _).1,(QE _ _).2];exact A)];simp only[Int.toNat_natCast,List.take_length];rfl
  .intro i j f;have u:=H4 (AI (l:=(A7 s r.f0.d6 d).d5) j f);rw[a6 (by simpa using f),AD j f,bs,AD u.1 (by omega),bs,Mf,bs,AT (by simp[FH];unfold AW;omega),bs,Ap (by omega) (by omega)];unfold FH;rw[DY j f]
  .rw[ae (by simp)]
 .intro i j f;have u:=H4 (AI (l:=(A7 s r.f0.d6 d).d4) j f);rw[a6 (by simpa using f),AD j f,bs,AD u.1 (by omega),bs,Mf,bs,AT (by simp[FH];unfold AW;omega),bs,Ap (by omega) (by omega)];unfold FH;rw[DY j f]
 .rw[ae (by simp)]
end Go.Sf.Sc
namespace Go.Sf.Sc
open Go Go.Sf
end Go.Sf.Sc
namespace Go.Sf
variable{n i:Int}
theorem eC(d:0<=i)(f:i<n):AA (Ft n) i=i:=by
 unfold Ft;have:((List.range n.toNat).map Int.ofNat)[i.toNat]?=some i:=by
  rw [List.getElem?_map,List.getElem?_range (by omega)];simp;omega
 unfold AA;rw[List.getD_eq_getElem?_getD,this];rfl
variable{x:Int}
theorem mG:x∈Ft n↔0<=x/\x<n:=by
 unfold Ft;rw[List.mem_map];constructor
 .rintro⟨k,d,rfl⟩;have:=List.mem_range.1 d;exact⟨Int.natCast_nonneg k,by show(k:Int)<n;omega⟩
 .rintro⟨f,h⟩;exact⟨x.toNat,List.mem_range.2 (by omega),Int.toNat_of_nonneg f⟩
theorem mJ(n:Int):(Ft n).Pairwise (·<·):=by
 refine QX fun i j d f h=>?_;rw[J8]at h;rw[eC d (by omega),eC (by omega) (by omega)];exact f
theorem nU(q:Int->Bool)(n:Int):(Ci q n).Pairwise (·<·):=(mJ n).filter _
variable{q:Int->Bool}
theorem PH:x∈Ci q n↔(0<=x/\x<n)/\q x=true:=by
 unfold Ci;rw[List.mem_filter];exact and_congr_left fun _=>mG (n:=n)
end Go.Sf
namespace Go.Sf.Sc
open Go Go.Sf
structure LT(g:d6):Prop where
 Aas:g.d4.length<=20
 Aaz:g.d5.length<=20
 node:∀n∈g.d4,0<=n/\n<5
 edge:∀e∈g.d5,(0<=e.kg/\e.kg<6)/\(0<=e.kq/\e.kq<g.d4.length)/\(0<=e.To/\e.To<g.d4.length)/\P6 VA e.kg (AA g.d4 e.kq) (AA g.d4 e.To)=true
variable{g:d6}
theorem LT.e0(h:LT g):Bn g=0:=by
 have:=h.Aas;have:=h.Aaz;unfold Bn;rw[ae (by omega),ae,ae]
 .rw[Bool.not_eq_true,List.any_eq_false];intro e he;have:=h.edge e he;simp[RJ,LZ];omega
 .rw[Bool.not_eq_true,List.any_eq_false];intro n d;have:=h.node n d;simp[LZ];omega
theorem LT.ok(h:LT g):Cc g:=C3 h.e0
theorem am:VA.d4.length=5/\VA.d5.length=6:=⟨rfl,rfl⟩
theorem LT.typed(h:LT g):CQ VA g=true:=by
 unfold CQ;rw[am.1,am.2,pc,Bool.not_eq_true',Bool.not_eq_true',List.any_eq_false,List.any_eq_false];refine⟨fun n d=>?_,fun e he=>?_⟩
 .have:=h.node n d;simp;omega
 .have:=h.edge e he;simp;omega
structure wK(L R:d6)(m:d7):Prop where
 l:LT L
 r:LT R
 Aas:m.d4.length=L.d4.length
 Aaz:m.d5.length=L.d5.length
 node:∀i:Int,0<=i->i<L.d4.length->(0<=AA m.d4 i/\AA m.d4 i<R.d4.length)/\AA R.d4 (AA m.d4 i)=AA L.d4 i
 edge:∀i:Int,0<=i->i<L.d5.length->(0<=AA m.d5 i/\AA m.d5 i<R.d5.length)/\(AA L.d5 i).kg=(AA R.d5 (AA m.d5 i)).kg/\
  AA m.d4 (AA L.d5 i).kq=(AA R.d5 (AA m.d5 i)).kq/\AA m.d4 (AA L.d5 i).To=(AA R.d5 (AA m.d5 i)).To
 nn:m.d4.Nodup
 ne:m.d5.Nodup
variable{i:Int}
theorem LT.fits(h:LT g)(d:0<=i)(f:i<g.d5.length):E6 VA g i=true:=(h.edge _ (AI d f)).2.2.2
end Go.Sf.Sc
namespace Go.Sf
end Go.Sf
namespace Go.Sf.Sc
open Go Go.Sf
theorem LT.nil:LT ⟨[],[]⟩:=⟨by decide,by decide,by simp,by simp⟩
end Go.Sf.Sc
namespace Go.Sf.Sc
open Go Go.Sf
end Go.Sf.Sc
namespace Go.Sf.Sc
open Go Go.Sf
theorem XA{a b:Fp}(d:a.Nodup)(f:b.Nodup)(h:∀x∈b,¬x∈a):(a++b).Nodup:=by
 rw [List.nodup_append];exact⟨d,f,fun x j y u e=>h y u (e▸j)⟩
theorem XU(q:Int->Bool)(n:Int):(Ci q n).Nodup:=(nU q n).imp (fun h=>by omega)
end Go.Sf.Sc
namespace Go.Sf
theorem XB{a b:Fp}(d:a.Nodup)(h:∀x∈a,x∈b):a.length<=b.length:=by
 induction a generalizing b with
 |nil=>exact Nat.zero_le _|cons x a u=>
  rw [List.nodup_cons]at d;have j:=h x (by simp);have:=u (b:=b.erase x) d.2 (fun y f=>(List.mem_erase_of_ne (fun(e:y=x)=>d.1 (by rw[<-e];exact f))).2 (h y (by simp[f])));rw[List.length_erase_of_mem j]at this;have w:0<b.length:=List.length_pos_of_mem j;simp only[ca];omega
end Go.Sf
namespace Go.Sf.Sc
open Go Go.Sf
end Go.Sf.Sc
