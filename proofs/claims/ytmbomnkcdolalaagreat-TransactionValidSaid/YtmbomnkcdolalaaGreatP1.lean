/- Plain lemmas: what the functions of the program and of the reference compute. -/
import Derived.Test.YtmbomnkcdolalaaGreatSfRead
import Derived.Test.YtmbomnkcdolalaaGreatFns
import Derived.Test.YtmbomnkcdolalaaGreatSfPl
set_option linter.all false
set_option maxRecDepth 100000
namespace Go.Sf
theorem VU{ρ τ:Type}{d:Int->Option ρ}{g:ρ->τ}:∀(n:Nat)(a:Int),Ee (fun i=>(d i).map g) n a=(Ee d n a).map g
 |0,_=>rfl|n+1,a=>by
  rw [Ee,Ee];cases d a with
  |some r=>rfl|none=>exact VU n (a+1)
variable{a b:Int}
theorem OQ{ρ τ:Type}{d:Int->Option ρ}{g:ρ->τ}:fst (fun i=>(d i).map g) a b=(fst d a b).map g:=VU _ _
theorem T6{ρ:Type}{d:Int->Option ρ}{r:ρ}:∀{n:Nat}{a:Int},Ee d n a=some r->∃i,a<=i/\i<a+n/\d i=some r/\∀j,a<=j->j<i->d j=none
 |0,_,h=>by cases h
 |n+1,a,h=>by
  rw [Ee]at h;cases hd:d a with
  |some w=>
   grind
  |none=>
   rw [hd]at h;obtain⟨i,f,o,q,u⟩:=T6 h
   grind
theorem C5{ρ:Type}{d:Int->Option ρ}{r:ρ}(h:fst d a b=some r):∃i,a<=i/\i<b/\d i=some r/\∀j,a<=j->j<i->d j=none:=by
 obtain ⟨i,f,o,q,u⟩:=T6 h
 grind
def KY(p:Int->Bool)(s:ByteArray):Int:=(fst (fun i=>if p (bt s i)then none else some i) 0 s.size).getD s.size
theorem SF(p:Int->Bool)(s:ByteArray):0<=KY p s/\KY p s<=s.size/\(∀j,0<=j->j<KY p s->p (bt s j)=true)/\(KY p s<s.size->p (bt s (KY p s))=false):=by
 unfold KY;cases h:fst (fun i=>if p (bt s i)then none else some i) 0 s.size with
 |none=>
  rw [CI]at h
  grind
 |some r=>
  grind [C5,bt,Option.getD]
variable{s:ByteArray}
theorem Xz(h:s≠⟨#[]⟩):0<s.size:=by
 rcases Nat.eq_zero_or_pos s.size with f|f
 .exfalso;apply h;cases s with|mk d=>congr 1;exact Array.eq_empty_of_size_eq_zero f
 .exact f
end Go.Sf
namespace Go.Sf.Sc
open Go Go.Sf
def FG(c:Int):Bool:=((decide (97<=c))&&(decide (c<=122)))||((decide (65<=c))&&(decide (c<=90)))
def Aam(c:Int):Bool:=(decide (48<=c))&&(decide (c<=57))
def PI(c:Int):Bool:=FG c||Aam c||decide (c=95)
theorem XY(c:Int):J8 c=some (FG c):=rfl
theorem U0(c:Int):JT c=some (Aam c):=rfl
theorem Xk(c:Int):Jt c=some (FG c):=rfl
theorem ZH(c:Int):Hs c=some (Aam c):=rfl
theorem mW(c:Int):MY c=some (PI c):=by
 unfold MY PI;rw[XY,bs,U0]
 grind
variable{s:ByteArray}
theorem aL(d:(s.size:Int)<=4611686018427387904){ok:Int->K1}{p:Int->Bool}(h:∀c,ok c=some (p c)):GV s ok=some (KY p s):=by
 unfold GV;rw[Lg (c:=fun i=>(if p (bt s i)then none else some i).map .inl) (a:=0) (b:=s.size) (by omega)]
 .rw[OQ];unfold KY;cases fst (fun i=>if p (bt s i)=true then none else some i) 0 s.size<;>rfl
 .grind[OU,bt,EP,Ao]
 .simp
def Eb(s:ByteArray):Bool:=decide (0<s.size)&&FG (bt s 0)&&decide (s.size<=20)&&decide (KY PI s=s.size)
theorem Uy(l:List ByteArray)(v:ByteArray):∃k,slices_Index_string l v=some k/\(0<=k↔v∈l):=by
 unfold slices_Index_string;rw[BR (fun i=>if(v==AA l i)=true then some i else none)]
 .cases h:fst (fun i=>if(v==AA l i)=true then some i else none) 0 l.length with
  |none=>
   rw [CI]at h;refine⟨-1,rfl,by omega,fun o=>?_⟩
   grind [BW]
  |some k=>
   obtain ⟨i,d,f,q,_⟩:=C5 h;have j:(v==AA l i)=true/\i=k:=by
    grind
   obtain ⟨j,rfl⟩:=j;refine⟨i,rfl,fun _=>?_,fun _=>d⟩
   grind [AK]
 .intro i d f _;simp only[AD d f,bs];split<;>rfl
theorem N3(l:List ByteArray)(v:ByteArray):slices_Contains_string l v=some (l.contains v):=by
 unfold slices_Contains_string;obtain⟨k,d,f⟩:=Uy l v
 grind
theorem mT(z:0<s.size)(w:(s.size:Int)<=4611686018427387904):∃k n e,Hj s=some (k,n,e)/\(((decide (e=0))&&(decide (k=1)))&&(decide (n=(s.size:Int))))=Eb s:=by
 have F:=SF PI s;unfold Hj Eb;simp only[OU (Int.le_refl 0) (show(0:Int)<s.size by omega),bs,XY,U0,aL w mW,aL w U0,z,decide_true,Bool.true_and];by_cases d:FG (bt s 0)=true
 .rw[a6 d];by_cases f:20<KY PI s
  .refine⟨0,0,3,by simp[f],?_⟩;simp[d];intro E h;omega
  .refine⟨1,_,0,by rw[ae (by simpa using f)],?_⟩;simp only[d,decide_true,Bool.true_and];rw[Bool.eq_iff_iff];simp only[zzX,pc];omega
 .rw[ae d];have j:FG (bt s 0)=false:=by simpa using d
  rw [j,Bool.false_and,Bool.false_and];by_cases hd:Aam (bt s 0)=true
  .rw[a6 hd];by_cases x:9<KY Aam s
   .exact⟨0,0,3,by simp[x],by simp⟩
   .exact⟨2,_,0,by rw[ae (by simpa using x)],by simp⟩
  .rw[ae hd];by_cases y:bt s 0=34
   .have A:=WC (s:=s) (a:=1) (b:=s.size) (by omega) (by omega) (by omega);have o:∀c,KQ c=some (((decide (32<=c))&&(decide (c<=126)))&&(!decide (c=34))):=fun _=>rfl;have B:=SF (fun c=>((decide (32<=c))&&(decide (c<=126)))&&(!decide (c=34))) (s.extract (1:Int).toNat (s.size:Int).toNat);have q:∃n e,Fh s=some (n,e):=by
     unfold Fh;rw[Ld (by omega) (by omega) (by omega),bs,aL (by omega) o,bs];rw[Ao (by omega) (by omega)];by_cases he:1+KY (fun c=>((decide (32<=c))&&(decide (c<=126)))&&(!decide (c=34))) (s.extract (1:Int).toNat (s.size:Int).toNat)=s.size
     .refine⟨0,2,?_⟩;simp only[he,decide_true,if_true,bs]
     .simp only[he,decide_false,Bool.false_eq_true,if_false];rw[OU (by omega) (by omega)];simp only[bs];split
      .exact⟨_,_,rfl⟩
      .split
       .exact⟨_,_,rfl⟩
       .exact⟨_,_,rfl⟩
    obtain ⟨n,e,u⟩:=q;refine⟨3,n,e,by rw[a6 (by simpa using y),u];rfl,by simp⟩
   .rw[ae (by simpa using y)];have C:∃b,MW s=some b:=by
     unfold MW;by_cases h:2<=(s.size:Int)
     .rw[a6 (by simpa using h),Ld (by omega) (by omega) h];simp only[bs,N3];exact⟨_,rfl⟩
     .rw[ae (by simpa using h)];exact⟨_,rfl⟩
    obtain ⟨b,D⟩:=C;rw[D,bs];cases b
    .simp only[Bool.false_eq_true,if_false,strings_IndexByte,bs];split
     .exact⟨_,_,_,rfl,rfl⟩
     .exact⟨_,_,_,rfl,rfl⟩
    .exact⟨_,_,_,rfl,rfl⟩
theorem On(d:(s.size:Int)<=4611686018427387904):C8 s=some (Eb s):=by
 unfold C8 Hy;simp only[show decide ((1:Int)=3)=false from rfl,Bool.false_eq_true,if_false,bs];by_cases he:s=⟨#[]⟩
 .subst he;rfl
 grind [mT,Xz]
theorem nA(q:(s.size:Int)<=4611686018427387904)(d:Bool):∃n,Ng s 0 d=some n/\0<=n/\n<=s.size/\(d=false->n=KY PI s):=by
 have h:=SF (fun c=>Aam c||(!d&&(FG c||decide (c=95)))) s;refine⟨KY (fun c=>Aam c||(!d&&(FG c||decide (c=95)))) s,?_,h.1,h.2.1,fun hd=>?_⟩
 .unfold Ng;rw[Lg (c:=fun i=>(if(Aam (bt s i)||(!d&&(FG (bt s i)||decide (bt s i=95))))then none else some i).map .inl) (a:=0) (b:=s.size) (by omega)]
  .rw[OQ];unfold KY;cases fst (fun i=>if(Aam (bt s i)||(!d&&(FG (bt s i)||decide (bt s i=95))))=true then none else some i) 0 s.size<;>rfl
  .intro i o f _;have j:Af (0+i)=i:=by rw[Ao (by omega) (by omega)];omega
   simp only[j,f,decide_true,if_true,OU o f,bs,ZH,Xk]
   grind [Aam,bt,FG,EP,Ao]
  .have j:Af (0+(s.size:Int))=s.size:=by rw[Ao (by omega) (by omega)];omega
   grind
 .subst hd;congr 1
  grind [PI,FG,Aam]
theorem fA(q:0<s.size)(u:(s.size:Int)<=4611686018427387904):∃n,Ju s 0=some n/\(n=0\/(2<=n/\n<=s.size)):=by
 unfold Ju;rw[Lg (c:=fun i=>if decide (bt s i=34)=true then some (Sum.inr (i+1):Int ⊕ Int)else if(decide (bt s i<32)||decide (126<bt s i))=true then some (Sum.inr 0)else none) (a:=1) (b:=s.size) (by omega)]
 .cases h:fst (fun i=>if decide (bt s i=34)=true then some (Sum.inr (i+1):Int ⊕ Int)else if(decide (bt s i<32)||decide (126<bt s i))=true then some (Sum.inr 0)else none) 1 s.size with
  |none=>exact⟨0,rfl,.inl rfl⟩|some r=>
   obtain ⟨i,o,f,d,_⟩:=C5 h;split at d
   .cases d;exact⟨_,rfl,.inr (by omega)⟩
   .split at d
    .cases d;exact⟨_,rfl,.inl rfl⟩
    .cases d
 .intro i o f _;have j:Af (0+i)=i:=by rw[Ao (by omega) (by omega)];omega
  simp only[j,f,decide_true,if_true,OU (show 0<=i by omega) f,bs,Ao (show -9223372036854775808<=i+1 by omega) (by omega)];split
  .rfl
  .split<;>rfl
 .have j:Af (0+(s.size:Int))=s.size:=by rw[Ao (by omega) (by omega)];omega
  grind
theorem qp(O:0<s.size)(Q:(s.size:Int)<=4611686018427387904):∃t n e,Nf s 0=some (t,n,e)/\(((decide (e=0))&&(decide (n=(s.size:Int))))&&(decide (t.mo=1)))=Eb s:=by
 obtain ⟨m,M,u,w,N⟩:=nA Q (Aam (bt s 0));unfold Nf Eb;simp only[OU (Int.le_refl 0) (show(0:Int)<s.size by omega),bs,Xk,ZH,O,decide_true,Bool.true_and,M];have S:Af (0+m)=m:=by rw[Ao (by omega) (by omega)];omega
 by_cases F:FG (bt s 0)=true
 .have hd:Aam (bt s 0)=false:=by
   unfold FG at F;unfold Aam
   grind
  have W:=N hd;subst W;simp only[F,if_true,hd,Bool.false_eq_true,if_false,bs,S];by_cases q:20<KY PI s
  .refine⟨_,_,_,by rw[a6 (by simpa using q)],?_⟩
   grind
  .rw[ae (by simpa using q),Ld (Int.le_refl _) u w];refine⟨_,_,_,rfl,?_⟩
   grind
 .have G:FG (bt s 0)=false:=by simpa using F
  simp only[G,Bool.false_eq_true,if_false,bs,Bool.false_and,S];by_cases hd:Aam (bt s 0)=true
  .simp only[hd,if_true,bs];by_cases T:9<m
   .exact⟨_,_,_,by rw[a6 (by simpa using T)],by simp⟩
   .rw[ae (by simpa using T),Ld (Int.le_refl _) u w];exact⟨_,_,_,rfl,by simp⟩
  .have H:Aam (bt s 0)=false:=by simpa using hd
   simp only[H,Bool.false_eq_true,if_false,bs];by_cases U:bt s 0=34
   .obtain⟨n,hn,y⟩:=fA O Q;rw[a6 (by simpa using U),hn,bs];rcases y with rfl|y
    .grind
    .rw[ae (by simp;omega)];split
     .grind
     .have Z:Af (0+1)=1:=by decide
      have e2:Af (0+n)=n:=by rw[Ao (by omega) (by omega)];omega
      rw [Z,e2,Ao (show -9223372036854775808<=n-1 by omega) (by omega),Ld (by omega) (by omega) (by omega)];exact⟨_,_,_,rfl,by simp⟩
   .rw[ae (by simpa using U)];unfold NA;rw[bs];generalize hL:([(⟨#[45,62]⟩:ByteArray),(⟨#[60,61]⟩:ByteArray),(⟨#[62,61]⟩:ByteArray),(⟨#[61,61]⟩:ByteArray),(⟨#[33,61]⟩:ByteArray),(⟨#[123]⟩:ByteArray),(⟨#[125]⟩:ByteArray),(⟨#[40]⟩:ByteArray),(⟨#[41]⟩:ByteArray),(⟨#[91]⟩:ByteArray),(⟨#[93]⟩:ByteArray),(⟨#[44]⟩:ByteArray),(⟨#[59]⟩:ByteArray),(⟨#[58]⟩:ByteArray),(⟨#[61]⟩:ByteArray),(⟨#[43]⟩:ByteArray),(⟨#[45]⟩:ByteArray),(⟨#[42]⟩:ByteArray),(⟨#[60]⟩:ByteArray),(⟨#[62]⟩:ByteArray),(⟨#[33]⟩:ByteArray),(⟨#[38]⟩:ByteArray),(⟨#[124]⟩:ByteArray),(⟨#[46]⟩:ByteArray),(⟨#[63]⟩:ByteArray)]:List ByteArray)=L;have I:∀x∈L,x.size<=2:=by subst hL;decide
    rcases QN (f:=(fun(h:Int)(V:EH)=>
      (idx L h).bind fun A=>
      (if(decide ((Af (0+(A.size:Int)))<=(s.size:Int)))=true then((idx L h).bind fun B=>
      (AaH s 0 (Af (0+(B.size:Int)))).bind fun C=>
      (idx L h).bind fun D=>
      some (C==D))else some false).bind fun E=>
      if E=true then
      (idx L h).bind fun j=>
      (idx L h).bind fun o=>
      some (Bk.ret (EH.mk 4 j 0,(o.size:Int),(0:Int)))
      else
      some (Bk.next V))) (fun _ s=>True) (fun _=>True) (fun r=>r.1.mo=4) (a:=0) (b:=L.length) (s:=EH.mk 0 (⟨#[]⟩:ByteArray) 0) (by omega) trivial (fun i t d z _=>by
      have hx:=I _ (AK d z);have J:Af (0+((AA L i).size:Int))=(AA L i).size:=by rw[Ao (by omega) (by omega)];omega
      simp only[AD d z,bs,J];by_cases K:((AA L i).size:Int)<=s.size
      .rw[a6 (by simpa using K),Ld (by omega) (by omega) K];simp only[bs];split
       .exact .inr (.inr ⟨_,rfl,rfl⟩)
       .exact .inl ⟨_,rfl,trivial⟩
      .rw[ae (by simpa using K)];simp only[bs];exact .inl ⟨_,rfl,trivial⟩)with⟨s',d,_⟩|⟨r,d,z⟩
    .rw[d];exact⟨_,_,_,rfl,by simp⟩
    .rw[d];exact⟨_,_,_,rfl,by simp[z]⟩
theorem Oo(d:(s.size:Int)<=4611686018427387904):Eu s=some (Eb s):=by
 unfold Eu M9 OF;simp only[show decide ((1:Int)=3)=false from rfl,Bool.false_eq_true,if_false,bs];by_cases he:s=⟨#[]⟩
 .subst he;rfl
 grind [qp,Xz]
end Go.Sf.Sc
namespace Go.Sf
variable{ρ β:Type}
def nz(e:Int):QQ:=if e=0 then none else some e
theorem Kf(e:Int):(if(!decide (e=0))=true then some (Bk.ret e)else some (Bk.next ()))=some (Oc (nz e)):=by grind[nz,Oc]
theorem lf(b:Bool)(r:ρ):(if b=true then some (Bk.ret r)else some (Bk.next ()))=some (Oc (if b=true then some r else none)):=by
 cases b<;>rfl
variable{kr:ρ->Option β}
theorem Bi{σ:Type}{s:σ}{k:σ->Option β}:fq (some (.inl s)) k kr=k s:=rfl
theorem PT{σ:Type}{r:ρ}{k:σ->Option β}:fq (some (.inr r)) k kr=kr r:=rfl
theorem Dd(o:Option ρ)(k:Unit->Option β)(kr:ρ->Option β):fq (some (gY o)) k kr=match o with|none=>k ()|some r=>kr r:=by
 cases o<;>rfl
theorem CG(o:QQ):fq (some (gY o)) (fun _=>some 0) (fun v=>some v)=some (o.getD 0):=by
 cases o<;>rfl
variable{a b:Int}
theorem T7{c:Int->Int}(h:(fst (fun i=>nz (c i)) a b).getD 0=0):∀i,a<=i->i<b->c i=0:=by
 have:fst (fun i=>nz (c i)) a b=none:=by
  cases hf:fst (fun i=>nz (c i)) a b with
  |none=>rfl|some r=>
   grind [Option.getD,C5,nz]
 grind [CI,nz]
variable{e:Int}
theorem Mn:nz e=none↔e=0:=by grind[nz]
theorem TG{α:Type}[Inhabited α]{l:List α}{f:α->K1}{p:α->Bool}(h:∀x∈l,f x=some (p x)):
  (fq (j4 (ρ:=Int) (fun(o:Int)(_:Unit)=>(idx l o).bind fun d=>(f d).bind fun j=>if j=true then some (.ret o)else some (.next ())) 0 (l.length:Int) ()) (fun _=>some (-1)) (fun w=>some w))=
   some ((fst (fun i=>if p (AA l i)=true then some i else none) 0 l.length).getD (-1)):=by
 rw [BR (fun i=>if p (AA l i)=true then some i else none)]
 .rw[Dd];cases fst (fun i=>if p (AA l i)=true then some i else none) 0 l.length<;>rfl
 .intro i q u _;rw[AD q u,bs,h _ (AK q u),bs,lf]
theorem Va{α:Type}[Inhabited α]{l:List α}{p:α->Bool}:decide (0<=(fst (fun i=>if p (AA l i)=true then some i else none) 0 l.length).getD (-1))=l.any p:=by
 rw [HI,og];cases h:fst (fun i=>if p (AA l i)=true then some i else none) 0 l.length with
 |none=>
  grind [CI,Option.isSome,Option.isSome_eq_false_iff,Option.isNone_iff_eq_none,AA]
 |some k=>
  grind [C5,AA,Option.getD,Option.isSome,Option.isSome_iff_ne_none,CI]
theorem Eh{α:Type}[Inhabited α]{l:List α}{f:α->K1}{p:α->Bool}(h:∀x∈l,f x=some (p x)):
  ((fq (j4 (ρ:=Int) (fun(o:Int)(_:Unit)=>(idx l o).bind fun d=>(f d).bind fun j=>if j=true then some (.ret o)else some (.next ())) 0 (l.length:Int) ()) (fun _=>some (-1)) (fun q=>some q)).bind fun u=>some (decide (0<=u)))=some (l.any p):=by
 rw [TG h,bs,Va]
end Go.Sf
namespace Go.Sf.Sc
open Go Go.Sf
instance:Inhabited kp:=⟨⟨⟨#[]⟩,0,0,[]⟩⟩
instance:Inhabited B0:=⟨⟨⟨#[]⟩,0,false,[]⟩⟩
instance:Inhabited B9:=⟨⟨⟨#[]⟩,0,0,0,0,0,0⟩⟩
instance:Inhabited Bf:=⟨⟨0,0,0⟩⟩
instance:Inhabited CT:=⟨⟨0,0,⟨0,0⟩⟩⟩
instance:Inhabited Test:=⟨⟨0,⟨0,0⟩,⟨0,0⟩⟩⟩
instance:Inhabited d6:=⟨⟨0,[],⟨[],[]⟩,⟨⟨[],[]⟩,[],0,[]⟩⟩⟩
variable{l:Fp}
theorem Rc{f:Int->K1}{p:Int->Bool}(h:∀x∈l,f x=some (p x)):Az l f=some (l.any p):=Eh h
theorem Yl{l:List Bf}{f:Bf->K1}{p:Bf->Bool}(h:∀x∈l,f x=some (p x)):BN l f=some (l.any p):=Eh h
theorem Wl{l:List d6}{f:d6->K1}{p:d6->Bool}(h:∀x∈l,f x=some (p x)):Bh l f=some (l.any p):=Eh h
theorem YI{l:List B0}{p:B0->Bool}:B5 l (fun x=>some (p x))=some (l.any p):=Eh (fun _ _=>rfl)
theorem YH{l:List B9}{p:B9->Bool}:B4 l (fun x=>some (p x))=some (l.any p):=Eh (fun _ _=>rfl)
theorem im{l:List kp}{p:kp->Bool}:CR l (fun x=>some (p x))=some (l.any p):=Eh (fun _ _=>rfl)
theorem Wm{p:Int->Bool}:Az l (fun x=>some (p x))=some (l.any p):=Eh (fun _ _=>rfl)
theorem Ym{l:List Bf}{p:Bf->Bool}:BN l (fun x=>some (p x))=some (l.any p):=Eh (fun _ _=>rfl)
theorem Yn{l:List CT}{p:CT->Bool}:CC l (fun x=>some (p x))=some (l.any p):=Eh (fun _ _=>rfl)
theorem lu(l:Fp)(v:Int):slices_Index_int l v=some ((fst (fun i=>if decide (v=AA l i)=true then some i else none) 0 l.length).getD (-1)):=by
 have:=TG (l:=l) (f:=fun x=>some (decide (v=x))) (p:=fun x=>decide (v=x)) (fun _ _=>rfl);unfold slices_Index_int
 grind
theorem Kb(l:Fp)(v:Int):slices_Contains_int l v=some (l.any fun x=>decide (v=x)):=by grind[slices_Contains_int,lu,Va]
theorem ip(l:a5)(v:Bool):Ez l v=some (l.any fun x=>v==x):=by
 have:=Eh (l:=l) (f:=fun x=>some (v==x)) (p:=fun x=>v==x) (fun _ _=>rfl);unfold Ez H6
 grind
structure S6(a:kp):Prop where
 name:(a.pq.size:Int)<=40
 names:a.t5.length<=25
 each:∀x∈a.t5,(x.size:Int)<=40
structure As(t:AC):Prop where
 ec:t.ci.length<=20
 ek:t.d3.length<=30
 name:∀n∈t.ci,(n.pq.size:Int)<=40
 AbW:∀n∈t.ci,n.up.length<=30
 each:∀n∈t.ci,∀a∈n.up,S6 a
 ename:∀e∈t.d3,(e.pq.size:Int)<=40
def par(t:AC)(i:Int):Int:=(AA t.ci i).Aac
def Eo(t:AC)(k:Int):Prop:=∀i,0<=i->i<k->-1<=par t i/\par t i<i
def By(t:AC):Nat->Int->List kp
 |0,_=>[]|n+1,a=>if a<0 then[]else By t n (par t a)++(AA t.ci a).up
def Ay(t:AC)(a:Int):List kp:=By t (a+1).toNat a
variable{t:AC}{a:Int}
theorem Il{n:Nat}(h:a<0):By t n a=[]:=by
 cases n with
 |zero=>rfl|succ n=>rw[By,a6 h]
variable{k:Int}
theorem LS(d:Eo t k):∀(n m:Nat)(a:Int),a<k->a<n->a<m->By t n a=By t m a
 |n,m,a,h,j,o=>by
  by_cases f:a<0
  .grind[Il]
  .cases n with
   |zero=>omega|succ n=>
    cases m with
    |zero=>omega|succ m=>
     rw [By,By,ae f,ae f];have:=d a (by omega) h;rw[LS d n m (par t a) (by omega) (by omega) (by omega)]
theorem Lk(hf:As t)(f:k<=t.ci.length)(d:Eo t k):∀(n:Nat)(a:Int),a<k->((By t n a).length:Int)<=30*n
 |0,_,_=>by simp[By]|n+1,a,h=>by
  rw [By];split
  .simp;omega
  .rename_i j;have o:=d a (by omega) h;have q:=Lk hf f d n (par t a) (by omega);have u:=hf.AbW _ (AK (l:=t.ci) (show 0<=a by omega) (by omega))
   grind
theorem Tn(hf:As t)(h:k<=t.ci.length)(f:Eo t k):∀(n:Nat)(a:Int),a<k->∀x∈By t n a,S6 x
 |0,_,_=>by simp[By]|n+1,a,j=>by
  rw [By];split
  .simp
  .rename_i o;have q:=f a (by omega) j;intro x d;rcases List.mem_append.1 d with d|d
   .exact Tn hf h f n (par t a) (by omega) x d
   .exact hf.each _ (AK (l:=t.ci) (show 0<=a by omega) (by omega)) x d
theorem HL(hf:As t)(d:k<=t.ci.length)(f:Eo t k)(h:a<k):(Ay t a).length<=600:=by
 have:=Lk hf d f (a+1).toNat a h;have:=hf.ec;unfold Ay;omega
theorem Ll(hf:As t)(d:k<=t.ci.length)(f:Eo t k)(h:a<k):∀x∈Ay t a,S6 x:=Tn hf d f _ a h
theorem XU(hf:As t)(j:k<=t.ci.length)(h:Eo t k):∀(n:Nat)(a:Int),0<=a->a<k->a<n->Cz n t a=some (By t n a)
 |0,_,_,_,_=>by omega|n+1,a,q,z,D=>by
  have A:=h a (by omega) z;have u:=Lk hf j h n (par t a) (by omega);have B:=hf.AbW _ (AK (l:=t.ci) q (by omega));have C:=hf.ec;rw[Cz,By,ae (by omega),AD q (by omega)];simp only[bs];show((if decide (0<=par t a)=true then(Cz n t (par t a)).bind fun f=>some f else some []).bind _)=_;have e:(if decide (0<=par t a)=true then(Cz n t (par t a)).bind fun f=>some f else some [])=some (By t n (par t a)):=by
   by_cases o:0<=par t a
   .rw[a6 (by simpa using o),XU hf j h n (par t a) o (by omega) (by omega)];rfl
   .rw[ae (by simpa using o),Il (by omega)]
  have w:(By t n (par t a)).length+(AA t.ci a).up.length<=Ad:=by
   unfold Ad;have:((By t n (par t a)).length:Int)<=30*n:=u;have x:By t n (par t a)=By t 20 (par t a):=by
    by_cases d:par t a<0
    .rw[Il d,Il d]
    .exact LS h n 20 (par t a) (by omega) (by omega) (by omega)
   have y:=Lk hf j h 20 (par t a) (by omega);rw[<-x]at y;omega
  rw [e,bs,Ai w];rfl
theorem Y9(hf:As t)(d:k<=t.ci.length)(f:Eo t k)(h:0<=a)(j:a<k):JU t a=some (Ay t a):=
 EB (a+1).toNat fun n o=>by
  grind [XU,Ay,LS]
theorem Xe(hf:As t)(h:k<=t.ci.length)(f:Eo t k):∀(n:Nat)(a:Int),-1<=a->a<k->a+1<n->Fa n t a=some (By t n a)
 |0,_,_,_,_=>by omega|n+1,a,z,u,A=>by
  rw [Fa,By];by_cases d:a<0
  .grind
  .have w:=f a (by omega) u;have x:=hf.AbW _ (AK (l:=t.ci) (show 0<=a by omega) (by omega));have y:=hf.ec;rw[ae (by simpa using d),ae d,AD (by omega) (by omega)];simp only[bs];have j:By t n (par t a)=By t 20 (par t a):=by
    by_cases d:par t a<0
    .rw[Il d,Il d]
    .exact LS f n 20 (par t a) (by omega) (by omega) (by omega)
   have o:=Lk hf h f 20 (par t a) (by omega);rw[<-j]at o;have q:(By t n (par t a)).length+(AA t.ci a).up.length<=Ad:=by unfold Ad;omega
   rw [show(AA t.ci a).Aac=par t a from rfl,Xe hf h f n (par t a) (by omega) (by omega) (by omega),bs,Ai (by simp;unfold Ad;omega)];simp only[bs,List.nil_append];rw[Ai q];rfl
theorem ZG(hf:As t)(d:k<=t.ci.length)(f:Eo t k)(h:0<=a)(j:a<k):NB t a=some (Ay t a):=
 EB (a+2).toNat fun n o=>by
  grind [Xe,Ay,LS]
end Go.Sf.Sc
namespace Go.Sf.Sc
open Go Go.Sf
def Jr(l:List ByteArray):Int:=
 if (20:Int)<l.length then 3 else(fst (fun i=>if Eb (AA l i)=false then some 2 else if og (fun j=>AA l j==AA l i) 0 i=true then some 5 else none) 0 l.length).getD 0
variable{b:Int}
theorem Wq{l:List ByteArray}{x:ByteArray}(d:0<=b)(f:b<=l.length):(l.take b.toNat).contains x=og (fun j=>AA l j==x) 0 b:=by
 rw [List.contains_eq_any_beq,Od d f]
 grind
theorem jZ{l:List ByteArray}(o:∀x∈l,(x.size:Int)<=40):GX l=some (Jr l):=by
 unfold GX Jr;by_cases d:(20:Int)<l.length
 .grind
 .rw[ae (by simpa using d),ae d];rw[BR (fun i=>if Eb (AA l i)=false then some 2 else if og (fun j=>AA l j==AA l i) 0 i=true then some 5 else none),CG];intro i f h _;have q:=o _ (AK f h);rw[AD f h,bs,On (by omega),bs,LN f (by omega)];simp only[bs,N3,Wq f (show i<=l.length by omega)];cases Eb (AA l i)<;>cases og (fun j=>AA l j==AA l i) 0 i<;>rfl
theorem jr{l:List ByteArray}(o:∀x∈l,(x.size:Int)<=40):Kl l=some (Jr l):=by
 unfold Kl Jr;by_cases d:(20:Int)<l.length
 .grind
 .rw[ae (by simpa using d),ae d];rw[BR (fun i=>if Eb (AA l i)=false then some 2 else if og (fun j=>AA l j==AA l i) 0 i=true then some 5 else none),CG];intro i f h _;have q:=o _ (AK f h);rw[AD f h,bs,Oo (by omega),bs,BM (fun j=>AA l j==AA l i) 5]
  .cases Eb (AA l i)<;>cases og (fun j=>AA l j==AA l i) 0 i<;>rfl
  grind [AD]
def M3(all:List kp)(k:Int):Int:=
 let x:=AA all k
 if Eb x.pq=false then 2 else if og (fun j=>(AA all j).pq==x.pq) 0 k=true then 5 else
 if x.t5.length=0 then(if -1000000<=x.Low/\x.Low<=x.AaD/\x.AaD<=1000000 then 0 else 6)else
 if Jr x.t5≠0 then Jr x.t5 else if x.Low=0/\x.AaD=x.t5.length-1 then 0 else 6
variable{k:Int}
theorem YT{d:List kp}(q:∀x∈d,S6 x)(o:0<=k)(u:k<d.length):D4 (AA d k) (d.take k.toNat)=some (M3 d k):=by
 have j:=q _ (AK o u);have A:=j.name;unfold D4 M3;dsimp only;rw[On (by omega),bs,show(fun f=>H7 f (AA d k))=(fun f=>some (f.pq==(AA d k).pq))from rfl,im,bs,Od o (by omega),jZ j.each,bs];have w:=j.names;have y:Af ((AA d k).t5.length-1)=(AA d k).t5.length-1:=Ao (by omega) (by omega);rw[y];have z:(AA d k).t5.length=0->Jr (AA d k).t5=0:=fun h=>by rw[List.eq_nil_of_length_eq_zero h];rfl
 generalize Jr (AA d k).t5=e at z|-;simp only[bs,zzX,Bool.or_eq_true,pc,Bool.not_eq_true',decide_eq_false_iff_not,Bool.not_eq_false',Bool.or_eq_false_iff,Bool.and_eq_false_iff,ne_eq]
 repeat' (first|rfl|(exfalso;omega;done)|split)
 all_goals (first|rfl|(exfalso;omega)|omega|simp_all|(simp_all;omega))
theorem YV{x:kp}(d:S6 x):HZ x=some (
 if x.t5.length=0 then(if -1000000<=x.Low/\x.Low<=x.AaD/\x.AaD<=1000000 then 0 else 6)else
 if Jr x.t5≠0 then Jr x.t5 else if x.Low=0/\x.AaD=x.t5.length-1 then 0 else 6):=by
 have f:=d.names;have h:Af (x.t5.length-1)=x.t5.length-1:=Ao (by omega) (by omega);unfold HZ DG;simp only[bs,h,jr d.each];generalize Jr x.t5=e;simp only[bs,zzX,Bool.or_eq_true,pc,Bool.not_eq_true',decide_eq_false_iff_not,Bool.not_eq_false',Bool.or_eq_false_iff,Bool.and_eq_false_iff,ne_eq]
 repeat' (first|rfl|(exfalso;omega;done)|split)
 all_goals (first|rfl|(exfalso;omega)|omega|simp_all|(simp_all;omega))
def H5(t:AC)(i:Int):Int:=
 let n:=AA t.ci i
 if Eb n.pq=false then 2 else if og (fun j=>(AA t.ci j).pq==n.pq) 0 i=true then 5 else
 if n.Aac< -1\/i<=n.Aac then 6 else if 4<n.up.length\/8<(Ay t i).length then 3 else
 (fst (fun k=>nz (M3 (Ay t i) k)) ((Ay t i).length-n.up.length) (Ay t i).length).getD 0
variable{t:AC}{i:Int}
theorem Tr(d:0<=i):(AA t.ci i).up.length<=(Ay t i).length:=by
 unfold Ay;rw[show(i+1).toNat=i.toNat+1 by omega,By,ae (by omega),bk];omega
theorem Eo.next(h:Eo t i)(f:-1<=par t i)(o:par t i<i):Eo t (i+1):=by
 intro j d q;by_cases u:j=i
 .grind
 .exact h j d (by omega)
theorem mU(hf:As t)(f:0<=i)(w:i<t.ci.length)(A:Eo t i):Hl t i=some (H5 t i):=by
 have C:=hf.name _ (AK f w);unfold Hl H5;dsimp only;rw[AD f w,bs,On (by omega),bs,LN f (by omega),bs,show(fun q=>Ma q (AA t.ci i))=(fun q=>some (q.pq==(AA t.ci i).pq))from rfl,YI,bs,Od f (by omega)];cases Eb (AA t.ci i).pq
 .rfl
 .cases og (fun j=>(AA t.ci j).pq==(AA t.ci i).pq) 0 i
  .by_cases h:(AA t.ci i).Aac< -1\/i<=(AA t.ci i).Aac
   .rcases h with h|h<;>simp[h]
   .have d:Eo t (i+1):=A.next (by unfold par;omega) (by unfold par;omega)
    have u:(decide ((AA t.ci i).Aac< -1)||decide (i<=(AA t.ci i).Aac))=false:=by
     rw [Bool.eq_false_iff];simpa using h
    rw [Y9 hf (k:=i+1) (by omega) d f (by omega),bs];have y:=HL hf (k:=i+1) (a:=i) (by omega) d (by omega);have z:=Tr (t:=t) f;have o:=Ll hf (k:=i+1) (a:=i) (by omega) d (by omega);rw[Ao (by omega) (by omega),BR (fun k=>nz (M3 (Ay t i) k)),CG]
    .simp only[u,h,Bool.not_true,Bool.false_eq_true,if_false];simp only[bs,zzX,Bool.or_eq_true,pc,Bool.not_eq_true',decide_eq_false_iff_not,Bool.not_eq_false',Bool.or_eq_false_iff,Bool.and_eq_false_iff,ne_eq]
     repeat' (first|rfl|(exfalso;omega;done)|split)
     all_goals (first|rfl|(exfalso;omega)|omega|simp_all|(simp_all;omega))
    .intro k B x _;rw[AD (by omega) x,bs,LN (by omega) (by omega),bs,YT o (by omega) x,bs,Kf]
  .rfl
theorem mz(hf:As t)(h:0<=i)(q:i<t.ci.length)(A:Eo t i):ME t i=some (H5 t i):=by
 have E:=hf.name _ (AK h q);have F:=hf.ec;unfold ME H5 DG;dsimp only;rw[AD h q,bs,Oo (by omega),bs,BM (fun j=>(AA t.ci j).pq==(AA t.ci i).pq) 5]
 .cases Eb (AA t.ci i).pq
  .rfl
  .cases og (fun j=>(AA t.ci j).pq==(AA t.ci i).pq) 0 i
   .simp only[Bool.not_true,Bool.false_eq_true,if_false,Bi,bs];rw[Ao (by omega) (by omega)];by_cases w:(AA t.ci i).Aac< -1\/i<=(AA t.ci i).Aac
    .rw[a6,ae (by decide),a6 w];simp;omega
    .have d:Eo t (i+1):=A.next (by unfold par;omega) (by unfold par;omega)
     rw [ae (by simp;omega),ae (by decide),ae w];rw[ZG hf (k:=i+1) (by omega) d h (by omega),bs];have x:=HL hf (k:=i+1) (a:=i) (by omega) d (by omega);have y:=Tr (t:=t) h;have f:=Ll hf (k:=i+1) (a:=i) (by omega) d (by omega);rw[Ao (by omega) (by omega)];rw[BR (fun k=>nz (M3 (Ay t i) k)),CG]
     .simp only[bs,zzX,Bool.or_eq_true,pc,Bool.not_eq_true',decide_eq_false_iff_not,Bool.not_eq_false',Bool.or_eq_false_iff,Bool.and_eq_false_iff,ne_eq]
      repeat' (first|rfl|(exfalso;omega;done)|split)
      all_goals (first|rfl|(exfalso;omega)|omega|simp_all|(simp_all;omega))
     .intro k u o _;have z:=f _ (AK (show 0<=k by omega) o);have C:=z.name;simp only[AD (show 0<=k by omega) o,bs];rw[Oo (by omega),bs,BM (fun j=>(AA (Ay t i) j).pq==(AA (Ay t i) k).pq) 5]
      .rw[YV z];simp only[bs,Kf];unfold M3;dsimp only;cases Eb (AA (Ay t i) k).pq
       .rfl
       .cases og (fun j=>(AA (Ay t i) j).pq==(AA (Ay t i) k).pq) 0 k<;>rfl
      .intro j B D _;rw[AD B (by omega),bs];split<;>rfl
   .rfl
 .intro j u o _;rw[AD u (by omega),bs];split<;>rfl
def Ln(low high:Int):Bool:=((decide (0<=low))&&(decide (low<=40)))&&((decide (high=(-1)))||((decide (low<=high))&&(decide (high<=40))))
theorem jm(low high:Int):JK low high=some (Ln low high):=by
 unfold JK Ln DG
 grind
def KD(t:AC)(i:Int):Int:=
 let x:=AA t.d3 i
 if Eb x.pq=false then 2 else if og (fun j=>(AA t.d3 j).pq==x.pq) 0 i=true then 5 else
 if (0<=x.ns/\x.ns<t.ci.length)/\(0<=x.To/\x.To<t.ci.length)/\Ln x.Abh x.AaX=true/\Ln x.AbA x.Abf=true then 0 else 6
theorem mK(hf:As t)(d:0<=i)(h:i<t.d3.length):Hk t i=some (KD t i):=by
 have o:=hf.ename _ (AK d h);unfold Hk KD KA;dsimp only;rw[AD d h,bs,On (by omega),bs,LN d (by omega),bs,show(fun f=>MZ f (AA t.d3 i))=(fun f=>some (f.pq==(AA t.d3 i).pq))from rfl,YH,bs,Od d (by omega)];simp only[show∀a b,JF a b=some (Ln a b)from fun _ _=>rfl,bs];generalize Eb (AA t.d3 i).pq=b1;generalize og (fun j=>(AA t.d3 j).pq==(AA t.d3 i).pq) 0 i=b2;generalize Ln (AA t.d3 i).Abh (AA t.d3 i).AaX=b3;generalize Ln (AA t.d3 i).AbA (AA t.d3 i).Abf=b4;cases b1
 .rfl
 grind
theorem mj(hf:As t)(o:0<=i)(q:i<t.d3.length):MD t i=some (KD t i):=by
 have w:=hf.ename _ (AK o q);have x:=hf.ec;unfold MD KD DG;dsimp only;rw[AD o q,bs,Oo (by omega),bs,BM (fun j=>(AA t.d3 j).pq==(AA t.d3 i).pq) 5]
 .simp only[Ao (show -9223372036854775808<=(t.ci.length:Int)-1 by omega) (by omega),jm,bs];generalize Eb (AA t.d3 i).pq=b1;generalize og (fun j=>(AA t.d3 j).pq==(AA t.d3 i).pq) 0 i=b2;generalize Ln (AA t.d3 i).Abh (AA t.d3 i).AaX=b3;generalize Ln (AA t.d3 i).AbA (AA t.d3 i).Abf=b4;cases b1
  .rfl
  .cases b2
   .cases b3<;>cases b4
    all_goals
     by_cases f:0<=(AA t.d3 i).ns/\(AA t.d3 i).ns<t.ci.length
     .have d:(AA t.d3 i).ns<=(t.ci.length:Int)-1:=by omega
      by_cases u:0<=(AA t.d3 i).To/\(AA t.d3 i).To<t.ci.length
      .have h:(AA t.d3 i).To<=(t.ci.length:Int)-1:=by omega
       simp [f,u,d,h,Bi]
      .have:(decide (0<=(AA t.d3 i).To)&&decide ((AA t.d3 i).To<=(t.ci.length:Int)-1))=false:=by rw[Bool.eq_false_iff];simp;omega
       simp [f,u,d,this,Bi]
     .have:(decide (0<=(AA t.d3 i).ns)&&decide ((AA t.d3 i).ns<=(t.ci.length:Int)-1))=false:=by rw[Bool.eq_false_iff];simp;omega
      simp [f,this,Bi]
   .rfl
 grind [AD]
def Av(t:AC):ByteArray×Int:=
 if t.ci.length=0 then(⟨#[]⟩,7)else if 12<t.ci.length\/20<t.d3.length then(⟨#[]⟩,3)else
 match fst (fun i=>(nz (H5 t i)).map fun e=>((AA t.ci i).pq,e)) 0 t.ci.length with
 |some r=>r|none=>(fst (fun i=>(nz (KD t i)).map fun e=>((AA t.d3 i).pq,e)) 0 t.d3.length).getD (⟨#[]⟩,0)
theorem bn(h:H5 t i=0):-1<=par t i/\par t i<i:=by grind[H5,par,AA]
theorem Mm{α β:Type}{o:Option α}{g:α->β}:o.map g=none↔o=none:=by cases o<;>simp
theorem TL(h:∀j,0<=j->j<i->H5 t j=0):Eo t i:=fun j d f=>bn (h j d f)
theorem SZ{ρ:Type}(e:Int)(n:ByteArray):(if(!decide (e=0))=true then some (Bk.ret (n,e))else some (Bk.next ()))=some (Oc ((nz e).map fun e=>(n,e))):=by grind[nz,Oc]
theorem Ms(hf:As t):C1 t=some (Av t):=by
 unfold C1 Av;rw[BR (fun i=>(nz (H5 t i)).map fun e=>((AA t.ci i).pq,e)),Dd]
 .rw[BR (fun i=>(nz (KD t i)).map fun e=>((AA t.d3 i).pq,e)),Dd]
  .cases fst (fun i=>(nz (H5 t i)).map fun e=>((AA t.ci i).pq,e)) 0 t.ci.length<;>cases fst (fun i=>(nz (KD t i)).map fun e=>((AA t.d3 i).pq,e)) 0 t.d3.length
   all_goals dsimp only
   all_goals try simp only[Option.getD]
   all_goals
    simp only[bs,zzX,Bool.or_eq_true,pc,Bool.not_eq_true',decide_eq_false_iff_not,Bool.not_eq_false',Bool.or_eq_false_iff,Bool.and_eq_false_iff,ne_eq]
    repeat' (first|rfl|(exfalso;omega;done)|split)
    all_goals (first|rfl|(exfalso;omega)|omega|simp_all|(simp_all;omega))
  .intro i d f _;rw[AD d f,bs,mK hf d f,bs];exact SZ (ρ:=Unit) _ _
 .intro i d f q;have u:Eo t i:=TL fun j h o=>Mn.1 (Mm.1 (q j h o));rw[AD d f,bs,mU hf d f u,bs];exact SZ (ρ:=Unit) _ _
theorem Mv(hf:As t):EC t=some (Av t):=by
 unfold EC Av;rw[BR (fun i=>(nz (H5 t i)).map fun e=>((AA t.ci i).pq,e)),Dd]
 .rw[BR (fun i=>(nz (KD t i)).map fun e=>((AA t.d3 i).pq,e)),Dd]
  .cases fst (fun i=>(nz (H5 t i)).map fun e=>((AA t.ci i).pq,e)) 0 t.ci.length<;>cases fst (fun i=>(nz (KD t i)).map fun e=>((AA t.d3 i).pq,e)) 0 t.d3.length
   all_goals dsimp only
   all_goals try simp only[Option.getD]
   all_goals
    simp only[bs,zzX,Bool.or_eq_true,pc,Bool.not_eq_true',decide_eq_false_iff_not,Bool.not_eq_false',Bool.or_eq_false_iff,Bool.and_eq_false_iff,ne_eq]
    repeat' (first|rfl|(exfalso;omega;done)|split)
    all_goals (first|rfl|(exfalso;omega)|omega|simp_all|(simp_all;omega))
  .intro i d f _;simp only[mj hf d f,AD d f,bs];exact SZ (ρ:=Unit) _ _
 .intro i d f q;have u:Eo t i:=TL fun j h o=>Mn.1 (Mm.1 (q j h o));simp only[mz hf d f u,AD d f,bs];exact SZ (ρ:=Unit) _ _
end Go.Sf.Sc
namespace Go.Sf.Sc
open Go Go.Sf
theorem Hq{α:Type}{c:Bool}{a b:α}:(if c=true then some a else some b)=some (if c=true then a else b):=by cases c<;>rfl
def M4(n:Int):Bool:=(decide (0<=n))&&(decide (n<=99))
def Rk(e:Bf)(n:Int):Bool:=M4 e.ne&&(decide (0<=e.ns)&&decide (e.ns<n))&&(decide (0<=e.To)&&decide (e.To<n))
def Bt(g:d4):Int:=
 if 40<g.ci.length\/80<g.d3.length then 3 else if(g.ci.any fun n=>!M4 n)=true then 6 else if(g.d3.any fun e=>!Rk e g.ci.length)=true then 6 else 0
structure Di(g:d4):Prop where
 ec:g.ci.length<=40
 ek:g.d3.length<=80
 kind:∀n∈g.ci,0<=n/\n<=99
 fit:∀e∈g.d3,(0<=e.ne/\e.ne<=99)/\(0<=e.ns/\e.ns<g.ci.length)/\(0<=e.To/\e.To<g.ci.length)
variable{g:d4}
theorem DB(h:Bt g=0):Di g:=by
 unfold Bt at h;split at h
 .cases h
 .split at h
  .cases h
  .split at h
   .cases h
   .rename_i o f d;refine⟨by omega,by omega,fun n j=>?_,fun e he=>?_⟩
    .rw[Bool.not_eq_true,List.any_eq_false]at f
     grind [M4]
    .rw[Bool.not_eq_true,List.any_eq_false]at d;have:=d e he;simp only[Rk,M4,Bool.not_eq_true',Bool.not_eq_false,pc,zzX]at this;omega
theorem mO{e:Bf}{n:Nat}(h:n<=40):Lz e n=some (Rk e n):=by
 unfold Lz Gh Rk M4;simp only[bs,Ao (show -9223372036854775808<=(n:Int)-1 by omega) (by omega)];have d:decide (e.ns<=(n:Int)-1)=decide (e.ns<n):=by rw[decide_eq_decide];omega
 have f:decide (e.To<=(n:Int)-1)=decide (e.To<n):=by rw[decide_eq_decide];omega
 rw [d,f];generalize (decide (0<=e.ne)&&decide (e.ne<=99))=b1;generalize (decide (0<=e.ns)&&decide (e.ns<n))=b2;cases b1<;>cases b2<;>simp
theorem LY(g:d4):CU g=some (Bt g):=by
 unfold CU Bt;by_cases h:40<g.ci.length\/80<g.d3.length
 .grind
 .rw[ae (by simp;omega),ae h,show K7=(fun n=>some (!M4 n))from rfl,Wm,Yl (p:=fun e=>!Rk e g.ci.length) (fun e _=>by
   grind [K8,mO])]
  grind
theorem LZ(g:d4):Dg g=some (Bt g):=by
 unfold Dg Bt;by_cases h:40<g.ci.length\/80<g.d3.length
 .grind
 .rw[ae (by simp;omega),ae h,HI,HI,BM (fun i=>!M4 (AA g.ci i)) 6]
  .rw[BM (fun i=>!Rk (AA g.d3 i) g.ci.length) 6]
   .cases og (fun i=>!M4 (AA g.ci i)) 0 g.ci.length
    .cases og (fun i=>!Rk (AA g.d3 i) g.ci.length) 0 g.d3.length<;>rfl
    .rfl
   .intro i d f _;rw[AD d f,bs];unfold NC Rk;simp only[show∀n,KI n=some (M4 n)from fun _=>rfl,bs]
    grind
  grind [AD,KI,AA,M4]
def Ci(t:AC)(g:d4):Bool:=!(g.ci.any fun n=>decide (t.ci.length<=n))&&!(g.d3.any fun e=>decide (t.d3.length<=e.ne))
variable{t:AC}
theorem Hz(d:Di g)(h:Ci t g=true):(∀n∈g.ci,0<=n/\n<t.ci.length)/\∀e∈g.d3,0<=e.ne/\e.ne<t.d3.length:=by
 unfold Ci at h;simp only[pc,Bool.not_eq_true',List.any_eq_false,zzX]at h;refine⟨fun n f=>?_,fun e he=>?_⟩
 .have:=h.1 n f;have:=d.kind n f;omega
 .have:=h.2 e he;have:=d.fit e he;omega
theorem jg(t:AC)(g:d4):Hg t g=some (Ci t g):=by grind[Hg,Ci,MR,Wm,MS,Bf,Ym]
theorem U6(h:Di g):GT t g=some (Ci t g):=by
 unfold GT Ci;rw[HI,HI,BM (fun i=>decide (t.ci.length<=AA g.ci i)) false]
 .rw[BM (fun i=>decide (t.d3.length<=(AA g.d3 i).ne)) false]
  .cases og (fun i=>decide (t.ci.length<=AA g.ci i)) 0 g.ci.length
   .cases og (fun i=>decide (t.d3.length<=(AA g.d3 i).ne)) 0 g.d3.length<;>rfl
   .rfl
  .intro i d f _;have:=(h.fit _ (AK d f)).1.1;simp only[AD d f,bs]
   grind
 .intro i d f _;have:=(h.kind _ (AK d f)).1;simp only[AD d f,bs]
  grind
structure Fm(t:AC):Prop where
 ec:t.ci.length<=12
 ek:t.d3.length<=20
 node:∀i:Int,0<=i->i<t.ci.length->H5 t i=0
 edge:∀i:Int,0<=i->i<t.d3.length->KD t i=0
theorem DU(h:(Av t).2=0):Fm t:=by
 unfold Av at h;split at h
 .cases h
 .split at h
  .cases h
  .rename_i u w;have f:∀i:Int,0<=i->i<t.ci.length->H5 t i=0:=by
    grind [C5,nz,Mn,Mm,CI]
   have he:∀i:Int,0<=i->i<t.d3.length->KD t i=0:=by
    split at h
    .rename_i r d;obtain⟨i,o,q,j,_⟩:=C5 d;rw[f i o q]at j;cases j
    .cases d:fst (fun i=>(nz (KD t i)).map fun e=>((AA t.d3 i).pq,e)) 0 t.d3.length with
     |some r=>
      grind [C5,nz]
     |none=>
      grind [Mn,Mm,CI]
   exact ⟨by omega,by omega,f,he⟩
theorem Fm.par(h:Fm t):Eo t t.ci.length:=TL h.node
variable{i:Int}
theorem Fm.ends(h:Fm t)(d:0<=i)(f:i<t.d3.length):(0<=(AA t.d3 i).ns/\(AA t.d3 i).ns<t.ci.length)/\(0<=(AA t.d3 i).To/\(AA t.d3 i).To<t.ci.length):=by
 have:=h.edge i d f
 grind [KD]
def JY(t:AC)(a:Int):Bool:=decide (0<=a)&&decide (a<t.ci.length)
variable{a:Int}
theorem LU:JY t a=true↔0<=a/\a<t.ci.length:=by unfold JY;simp
theorem U1(hf:As t)(l:Fp):El t l=some (if(Av t).2≠0 then(Av t).2 else if(l.all (JY t))=true then 0 else 6):=by
 unfold El;rw[Ms hf,bs,Rc (p:=fun a=>!JY t a) (fun a _=>by unfold LF JY;rw[show decide (a<0)=!decide (0<=a)from by rw[<-decide_not,decide_eq_decide];omega,show decide ((t.ci.length:Int)<=a)=!decide (a<t.ci.length)from by rw[<-decide_not,decide_eq_decide];omega,Bool.not_and]),bs]
 grind
theorem ZI(hf:As t)(a b:Int):JL t a b=some (if(Av t).2≠0 then(Av t).2 else if(JY t a&&JY t b)=true then 0 else 6):=by
 have d:=hf.ec;have e:∀a,decide (a<=(t.ci.length:Int)-1)=decide (a<(t.ci.length:Int)):=fun a=>by rw[decide_eq_decide];omega
 unfold JL DG;rw[Mv hf,bs]
 grind [Ao,Av,JY]
theorem dA{α:Type}[Inhabited α]{l:List α}(d:0<=i)(f:i<l.length):BI l i (AA l i)=l:=by grind[BI,AA,List.getElem?_eq_getElem,List.set_getElem_self]
theorem Ch{α:Type}[Inhabited α]{l:List α}(d:0<=i)(f:i<l.length):l.take (i+1).toNat=l.take i.toNat++[AA l i]:=by
 unfold AA;rw[show(i+1).toNat=i.toNat+1 by omega,List.take_add_one,List.getD_eq_getElem?_getD,List.getElem?_eq_getElem (by omega)];rfl
theorem BD{α:Type}{l:List α}(h:l.length<=Ad):Ag [] l=some l:=by grind[Ai]
def F7(t:AC)(a:Int):List kp×Int:=if(Av t).2≠0 then([],(Av t).2)else if JY t a=true then(Ay t a,0)else([],6)
theorem Pq(hf:As t)(a:Int):Dh t a=some (F7 t a):=by
 unfold Dh F7;rw[U1 hf,bs];by_cases h:(Av t).2=0
 .have j:=DU h;have e:[a].all (JY t)=JY t a:=by simp
  rw [e];simp only[h,ne_eq,not_true_eq_false,if_false];cases hi:JY t a
  .rfl
  .rw[a6 rfl,a6 rfl];have o:=LU.1 hi;have D:=HL hf (Int.le_refl _) j.par o.2;have B:=Ll hf (Int.le_refl _) j.par o.2;rw[ae (by decide),Y9 hf (Int.le_refl _) j.par o.1 o.2,bs];obtain⟨s',C,rfl⟩:=QM (f:=(fun(q:Int)(u:List kp)=>
 (idx u q).bind fun w=>
 (slices_Clone_string w.t5).bind fun x=>
 (idx u q).bind fun d=>
 some (BI u q (kp.mk d.pq d.Low d.AaD x)))) (fun _ s=>s=Ay t a) (a:=0) (b:=(Ay t a).length) (s:=Ay t a) (by omega) rfl (fun i s y z A=>by
     subst A;have:=(B _ (AK y z)).names;refine⟨Ay t a,?_,rfl⟩;unfold slices_Clone_string;rw[AD y z,bs,BD (by unfold Ad;omega),bs,bs];congr 1;exact dA y z)
   rw [C];rfl
 .simp only[h,ne_eq,not_false_eq_true,if_true,decide_false,Bool.not_false]
theorem Ps(hf:As t)(a:Int):FQ t a=some (F7 t a):=by
 unfold FQ F7;rw[ZI hf,bs];by_cases h:(Av t).2=0
 .have d:=DU h;rw[Bool.and_self];simp only[h,ne_eq,not_true_eq_false,if_false];cases hi:JY t a
  .rfl
  .rw[a6 rfl,a6 rfl];have f:=LU.1 hi;have u:=HL hf (Int.le_refl _) d.par f.2;have q:=Ll hf (Int.le_refl _) d.par f.2;rw[ae (by decide),ZG hf (Int.le_refl _) d.par f.1 f.2,bs];rw[B1 (fun i=>(Ay t a).take i.toNat) (by omega) (by simp)]
   .rw[bs,Int.toNat_natCast,List.take_length]
   .intro i j o;have:=(q _ (AK j o)).names;rw[AD j o,bs,BD (by unfold Ad;omega),bs,Ai (by rw[cE];simp;unfold Ad;omega),Ch j o];rfl
 grind
end Go.Sf.Sc
namespace Go.Sf.Sc
open Go Go.Sf
def Ow(t:AC):Nat->Int->Fp
 |0,_=>[]|n+1,a=>if a<0 then[]else a::Ow t n (par t a)
theorem ZY(t:AC):∀(n:Nat)(a:Int),(Ow t n a).length<=n
 |0,_=>by simp[Ow]|n+1,a=>by
  rw [Ow];split
  .simp
  .have:=ZY t n (par t a);simp;omega
def IX(t:AC)(a b:Int):Bool:=(Ow t (a+1).toNat a).any fun x=>decide (b=x)
variable{t:AC}
theorem Y2(f:t.ci.length<=12)(q:Eo t t.ci.length):∀(n:Nat)(a:Int)(l:Fp),a<t.ci.length->a<n->l.length+n<=1000 ->
  ∃x,LI (ρ:=Fp) (fun(d:Int×Fp)=>
 if (decide (0<=d.1))=true then
 (Ag d.2 [d.1]).bind fun h=>
 (idx t.ci d.1).bind fun j=>
 some (.next (j.Aac,h))
 else
 some (.brk (d.1,d.2))) (a,l) (.inl (x,l++Ow t n a))
 |0,a,l,o,u,_=>by
  refine ⟨a,.brk ?_⟩
  grind [Ow]
 |n+1,a,l,o,u,A=>by
  by_cases w:a<0
  .refine⟨a,.brk ?_⟩
   grind [Ow]
  .have y:=q a (by omega) o;obtain⟨x,z⟩:=Y2 f q n (par t a) (l++[a]) (by omega) (by omega) (by simp;omega);refine⟨x,.next (s':=(par t a,l++[a])) ?_ ?_⟩
   .rw[a6 (by simp;omega),Ai (by simp;unfold Ad;omega),bs,AD (by omega) o];rfl
   grind [Ow,par]
variable{a b:Int}
theorem eh(h:Fm t)(o:0<=a)(d:a<t.ci.length):H0 t a b=some (IX t a b):=by
 have f:=h.ec;obtain⟨x,j⟩:=Y2 f h.par (a+1).toNat a [] d (by omega) (by simp;omega);have q:=ZY t (a+1).toNat a;unfold H0 I1;rw[j.eq,Bi]
 grind [slices_Reverse_int,Ad,Kb,IX]
theorem Xg(d:Eo t t.ci.length)(j:0<=b):∀(n m:Nat)(a:Int),-1<=a->a<t.ci.length->a+1<n->a<m->E5 n t a b=some ((Ow t m a).any fun x=>decide (b=x))
 |0,_,_,_,_,_,_=>by omega|n+1,m,a,q,h,u,w=>by
  rw [E5];by_cases f:a<0
  .rw[ae (by simp;omega),ae (by simp;omega)];cases m<;>simp[Ow,f]
  .cases m with
   |zero=>omega|succ m=>
    have o:=d a (by omega) h;rw[Ow,ae f,List.any_cons,a6 (show decide (0<=a)=true by simp;omega),AD (by omega) h];simp only[bs];rw[show(AA t.ci a).Aac=par t a from rfl,Xg d j n m (par t a) (by omega) (by omega) (by omega) (by omega)]
    grind
theorem Sh(h:Fm t)(j:0<=a)(d:a<t.ci.length)(f:0<=b):Gk t a b=some (IX t a b):=
 EB (a+2).toNat fun n o=>Xg h.par f n (a+1).toNat a (by omega) d (by omega) (by omega)
def QL(t:AC)(e f g:Int):Bool:=
 decide ((Av t).2=0)&&(JY t f&&JY t g)&&(decide (0<=e)&&decide (e<t.d3.length))&&(IX t f (AA t.d3 e).ns&&IX t g (AA t.d3 e).To)
theorem bz(hf:As t)(e f g:Int):GN t e f g=some (QL t e f g):=by
 unfold GN QL;rw[U1 hf,bs,show[f,g].all (JY t)=(JY t f&&JY t g)by simp];by_cases h:(Av t).2=0
 .simp only[h,ne_eq,not_true_eq_false,if_false];have d:=DU h;cases hi:(JY t f&&JY t g)
  .rfl
  .rw[pc,LU,LU]at hi;by_cases he:0<=e/\e<t.d3.length
   .rw[ae (by simp;omega),AD he.1 he.2];simp only[bs,eh d hi.1.1 hi.1.2,eh d hi.2.1 hi.2.2,he.1,he.2,decide_true,Bool.true_and]
    grind
   grind
 .simp[h]
theorem cL(hf:As t)(e f g:Int):KH t e f g=some (QL t e f g):=by
 have u:=hf.ek;unfold KH QL DG;rw[ZI hf,bs];by_cases h:(Av t).2=0
 .simp only[h,ne_eq,not_true_eq_false,if_false];have d:=DU h;cases hi:(JY t f&&JY t g)
  .rfl
  .rw[pc,LU,LU]at hi;rw[Ao (by omega) (by omega)];simp only[bs];by_cases he:0<=e/\e<t.d3.length
   .have j:=d.ends he.1 he.2;have o:e<=(t.d3.length:Int)-1:=by omega
    rw [ae (by simp),bs,ae (by simp[he.1,o]),AD he.1 he.2];simp only[bs,Sh d hi.1.1 hi.1.2 j.1.1,Sh d hi.2.1 hi.2.2 j.2.1,he.1,he.2,decide_true,Bool.true_and];cases IX t f (AA t.d3 e).ns<;>rfl
   .have:(decide (0<=e)&&decide (e<t.d3.length))=false:=by rw[Bool.eq_false_iff];simpa using he
    have q:(decide (0<=e)&&decide (e<=(t.d3.length:Int)-1))=false:=by rw[Bool.eq_false_iff];simp;omega
    rw [this,q];simp
 .simp[h]
def MV(n:Int)(x:j0):Bool:=(((decide ((-1)<=x.Var))&&(decide (x.Var<n)))&&(decide ((-1000000)<=x.Add)))&&(decide (x.Add<=1000000))
def NR(n:Int)(x:Test):Int:=if¬x.mo=1/\¬x.mo=2 then 1 else if(MV n x.kl&&MV n x.em)=true then 0 else 6
def JE(n:Int)(l:List Test):Int:=if n<0\/12<n then 6 else if 40<l.length then 3 else(fst (fun i=>nz (NR n (AA l i))) 0 l.length).getD 0
theorem mZ(n:Int)(x:Test):IE n x=some (NR n x):=by
 unfold IE NR;simp only[show∀n x,HO n x=some (MV n x)from fun _ _=>rfl,bs];generalize MV n x.kl=b1;generalize MV n x.em=b2;cases b1<;>cases b2
 all_goals
  simp only[bs,zzX,Bool.or_eq_true,pc,Bool.not_eq_true',decide_eq_false_iff_not,Bool.not_eq_false',Bool.or_eq_false_iff,Bool.and_eq_false_iff,ne_eq]
  repeat' (first|rfl|(exfalso;omega;done)|split)
  all_goals (first|rfl|(exfalso;omega)|omega|simp_all|(simp_all;omega))
theorem fD(n:Int)(x:j0):IK n x=some (if MV n x=true then 0 else 6):=by
 unfold IK MV;simp only[bs,zzX,Bool.or_eq_true,pc,Bool.not_eq_true',decide_eq_false_iff_not,Bool.not_eq_false',Bool.or_eq_false_iff,Bool.and_eq_false_iff,ne_eq]
 repeat' (first|rfl|(exfalso;omega;done)|split)
 all_goals (first|rfl|(exfalso;omega)|omega|simp_all|(simp_all;omega))
theorem nE(n:Int)(x:Test):Nh n x=some (NR n x):=by
 unfold Nh NR;simp only[fD,bs];generalize MV n x.kl=b1;generalize MV n x.em=b2;cases b1<;>cases b2
 all_goals
  simp only[bs,zzX,Bool.or_eq_true,pc,Bool.not_eq_true',decide_eq_false_iff_not,Bool.not_eq_false',Bool.or_eq_false_iff,Bool.and_eq_false_iff,ne_eq]
  repeat' (first|rfl|(exfalso;omega;done)|split)
  all_goals (first|rfl|(exfalso;omega)|omega|simp_all|(simp_all;omega))
theorem jf(n:Int)(l:List Test):Gg n l=some (JE n l):=by
 unfold Gg JE;rw[BR (fun i=>nz (NR n (AA l i))),CG]
 .simp only[bs,zzX,Bool.or_eq_true,pc,Bool.not_eq_true',decide_eq_false_iff_not,Bool.not_eq_false',Bool.or_eq_false_iff,Bool.and_eq_false_iff,ne_eq]
  repeat' (first|rfl|(exfalso;omega;done)|split)
  all_goals (first|rfl|(exfalso;omega)|omega|simp_all|(simp_all;omega))
 .intro i d f _;rw[AD d f,bs,mZ,bs,Kf]
theorem jx(n:Int)(l:List Test):Kk n l=some (JE n l):=by
 unfold Kk JE;rw[BR (fun i=>nz (NR n (AA l i))),CG]
 .simp only[bs,zzX,Bool.or_eq_true,pc,Bool.not_eq_true',decide_eq_false_iff_not,Bool.not_eq_false',Bool.or_eq_false_iff,Bool.and_eq_false_iff,ne_eq]
  repeat' (first|rfl|(exfalso;omega;done)|split)
  all_goals (first|rfl|(exfalso;omega)|omega|simp_all|(simp_all;omega))
 .intro i d f _;rw[AD d f,bs,nE,bs,Kf]
def QC(t:AC)(p:ea)(node ix:Int):kp×Bool:=
 if node<0\/p.d4.ci.length<=node then(default,false)else
 let l:=(F7 t (AA p.d4.ci node)).1
 if ix<0\/l.length<=ix then(default,false)else(AA l ix,true)
theorem Tq(hf:As t)(a:Int):(F7 t a).1.length<=600/\((F7 t a).2≠0->(F7 t a).1=[]):=by
 unfold F7;split
 .simp
 .rename_i h;have d:=DU (t:=t) (by omega);split
  .rename_i hi;exact⟨HL hf (Int.le_refl _) d.par (LU.1 hi).2,by simp⟩
  .simp
variable{p:ea}
theorem jS(hf:As t)(d:Di p.d4)(s:CT):EW t p s=some (QC t p s.tl s.kp):=by
 have j:=d.ec;unfold EW QC CQ;dsimp only;rw[Ao (by omega) (by omega),bs];by_cases h:s.tl<0\/p.d4.ci.length<=s.tl
 .rw[a6 (by simp;omega),a6 h];rfl
 .rw[ae (by simp;omega),ae h,AD (by omega) (by omega),bs,Pq hf,bs];have o:=(Tq hf (AA p.d4.ci s.tl)).1;rw[Ao (by omega) (by omega),bs];by_cases f:s.kp<0\/(F7 t (AA p.d4.ci s.tl)).1.length<=s.kp
  .rw[a6 (by simp;omega),a6 f];rfl
  grind [AD]
theorem jk(hf:As t)(node d:Int):MI t p node d=some (QC t p node d):=by
 unfold MI QC;dsimp only;by_cases h:node<0\/p.d4.ci.length<=node
 .rw[a6 (by simp;omega),a6 h];rfl
 .rw[ae (by simp;omega),ae h,AD (by omega) (by omega),bs,Ps hf,bs];have j:=(Tq hf (AA p.d4.ci node)).2;by_cases f:d<0\/(F7 t (AA p.d4.ci node)).1.length<=d
  .rw[a6 (by simp;omega),a6 f];rfl
  grind [F7,AA,AD]
end Go.Sf.Sc
namespace Go.Sf
variable{σ ρ:Type}
def dG(s:σ)(o:Option ρ):Bk σ ρ:=match o with
 |none=>.next s|some r=>.ret r
def iK(s:σ)(o:Option ρ):σ ⊕ ρ:=match o with
 |none=>.inl s|some r=>.inr r
theorem W8{f:Int->σ->Option (Bk σ ρ)}(g:Int->σ)(c:Int->Option ρ):∀(n:Nat)(a:Int),
  (∀i,a<=i->i<a+n->(∀j,a<=j->j<i->c j=none)->f i (g i)=some (dG (g (i+1)) (c i)))->Aae f n a (g a)=some (iK (g (a+n)) (Ee c n a))
 |0,a,_=>by simp[Aae,Ee,iK]|n+1,a,h=>by
  have q:=h a (Int.le_refl _) (by omega) (fun j d o=>by omega);rw[FN,q,Ee];cases y:c a with
  |some r=>rfl|none=>
   simp only[dG];rw[show a+((n+1:Nat):Int)=a+1+n by omega];refine W8 g c n (a+1) (fun i d o u=>h i (by omega) (by omega) (fun j w x=>?_))
   grind
variable{a b:Int}
theorem JI{f:Int->σ->Option (Bk σ ρ)}(g:Int->σ)(c:Int->Option ρ){s:σ}(d:a<=b)(o:s=g a)(h:∀i,a<=i->i<b->(∀j,a<=j->j<i->c j=none)->f i (g i)=some (dG (g (i+1)) (c i))):j4 f a b s=some (iK (g b) (fst c a b)):=by
 subst o;unfold j4 fst;have:=W8 g c (b-a).toNat a (fun i q w u=>h i q (by omega) u)
 grind
variable{α:Type}
variable{e:Int}
theorem DC{X:QQ}{Y:Int}(h:e=0->X=some Y):(if(!decide (e=0))=true then some e else X)=some (if e≠0 then e else Y):=by grind
variable{v:α}{X:Option α}{Y:α}
theorem Ef(h:e=0->X=some Y):(if(!decide (e=0))=true then some v else X)=some (if e≠0 then v else Y):=by grind
variable{P:Prop}
theorem Ka[Decidable P]{b:Bool}(d:b=true↔P)(h:¬P->X=some Y):(if b=true then some v else X)=some (if P then v else Y):=by grind
theorem Tv{b:Bool}(h:b=true->X=some Y):(if(!b)=true then some v else X)=some (if b=false then v else Y):=by grind
theorem Wn{b:Bool}(h:b=false->X=some Y):(if b=true then some v else X)=some (if b=true then v else Y):=by grind
end Go.Sf
namespace Go.Sf.Sc
open Go Go.Sf
def QD(t:AC)(p:ea)(s:CT):Bool:=!(QC t p s.tl s.kp).2||decide (s.j0.Var< -1)||decide (p.gt<=s.j0.Var)||(decide (s.j0.Add< -1000000)||decide (1000000<s.j0.Add))
def Js(p:ea)(v:Int):Bool:=p.ff.any fun s=>decide (s.j0.Var=v)
def Gz(t:AC)(p:ea):Int:=
 if (Av t).2≠0 then(Av t).2 else if Bt p.d4≠0 then Bt p.d4 else if Ci t p.d4=false then 13 else
 if p.gt<0\/12<p.gt then 6 else if 10<p.ff.length\/10<p.sr.length then 3 else
 if (p.ff.any (QD t p))=true then 6 else if JE p.gt p.sr≠0 then JE p.gt p.sr else
 if og (fun v=>!Js p v) 0 p.gt=true then 9 else 0
def I2(p:ea)(i:Int):a5:=(List.range p.gt.toNat).map fun(v:Nat)=>(p.ff.take i.toNat).any fun s=>decide (s.j0.Var=(v:Int))
variable{p:ea}
theorem aw:I2 p 0=List.replicate p.gt.toNat false:=by
 unfold I2;refine List.ext_getElem (by simp) (fun n d f=>by simp)
theorem da(p:ea)(i:Int):(I2 p i).length=p.gt.toNat:=by simp[I2]
variable{i:Int}
theorem db(d:0<=i)(f:i<p.ff.length)(hv:0<=(AA p.ff i).j0.Var):BI (I2 p i) (AA p.ff i).j0.Var true=I2 p (i+1):=by
 unfold BI;refine List.ext_getElem (by simp[I2]) (fun n h j=>?_);simp only[I2,List.getElem_set,List.getElem_map,List.getElem_range,Ch d f,List.any_append,List.any_cons,List.any_nil,Bool.or_false]
 grind
theorem av(d:0<=i)(f:i<p.ff.length)(hv:(AA p.ff i).j0.Var<0):I2 p i=I2 p (i+1):=by
 refine List.ext_getElem (by simp[I2]) (fun n h j=>?_);simp only[I2,List.getElem_map,List.getElem_range,Ch d f,List.any_append,List.any_cons,List.any_nil,Bool.or_false]
 grind
theorem dZ(p:ea):((I2 p p.ff.length).any fun x=>false==x)=og (fun v=>!Js p v) 0 p.gt:=by
 rw [Bool.eq_iff_iff,List.any_eq_true,Dt];simp only[I2,Int.toNat_natCast,List.take_length,List.mem_map,List.mem_range];constructor
 .rintro⟨x,⟨v,hv,rfl⟩,d⟩;refine⟨v,by omega,by omega,?_⟩
  grind [Js]
 .rintro⟨v,f,h,d⟩;refine⟨_,⟨v.toNat,by omega,rfl⟩,?_⟩
  grind [Int.toNat_of_nonneg,Js]
theorem Yy{α ρ:Type}[Inhabited α]{l:List α}{q:α->Bool}{v:ρ}:fst (fun i=>if q (AA l i)=true then some v else none) 0 l.length=if l.any q=true then some v else none:=by
 rw [LT,HI]
variable{t:AC}
theorem UR(hf:As t)(p:ea):Cc t p=some (Gz t p):=by
 unfold Cc Gz;rw[Ms hf,bs,LY,bs];refine DC fun F=>DC fun D=>?_;have x:=DB D;have e:((Az p.d4.ci (fun d=>F5 d t)).bind fun o=>
   (if o=true then some true else((BN p.d4.d3 (fun d=>F6 d t)).bind fun q=>some (q))))=some (!Ci t p.d4):=by
  unfold Ci;rw[show(fun d=>F5 d t)=(fun(n:Int)=>some (decide (t.ci.length<=n)))from rfl,Wm,show(fun d=>F6 d t)=(fun(e:Bf)=>some (decide (t.d3.length<=e.ne)))from rfl,Ym];simp only[bs];cases p.d4.ci.any fun n=>decide (t.ci.length<=n)<;>simp
 rw [<-Option.bind_assoc,e,bs];refine Tv fun E=>?_;unfold CQ;simp only[bs];refine Ka (by simp;try omega) fun hv=>Ka (by simp;try omega) fun G=>?_;unfold IZ;rw[a6 (by omega),bs,<-aw,Ao (show -9223372036854775808<=p.gt-1 by omega) (by omega),JI (I2 p) (fun i=>if QD t p (AA p.ff i)=true then some 6 else none) (by omega) rfl,Yy]
 .cases f:p.ff.any (QD t p)
  .simp only[Bool.false_eq_true,if_false,iK,Bi,jf,bs,ip,dZ];by_cases h:JE p.gt p.sr=0
   .simp only[h];cases og (fun v=>!Js p v) 0 p.gt<;>rfl
   .simp[h]
  .rfl
 .intro i u w _;rw[AD u w,bs,jS hf x,bs];unfold QD;by_cases f:(QC t p (AA p.ff i).tl (AA p.ff i).kp).2=true
  .by_cases C:(AA p.ff i).j0.Var< -1\/p.gt<=(AA p.ff i).j0.Var
   .have y:(decide (-1<=(AA p.ff i).j0.Var)&&decide ((AA p.ff i).j0.Var<=p.gt-1))=false:=by rw[Bool.eq_false_iff];simp;omega
    have z:(decide ((AA p.ff i).j0.Var< -1)||decide (p.gt<=(AA p.ff i).j0.Var))=true:=by simp;omega
    rw [f,y,Bool.or_assoc (!true),z];rfl
   .have y:(decide (-1<=(AA p.ff i).j0.Var)&&decide ((AA p.ff i).j0.Var<=p.gt-1))=true:=by simp;omega
    have z:(decide ((AA p.ff i).j0.Var< -1)||decide (p.gt<=(AA p.ff i).j0.Var))=false:=by rw[Bool.eq_false_iff];simp;omega
    rw [f,y,Bool.or_assoc (!true),z];by_cases H:(AA p.ff i).j0.Add< -1000000\/1000000<(AA p.ff i).j0.Add
    .have A:(decide (-1000000<=(AA p.ff i).j0.Add)&&decide ((AA p.ff i).j0.Add<=1000000))=false:=by rw[Bool.eq_false_iff];simp;omega
     have B:(decide ((AA p.ff i).j0.Add< -1000000)||decide (1000000<(AA p.ff i).j0.Add))=true:=by simp;omega
     rw [A,B];rfl
    .have A:(decide (-1000000<=(AA p.ff i).j0.Add)&&decide ((AA p.ff i).j0.Add<=1000000))=true:=by simp;omega
     have B:(decide ((AA p.ff i).j0.Add< -1000000)||decide (1000000<(AA p.ff i).j0.Add))=false:=by rw[Bool.eq_false_iff];simp;omega
     rw [A,B];by_cases j:0<=(AA p.ff i).j0.Var
     .simp only[Bool.not_true,Bool.false_eq_true,if_false,bs,j,decide_true,if_true,Bool.or_false];rw[AD j (by rw[da];omega),bs,db u w j];rfl
     .simp only[Bool.not_true,Bool.false_eq_true,if_false,bs,j,decide_false,Bool.or_false];rw[av u w (by omega)];rfl
  .rw[Bool.not_eq_true]at f;rw[f];rfl
theorem g8(p:ea)(v:Int):Jz p v=some (Js p v):=by
 unfold Jz Js;rw[BM (fun i=>decide ((AA p.ff i).j0.Var=v)) true,HI]
 .cases og (fun i=>decide ((AA p.ff i).j0.Var=v)) 0 p.ff.length<;>rfl
 .intro i d f _;rw[AD d f,bs,Hq]
theorem WV(hf:As t)(p:ea):GU t p=some (Gz t p):=by
 unfold GU Gz;rw[Mv hf,bs,LZ,bs];refine DC fun u=>DC fun o=>?_;have f:=DB o;rw[U6 f,bs];refine Tv fun q=>Ka (by simp;try omega) fun hv=>Ka (by simp;try omega) fun w=>?_;rw[BM (fun i=>QD t p (AA p.ff i)) 6,<-HI]
 .cases x:p.ff.any (QD t p)
  .simp only[Bool.false_eq_true,if_false,Bi,jx,bs];by_cases d:JE p.gt p.sr=0
   .simp only[d];rw[BM (fun v=>!Js p v) 9]
    .cases og (fun v=>!Js p v) 0 p.gt<;>rfl
    .intro i h j _;rw[g8,bs,Hq]
   .simp[d]
  .rfl
 .intro i h j _;rw[AD h j,bs,jk hf,bs];unfold QD K9
  grind
def NP(t:AC)(p:ea)(i:Int):Int:=
 let s:=AA p.ff i
 if s.tl<0\/p.d4.ci.length<=s.tl then 6 else
 let l:=(F7 t (AA p.d4.ci s.tl)).1
 if ((((((decide (s.kp<0))||(decide ((l.length:Int)<=s.kp)))||(decide (s.j0.Var<(-1))))||(decide (p.gt<=s.j0.Var)))||(decide (s.j0.Add<(-1000000))))||(decide (1000000<s.j0.Add)))=true then 6 else
 if og (fun j=>(decide ((AA p.ff j).tl=s.tl))&&(decide ((AA p.ff j).kp=s.kp))) 0 i=true then 5 else 0
theorem mX(hf:As t)(r:gp)(d:0<=i)(f:i<r.em.ff.length):Ie t r i=some (NP t r.em i):=by
 unfold Ie NP;dsimp only;rw[AD d f,bs];refine Ka (by simp) fun h=>?_;rw[AD (by omega) (by omega),bs,Pq hf,bs,LN d (by omega),bs,
  show (fun j=>NN j (AA r.em.ff i))=(fun y=>some ((decide (y.tl=(AA r.em.ff i).tl))&&(decide (y.kp=(AA r.em.ff i).kp))))from rfl,Yn,bs,Od d (by omega)]
 grind
theorem nB(hf:As t)(p:ea)(d:0<=i)(f:i<p.ff.length):MK t p i=some (NP t p i):=by
 unfold MK NP;dsimp only;rw[AD d f,bs];refine Ka (by simp) fun h=>?_;rw[AD (by omega) (by omega),bs,Ps hf,bs,
  BM (fun j=>(decide ((AA p.ff j).tl=(AA p.ff i).tl))&&(decide ((AA p.ff j).kp=(AA p.ff i).kp))) 5]
 .refine Wn fun _=>?_;cases og (fun j=>(decide ((AA p.ff j).tl=(AA p.ff i).tl))&&(decide ((AA p.ff j).kp=(AA p.ff i).kp))) 0 i<;>rfl
 grind [AD,AA,kp]
def JB(t:AC)(r:gp):Int:=
 if Bt r.em.d4≠0 then Bt r.em.d4 else if Ci t r.em.d4=false then 13 else
 if r.em.gt≠r.kl.gt\/0<r.em.sr.length then 1 else if 10<r.em.ff.length then 3 else
 (fst (fun i=>nz (NP t r.em i)) 0 r.em.ff.length).getD 0
theorem ja(hf:As t)(r:gp):Hf t r=some (JB t r):=by
 unfold Hf JB;rw[LY,bs,jg,bs,BR (fun i=>nz (NP t r.em i)),CG]
 .grind
 grind [mX,Kf]
theorem ju(hf:As t)(r:gp):Kw t r=some (JB t r):=by
 unfold Kw JB;rw[LZ,bs];refine DC fun d=>?_;rw[U6 (DB d),bs,BR (fun i=>nz (NP t r.em i)),CG]
 .grind
 grind [nB,Kf]
end Go.Sf.Sc
namespace Go.Sf
variable{a b:Int}
theorem Zy{ρ:Type}{c d:Int->Option ρ}(h:∀i,c i=d i):fst c a b=fst d a b:=by rw[funext h]
def Cw(l:Fp)(v:Int):Int:=(fst (fun i=>if decide (v=AA l i)=true then some i else none) 0 l.length).getD (-1)
variable{l:Fp}
theorem IH{v:Int}(h:v∈l):0<=Cw l v/\Cw l v<l.length/\AA l (Cw l v)=v/\∀j,0<=j->j<Cw l v->AA l j≠v:=by
 unfold Cw;cases hf:fst (fun i=>if decide (v=AA l i)=true then some i else none) 0 l.length with
 |none=>
  grind [BW,CI]
 |some k=>
  grind [C5,AA]
variable{R:Int->Int->Prop}
theorem Kh(h:l.Pairwise R){i j:Int}(d:0<=i)(f:i<j)(o:j<l.length):R (AA l i) (AA l j):=by grind[List.pairwise_iff_getElem,AA,List.getElem?_eq_getElem]
theorem Sn(h:∀i j:Int,0<=i->i<j->j<l.length->R (AA l i) (AA l j)):l.Pairwise R:=by
 refine List.pairwise_iff_getElem.2 (fun i j d f o=>?_);have:=h i j (by omega) (by omega) (by omega);unfold AA at this
 grind
theorem TC(u:l.Pairwise (·<·)){v:Int}(h:v∈l):(l.countP (fun x=>decide (x<v)):Int)=Cw l v:=by
 obtain ⟨w,y,o,_⟩:=IH h;generalize E:Cw l v=k at w y o;have e:l=l.take k.toNat++l.drop k.toNat:=(List.take_append_drop _ _).symm;have z:(l.take k.toNat).countP (fun x=>decide (x<v))=k.toNat:=by
  rw [List.countP_eq_length.2 (fun x d=>?_),cE]
  .omega
  .obtain⟨i,C,D,rfl⟩:=BW d;rw[cE]at D;rw[OP (by omega),zzX,<-o];exact Kh u C (by omega) y
 have A:(l.drop k.toNat).countP (fun x=>decide (x<v))=0:=by
  rw [List.countP_eq_zero];intro x d;obtain⟨n,q⟩:=List.getElem?_of_mem d;rw[List.getElem?_drop]at q;have B:=(List.getElem?_eq_some_iff.1 q).1;have f:x=AA l (k+n):=by
   unfold AA;rw[List.getD_eq_getElem?_getD,show(k+(n:Int)).toNat=k.toNat+n by omega,q];rfl
  rw [zzX,f,<-o];by_cases j:n=0
  .subst j;simp
  .have:=Kh u w (show k<k+(n:Int)by omega) (by omega);omega
 rw [e,List.countP_append,z,A];omega
end Go.Sf
namespace Go.Sf.Sc
open Go Go.Sf
theorem jD(l:Fp)(n:Int):(fq (j4 (ρ:=Int) (fun(h:Int)(_:Unit)=>
 (idx l h).bind fun d=>
 if (decide (d=n))=true then
 some (.ret h)
 else
 some (.next ())) 0 (l.length:Int) ()) (fun _=>
 some (-1)) (fun j=>some j))=some (Cw l n):=by
 have:=TG (l:=l) (f:=fun x=>some (decide (x=n))) (p:=fun x=>decide (x=n)) (fun _ _=>rfl);simp only[bs]at this;rw[this];unfold Cw;congr 2;exact Zy fun i=>by simp only[eq_comm]
theorem mu(l:Fp)(v:Int):Hu l v=some (Cw l v):=jD l v
def hasB(l:Fp)(v:Int):Bool:=l.any fun x=>decide (v=x)
variable{l:Fp}
theorem CJ{v:Int}:hasB l v=true↔v∈l:=by
 unfold hasB
 grind
theorem Mk(l:Fp)(n:Int):(fq (j4 (ρ:=Bool) (fun(f:Int)(_:Unit)=>
 (idx l f).bind fun d=>
 if (decide (d=n))=true then
 some (.ret true)
 else
 some (.next ())) 0 (l.length:Int) ()) (fun _=>
 some false) (fun h=>some h))=some (hasB l n):=by
 unfold hasB;rw[BM (fun i=>decide (n=AA l i)) true,HI]
 .cases og (fun i=>decide (n=AA l i)) 0 l.length<;>rfl
 .intro i j o _;rw[AD j o,bs,Hq];simp only[eq_comm]
theorem jp(l:Fp)(v:Int):PM l v=some (hasB l v):=Mk l v
theorem jo(l:Fp)(v:Int):Ni l v=some (hasB l v):=Mk l v
def Oe(l:Fp)(n:Int):Int:=(fst (fun i=>if AA l i<0\/n<=AA l i then some 6 else if 0<i/\AA l i<=AA l (i-1)then some 12 else none) 0 l.length).getD 0
theorem gq(q:l.length<=1000)(n:Int):G8 l n=some (Oe l n):=by
 unfold G8 Oe;rw[BR (fun i=>if AA l i<0\/n<=AA l i then some 6 else if 0<i/\AA l i<=AA l (i-1)then some 12 else none),CG];intro i j o _;rw[AD j o,bs];by_cases h:AA l i<0\/n<=AA l i
 .rw[a6 (by simpa using h),a6 h];rfl
 .rw[ae (by simpa using h),ae h];by_cases d:0<i
  .rw[a6 (by simpa using d),Ao (by omega) (by omega),AD (by omega) (by omega),bs,bs];by_cases f:AA l i<=AA l (i-1)
   .rw[a6 (by simpa using f),a6 ⟨d,f⟩];rfl
   .rw[ae (by simpa using f),ae (fun h=>f h.2)];rfl
  .rw[ae (by simpa using d),bs,ae (by decide),ae (fun h=>d h.1)];rfl
theorem g6(u:l.length<=1000)(n:Int):Fv l n=some (Oe l n):=by
 unfold Fv Oe;rw[BR (fun i=>if AA l i<0\/n<=AA l i then some 6 else if 0<i/\AA l i<=AA l (i-1)then some 12 else none),CG];intro i j o _;rw[AD j o];simp only[bs];by_cases h:AA l i<0\/n<=AA l i
 .have:(if decide (AA l i<0)=true then some true else some (decide (n<=AA l i)))=some true:=by
   rcases h with h|h
   .simp[h]
   .by_cases q:AA l i<0<;>simp[h,q]
  rw [this,bs,a6 rfl,a6 h];rfl
 .have:(if decide (AA l i<0)=true then some true else some (decide (n<=AA l i)))=some false:=by
   rw [ae (by simp;omega),decide_eq_false (by omega)]
  rw [this,bs,ae (by decide),ae h];by_cases d:0<i
  .rw[a6 (by simpa using d),Ao (by omega) (by omega),AD (by omega) (by omega),bs,bs];by_cases f:AA l i<=AA l (i-1)
   .rw[a6 (by simpa using f),a6 ⟨d,f⟩];rfl
   .rw[ae (by simpa using f),ae (fun h=>f h.2)];rfl
  .rw[ae (by simpa using d),bs,ae (by decide),ae (fun h=>d h.1)];rfl
variable{a b:Int}
theorem O9{c:Int->QQ}(d:∀i,c i≠some 0)(h:(fst c a b).getD 0=0):∀i,a<=i->i<b->c i=none:=by
 have:fst c a b=none:=by
  cases hf:fst c a b with
  |none=>rfl|some r=>
   grind [Option.getD,C5]
 exact CI.1 this
variable{n:Int}
theorem RS(h:Oe l n=0):(∀x∈l,0<=x/\x<n)/\l.Pairwise (·<·):=by
 have y:=O9 (c:=fun i=>if AA l i<0\/n<=AA l i then some 6 else if 0<i/\AA l i<=AA l (i-1)then some 12 else none) (fun i=>by
  split
  .simp
  .split<;>simp) h
 have f:∀i:Int,0<=i->i<l.length->(0<=AA l i/\AA l i<n)/\(0<i->AA l (i-1)<AA l i):=by
  intro i o w;have:=y i o w;split at this
  .cases this
  .split at this
   .cases this
   .omega
 refine ⟨fun x q=>?_,Sn (fun i j o d u=>?_)⟩
 .obtain⟨i,z,A,rfl⟩:=BW q;exact(f i z A).1
 .obtain⟨k,B⟩:∃k:Nat,j=i+1+k:=⟨(j-i-1).toNat,by omega⟩;subst B;clear d
  induction k with
  |zero=>
   have:=(f (i+1) (by omega) (by omega)).2 (by omega);rw[show i+1-1=i by omega]at this;simpa using this
  |succ k C=>
   have a:=C (by omega);have b:=(f (i+1+((k+1:Nat):Int)) (by omega) u).2 (by omega);rw[show i+1+((k+1:Nat):Int)-1=i+1+k by omega]at b;omega
theorem Qf(f:l.length<=1000)(d:l.Pairwise (·<·))(v:Int):slices_BinarySearch_int l v=some (((l.countP (fun x=>decide (x<v)):Nat):Int),hasB l v):=by
 unfold slices_BinarySearch_int;rw[a6 ⟨by unfold Ad;omega,d.imp (fun h=>by omega)⟩];congr 2;rw[Bool.eq_iff_iff,CJ,List.contains_iff_mem]
def M7(g:d4)(p:BA):Int:=
 if Oe p.ci g.ci.length≠0 then Oe p.ci g.ci.length else if Oe p.d3 g.d3.length≠0 then Oe p.d3 g.d3.length else
 (fst (fun i=>if(hasB p.ci (AA g.d3 (AA p.d3 i)).ns&&hasB p.ci (AA g.d3 (AA p.d3 i)).To)=true then none else some 14) 0 p.d3.length).getD 0
structure Wc(g:d4)(p:BA):Prop where
 ec:(∀x∈p.ci,0<=x/\x<g.ci.length)/\p.ci.Pairwise (·<·)
 ek:(∀x∈p.d3,0<=x/\x<g.d3.length)/\p.d3.Pairwise (·<·)
 ends:∀x∈p.d3,(AA g.d3 x).ns∈p.ci/\(AA g.d3 x).To∈p.ci
variable{g:d4}
theorem UU{p:BA}(h:M7 g p=0):Wc g p:=by
 unfold M7 at h;split at h
 .omega
 .split at h
  .omega
  .rename_i q u;refine⟨RS (by omega),RS (by omega),fun x f=>?_⟩;obtain⟨i,j,o,rfl⟩:=BW f;have:=O9 (c:=fun i=>if(hasB p.ci (AA g.d3 (AA p.d3 i)).ns&&hasB p.ci (AA g.d3 (AA p.d3 i)).To)=true then none else some 14) (fun i=>by
    split<;>simp) h i j o
   split at this
   .rename_i d;rw[pc,CJ,CJ]at d;exact d
   .cases this
def EL(g:d4)(p:BA):Int:=if Bt g≠0 then Bt g else M7 g p
structure PV(p:BA):Prop where
 ec:p.ci.length<=1000
 ek:p.d3.length<=1000
theorem ZB{p:BA}(d:PV p):Do g p=some (EL g p):=by
 unfold Do EL;rw[LY,bs];refine DC fun o=>?_;have w:=DB o;unfold LE M7;rw[gq d.ec,bs,gq d.ek,bs,Option.bind_fun_some];refine DC fun q=>DC fun u=>?_;obtain⟨a1,x⟩:=RS q;obtain⟨y,z⟩:=RS u;rw[BR (fun i=>if(hasB p.ci (AA g.d3 (AA p.d3 i)).ns&&hasB p.ci (AA g.d3 (AA p.d3 i)).To)=true then none else some 14),CG];intro i f h _;have j:=y _ (AK f h);unfold J7;rw[AD f h,bs,AD j.1 j.2];simp only[bs,Qf d.ec x];cases hasB p.ci (AA g.d3 (AA p.d3 i)).ns<;>cases hasB p.ci (AA g.d3 (AA p.d3 i)).To<;>rfl
theorem U5{p:BA}(d:PV p):Ht g p=some (EL g p):=by
 unfold Ht EL;rw[LZ,bs];refine DC fun o=>?_;have u:=DB o;unfold ND M7;rw[g6 d.ec,bs,g6 d.ek,bs,Option.bind_fun_some];refine DC fun x=>DC fun q=>?_;obtain⟨w,y⟩:=RS q;rw[BR (fun i=>if(hasB p.ci (AA g.d3 (AA p.d3 i)).ns&&hasB p.ci (AA g.d3 (AA p.d3 i)).To)=true then none else some 14),CG];intro i f h _;have j:=w _ (AK f h);rw[AD f h,bs,AD j.1 j.2];simp only[bs,jo];cases hasB p.ci (AA g.d3 (AA p.d3 i)).ns<;>cases hasB p.ci (AA g.d3 (AA p.d3 i)).To<;>rfl
def MC(g:d4)(p:BA):d4:=⟨p.ci.map (AA g.ci),p.d3.map fun x=>⟨(AA g.d3 x).ne,Cw p.ci (AA g.d3 x).ns,Cw p.ci (AA g.d3 x).To⟩⟩
variable{i:Int}
theorem G3{α:Type}{f:Int->α}(d:0<=i)(h:i<l.length):(l.take (i+1).toNat).map f=(l.take i.toNat).map f++[f (AA l i)]:=by grind[Ch]
theorem QR(z:l.length<=1000)(h:∀x∈l,0<=x/\x<g.ci.length)(es:List Bf):(sx (fun(y:Int)(u:d4)=>
 (idx l y).bind fun d=>
 (idx g.ci d).bind fun f=>
 (Ag u.ci [f]).bind fun j=>
 some (d4.mk j u.d3)) 0 (l.length:Int) (d4.mk [] es))=some (d4.mk (l.map (AA g.ci)) es):=by
 rw [B1 (fun i=>d4.mk ((l.take i.toNat).map (AA g.ci)) es) (by omega) (by simp)]
 .rw[Int.toNat_natCast,List.take_length]
 .intro i o q;have w:=h _ (AK o q);rw[AD o q,bs,AD w.1 w.2,bs,Ai (by simp;unfold Ad;omega),bs,G3 o q]
theorem UA(B:l.length<=1000)(h:∀x∈l,0<=x/\x<g.d3.length)(o:Fp)(F:Bf->Bf){f:Bf->List Bf->Option (List Bf)}(hf:∀x∈l,∀s,s.length<=1000->f (AA g.d3 x) s=some (s++[F (AA g.d3 x)])):(sx (fun(A:Int)(y:d4)=>
 (idx l A).bind fun q=>
 (idx g.d3 q).bind fun u=>
 (f u y.d3).bind fun w=>
 some (d4.mk y.ci w)) 0 (l.length:Int) (d4.mk o []))=some (d4.mk o (l.map fun x=>F (AA g.d3 x))):=by
 rw [B1 (fun i=>d4.mk o ((l.take i.toNat).map fun x=>F (AA g.d3 x))) (by omega) (by simp)]
 .rw[Int.toNat_natCast,List.take_length]
 .intro i d j;have z:=h _ (AK d j);rw[AD d j,bs,AD z.1 z.2,bs,hf _ (AK d j) _ (by simp;omega),bs,G3 d j]
theorem bw{p:BA}(d:PV p):Dc g p=some (if EL g p≠0 then(⟨[],[]⟩,⟨[],[]⟩,EL g p)else(MC g p,⟨p.ci,p.d3⟩,0)):=by
 unfold Dc;rw[ZB d,bs];refine Ef fun h=>?_;have w:Bt g=0/\M7 g p=0:=by
  grind [EL]
 have ho:=UU w.2;rw[QR d.ec ho.ec.1,bs];have:=UA (g:=g) (l:=p.d3) d.ek ho.ek.1 (p.ci.map (AA g.ci)) (fun x=>⟨x.ne,Cw p.ci x.ns,Cw p.ci x.To⟩) (f:=fun j s=>
  (slices_BinarySearch_int p.ci j.ns).bind fun o=>
  (slices_BinarySearch_int p.ci j.To).bind fun q=>
  Ag s [Bf.mk j.ne o.1 q.1]) (fun x u s y=>by
   have he:=ho.ends x u;rw[Qf d.ec ho.ec.2,bs,Qf d.ec ho.ec.2,bs,Ai (by simp;unfold Ad;omega),TC ho.ec.2 he.1,TC ho.ec.2 he.2])
 simp only[Option.bind_assoc]at this;rw[this,bs];unfold slices_Clone_int;have z:=d.ec;have A:=d.ek;rw[BD (by unfold Ad;omega),bs,BD (by unfold Ad;omega)];rfl
theorem Vn{p:BA}(j:PV p):G4 g p=some (if EL g p≠0 then(⟨[],[]⟩,⟨[],[]⟩,EL g p)else(MC g p,⟨p.ci,p.d3⟩,0)):=by
 unfold G4;rw[U5 j,bs];refine Ef fun h=>?_;have u:Bt g=0/\M7 g p=0:=by
  grind [EL]
 have ho:=UU u.2;rw[QR j.ec ho.ec.1,bs];have:=UA (g:=g) (l:=p.d3) j.ek ho.ek.1 (p.ci.map (AA g.ci)) (fun x=>⟨x.ne,Cw p.ci x.ns,Cw p.ci x.To⟩) (f:=fun d s=>
  (Hu p.ci d.ns).bind fun o=>
  (Hu p.ci d.To).bind fun q=>
  Ag s [Bf.mk d.ne o q]) (fun x w s y=>by
   grind [mu,Ai,Ad])
 simp only[Option.bind_assoc]at this;rw[this,bs];have z:=j.ec;have A:=j.ek;rw[BD (by unfold Ad;omega),bs,BD (by unfold Ad;omega)];rfl
end Go.Sf.Sc
namespace Go.Sf.Sc
open Go Go.Sf
def Ke(a b:d4)(m:d5)(i:Int):QQ:=
 if AA m.ci i<0\/b.ci.length<=AA m.ci i then some 6 else if AA b.ci (AA m.ci i)≠AA a.ci i then some 13 else none
def Gi(a b:d4)(m:d5)(i:Int):QQ:=
 if AA m.d3 i<0\/b.d3.length<=AA m.d3 i then some 6 else
 if (AA a.d3 i).ne≠(AA b.d3 (AA m.d3 i)).ne then some 13 else
 if AA m.ci (AA a.d3 i).ns≠(AA b.d3 (AA m.d3 i)).ns\/AA m.ci (AA a.d3 i).To≠(AA b.d3 (AA m.d3 i)).To then some 11 else none
def IJ(a b:d4)(m:d5):Int:=
 if Bt a≠0 then Bt a else if Bt b≠0 then Bt b else if m.ci.length≠a.ci.length\/m.d3.length≠a.d3.length then 20 else
 match fst (Ke a b m) 0 m.ci.length with
 |some e=>e|none=>(fst (Gi a b m) 0 m.d3.length).getD 0
structure WG(a b:d4)(m:d5):Prop where
 ga:Di a
 gb:Di b
 AaR:m.ci.length=a.ci.length
 Abg:m.d3.length=a.d3.length
 node:∀i:Int,0<=i->i<m.ci.length->(0<=AA m.ci i/\AA m.ci i<b.ci.length)/\AA b.ci (AA m.ci i)=AA a.ci i
 edge:∀i:Int,0<=i->i<m.d3.length->(0<=AA m.d3 i/\AA m.d3 i<b.d3.length)/\(AA a.d3 i).ne=(AA b.d3 (AA m.d3 i)).ne/\
  AA m.ci (AA a.d3 i).ns=(AA b.d3 (AA m.d3 i)).ns/\AA m.ci (AA a.d3 i).To=(AA b.d3 (AA m.d3 i)).To
variable{m:d5}
theorem SX{a b:d4}(h:IJ a b m=0):WG a b m:=by
 unfold IJ at h;split at h
 .omega
 split at h
 .omega
 split at h
 .cases h
 rename_i o q u;have j:fst (Ke a b m) 0 m.ci.length=none:=by
  grind [C5,Ke]
 rw [j]at h;have he:=O9 (fun i=>by
  grind [Gi]) h
 refine ⟨DB (by omega),DB (by omega),by omega,by omega,fun i d f=>?_,fun i d f=>?_⟩
 .grind[CI,Ke]
 grind [Gi]
theorem WL(a b:d4)(m:d5):Cx a b m=some (IJ a b m):=by
 unfold Cx IJ;rw[LY,bs,LY,bs];refine DC fun u=>DC fun w=>Ka (by simp;try omega) fun z=>?_;have ga:=DB u;have gb:=DB w;rw[BR (Ke a b m),Dd]
 .cases x:fst (Ke a b m) 0 m.ci.length with
  |some e=>rfl|none=>
   have y:=CI.1 x;dsimp only;rw[BR (Gi a b m),CG];intro i h q _;unfold Gi;rw[AD h q,bs];by_cases d:AA m.d3 i<0\/b.d3.length<=AA m.d3 i
   .rw[a6 (by simpa using d),a6 d];rfl
   .have hf:=ga.fit _ (AK (l:=a.d3) h (by omega));rw[ae (by simpa using d),ae d,AD h (by omega),bs,AD (by omega) (by omega),bs];by_cases f:(AA a.d3 i).ne=(AA b.d3 (AA m.d3 i)).ne
    .rw[ae (by simpa using f),ae (by simpa using f),AD (by omega) (by omega),bs];by_cases j:AA m.ci (AA a.d3 i).ns=(AA b.d3 (AA m.d3 i)).ns
     .rw[ae (by simpa using j),AD (by omega) (by omega),bs,bs];by_cases o:AA m.ci (AA a.d3 i).To=(AA b.d3 (AA m.d3 i)).To
      .rw[ae (by simpa using o),ae (by simp[j,o])];rfl
      .rw[a6 (by simpa using o),a6 (.inr o)];rfl
     .rw[a6 (by simpa using j),bs,a6 rfl,a6 (.inl j)];rfl
    .rw[a6 (by simpa using f),a6 f];rfl
 .intro i h q _;unfold Ke;rw[AD h q,bs];by_cases d:AA m.ci i<0\/b.ci.length<=AA m.ci i
  .rw[a6 (by simpa using d),a6 d];rfl
  .rw[ae (by simpa using d),ae d,AD (by omega) (by omega),bs,AD h (by omega),bs];by_cases f:AA b.ci (AA m.ci i)=AA a.ci i
   .rw[ae (by simpa using f),ae (by simpa using f)];rfl
   .rw[a6 (by simpa using f),a6 f];rfl
theorem R5{x y:Prop}[Decidable x][Decidable y]:(if decide x=true then some true else some (decide y))=some (decide (x\/y)):=by grind
theorem WU(a b:d4)(m:d5):GQ a b m=some (IJ a b m):=by
 unfold GQ IJ;rw[LZ,bs,LZ,bs];refine DC fun u=>DC fun w=>Ka (by simp;try omega) fun z=>?_;have ga:=DB u;have gb:=DB w;rw[show(a.ci.length:Int)=m.ci.length by omega,show(a.d3.length:Int)=m.d3.length by omega,BR (Ke a b m),Dd]
 .cases x:fst (Ke a b m) 0 m.ci.length with
  |some e=>rfl|none=>
   have y:=CI.1 x;dsimp only;rw[BR (Gi a b m),CG];intro i h q _;unfold Gi;rw[AD h q];simp only[bs,R5];by_cases d:AA m.d3 i<0\/b.d3.length<=AA m.d3 i
   .rw[a6 (by simpa using d),a6 d];rfl
   .have hf:=ga.fit _ (AK (l:=a.d3) h (by omega));rw[ae (by simpa using d),ae d,AD h (by omega),bs,AD (by omega) (by omega),bs];by_cases f:(AA a.d3 i).ne=(AA b.d3 (AA m.d3 i)).ne
    .rw[ae (by simpa using f),ae (by simpa using f),AD (by omega) (by omega),bs];by_cases j:AA m.ci (AA a.d3 i).ns=(AA b.d3 (AA m.d3 i)).ns
     .rw[ae (by simpa using j),AD (by omega) (by omega),bs,bs];by_cases o:AA m.ci (AA a.d3 i).To=(AA b.d3 (AA m.d3 i)).To
      .rw[ae (by simpa using o),ae (by simp[j,o])];rfl
      .rw[a6 (by simpa using o),a6 (.inr o)];rfl
     .rw[a6 (by simpa using j),bs,a6 rfl,a6 (.inl j)];rfl
    .rw[a6 (by simpa using f),a6 f];rfl
 .intro i h q _;unfold Ke;rw[AD h q];simp only[bs,R5];by_cases d:AA m.ci i<0\/b.ci.length<=AA m.ci i
  .rw[a6 (by simpa using d),a6 d];rfl
  .rw[ae (by simpa using d),ae d,AD (by omega) (by omega),bs,AD h (by omega),bs];by_cases f:AA b.ci (AA m.ci i)=AA a.ci i
   .rw[ae (by simpa using f),ae (by simpa using f)];rfl
   .rw[a6 (by simpa using f),a6 f];rfl
def IF(l:Fp):Bool:=!og (fun i=>og (fun j=>decide (AA l i=AA l j)) 0 i) 0 l.length
variable{l:Fp}
theorem QI:IF l=true↔l.Nodup:=by grind[IF,Bool.not_eq_true',Bb,Sn,Kh]
theorem WT(l:Fp):Ec l=some (IF l):=by
 unfold Ec IF;rw[BM (fun i=>og (fun j=>decide (AA l i=AA l j)) 0 i) false]
 .cases og (fun i=>og (fun j=>decide (AA l i=AA l j)) 0 i) 0 l.length<;>rfl
 .intro i d f _;rw[BM (fun j=>decide (AA l i=AA l j)) false]
  .cases og (fun j=>decide (AA l i=AA l j)) 0 i<;>rfl
  .intro j h o _;rw[AD d f,bs,AD h (by omega),bs,Hq]
theorem XX(f:l.length<=1000):∃k,Ft l=some k/\decide (k=(l.length:Int))=IF l:=by
 have d:(PD l).length=l.length:=(OD l).length_eq;refine⟨((Go.Lib.compact (PD l)).length:Int),?_,?_⟩
 .grind[Ft,slices_Clone_int,slices_Sort_int,slices_Compact_int,BD,Ad]
 .rw[Bool.eq_iff_iff,QI,zzX,<-(OD l).nodup_iff,<-RE (Oj l),d];omega
def Jp(m:d5):Bool:=IF m.ci&&IF m.d3
theorem gu{a b:d4}(h:IJ a b m=0):Cg a b m=some (Jp m):=by
 have ho:=SX h;have:=ho.ga.ec;have:=ho.ga.ek;have:=ho.AaR;have:=ho.Abg;obtain⟨k,d,f⟩:=XX (l:=m.ci) (by omega);obtain⟨j,o,q⟩:=XX (l:=m.d3) (by omega);unfold Cg Jp;rw[WL,h,bs,a6 (decide_eq_true rfl),d];simp only[bs,o,f,q];cases IF m.ci<;>rfl
theorem qk{a b:d4}(h:IJ a b m=0):Hb a b m=some (Jp m):=by grind[Hb,Jp,WU,WT,IF]
def PE(r:gp):Int:=
 if EL r.kl.d4 r.x3≠0 then EL r.kl.d4 r.x3 else
 if IJ (MC r.kl.d4 r.x3) r.em.d4 r.tc≠0 then IJ (MC r.kl.d4 r.x3) r.em.d4 r.tc else if Jp r.tc=false then 11 else 0
variable{r:gp}
theorem mQ(d:PV r.x3):Ic r=some (PE r):=by
 unfold Ic PE;rw[bw d,bs];by_cases h:EL r.kl.d4 r.x3=0
 .simp only[h,ne_eq,not_true_eq_false,if_false,decide_true,Bool.not_true,Bool.false_eq_true];rw[WL,bs];refine DC fun f=>?_;rw[gu f,bs];exact Tv fun _=>rfl
 .simp[h]
def Sj(r:gp):Int:=if EL r.kl.d4 r.x3≠0 then EL r.kl.d4 r.x3 else IJ (MC r.kl.d4 r.x3) r.em.d4 r.tc
theorem nC(d:PV r.x3):ML r=some (Sj r):=by
 unfold ML Sj;rw[U5 d,bs];refine DC fun h=>?_
 grind [Vn,WU]
theorem jF(h:PE r=0):EL r.kl.d4 r.x3=0/\IJ (MC r.kl.d4 r.x3) r.em.d4 r.tc=0/\Jp r.tc=true:=by grind[PE]
def BB(l:Fp)(n:Int):Fp:=((List.range n.toNat).map Int.ofNat).filter fun i=>!hasB l i
variable{i:Int}
theorem MP(l:Fp)(h:0<=i):BB l (i+1)=BB l i++if(!hasB l i)=true then[i]else[]:=by
 unfold BB;rw[show(i+1).toNat=i.toNat+1 by omega,List.range_succ,List.map_append,List.filter_append]
 grind
theorem He{n x:Int}(h:x∈BB l n):0<=x/\x<n:=by
 unfold BB at h
 grind
theorem PQ(l:Fp)(n:Int):(BB l n).length<=n.toNat:=by
 unfold BB
 grind
variable{n:Int}
theorem SD(q:0<=n)(w:n<=1000){f:Int->K1}(hf:∀i,f i=some (hasB l i)):(sx (fun(j:Int)(o:Fp)=>
 (f j).bind fun d=>
 if (!d)=true then
 (Ag o [j]).bind fun h=>
 some h
 else
 some o) 0 n [])=some (BB l n):=by
 refine B1 (BB l) q (by simp[BB]) (fun i u x=>?_);have:=PQ l i;rw[hf,bs,MP l u];cases hasB l i
 .rw[a6 (by decide),a6 (by decide),Ai (by simp;unfold Ad;omega)];rfl
 .rw[ae (by decide),ae (by decide),List.append_nil]
theorem XZ(d:0<=n)(f:n<=1000):JS l n=some (BB l n):=by
 unfold JS;rw[SD d f (fun i=>Kb l i)];rfl
theorem cZ(d:0<=n)(f:n<=1000):KL n l=some (BB l n):=by
 unfold KL;rw[SD d f (fun i=>jp l i)];rfl
def Ip(r:gp):Fp:=BB r.tc.ci r.em.d4.ci.length
def Oh(r:gp):Fp:=BB r.tc.d3 r.em.d4.d3.length
theorem b7(d:Di r.em.d4):J6 r=some (Ip r,Oh r):=by
 have:=d.ec;have:=d.ek;unfold J6;rw[XZ (by omega) (by omega),bs,XZ (by omega) (by omega)];rfl
theorem cO(d:Di r.em.d4):JA r=some (Ip r,Oh r):=by
 have:=d.ec;have:=d.ek;unfold JA;rw[cZ (by omega) (by omega),bs,cZ (by omega) (by omega)];rfl
def LJ(t:AC)(g:d4)(i:Int):Bool:=QL t (AA g.d3 i).ne (AA g.ci (AA g.d3 i).ns) (AA g.ci (AA g.d3 i).To)
def XJ(t:AC)(g:d4)(ec ek:Fp):Bool:=!(ec.any fun i=>(AA t.ci (AA g.ci i)).Aao)&&!(ek.any fun i=>!LJ t g i)
variable{t:AC}{g:d4}
theorem qe(hf:As t)(o:Di g)(q:Ci t g=true){ec ek:Fp}(u:∀x∈ec,0<=x/\x<g.ci.length)(he:∀x∈ek,0<=x/\x<g.d3.length):Fe t g ec ek=some (XJ t g ec ek):=by
 have h:=Hz o q;unfold Fe XJ;rw[Rc (p:=fun i=>(AA t.ci (AA g.ci i)).Aao) (fun x f=>by
  have d:=u x f;have j:=h.1 _ (AK d.1 d.2);unfold KO;rw[AD d.1 d.2,bs,AD j.1 j.2];rfl),bs,Rc (p:=fun i=>!LJ t g i) (fun x f=>by
  have d:=he x f;have j:=o.fit _ (AK d.1 d.2);unfold FJ;rw[AD d.1 d.2,bs,AD (by omega) (by omega),bs,AD (by omega) (by omega),bs,bz hf];rfl)]
 grind
theorem qn(hf:As t)(q:Di g)(u:Ci t g=true){ec ek:Fp}(w:∀x∈ec,0<=x/\x<g.ci.length)(he:∀x∈ek,0<=x/\x<g.d3.length):J1 t g ec ek=some (XJ t g ec ek):=by
 have j:=Hz q u;unfold J1 XJ;rw[HI,HI,BM (fun i=>(AA t.ci (AA g.ci (AA ec i))).Aao) false]
 .rw[BM (fun i=>!LJ t g (AA ek i)) false]
  .cases og (fun i=>(AA t.ci (AA g.ci (AA ec i))).Aao) 0 ec.length
   .cases og (fun i=>!LJ t g (AA ek i)) 0 ek.length<;>rfl
   .rfl
  .intro i f h _;have d:=he _ (AK f h);have o:=q.fit _ (AK d.1 d.2);rw[AD f h,bs,AD d.1 d.2,bs,AD (by omega) (by omega),bs,AD (by omega) (by omega),bs,cL hf,bs,Hq];rfl
 .intro i f h _;have d:=w _ (AK f h);have o:=j.1 _ (AK d.1 d.2);rw[AD f h,bs,AD d.1 d.2,bs,AD o.1 o.2,bs,Hq]
end Go.Sf.Sc
namespace Go.Sf.Sc
open Go Go.Sf
structure Mf(p:ea):Prop where
 ec:p.d4.ci.length<=45
 ek:p.d4.d3.length<=90
 slots:p.ff.length<=15
 tests:p.sr.length<=15
structure Zf(m:d5):Prop where
 ec:m.ci.length<=140
 ek:m.d3.length<=140
inductive DO:d6->Prop where
 |mk (c:d6) (hq:Mf c.ea) (hm:Zf c.Map) (hk:∀k∈c.gn,DO k):DO c
variable{c:d6}
theorem DO.q(h:DO c):Mf c.ea:=by cases h;assumption
theorem DO.m(h:DO c):Zf c.Map:=by cases h;assumption
theorem DO.k(h:DO c):∀k∈c.gn,DO k:=by cases h;assumption
theorem Ey{c k:d6}(h:k∈c.gn):SizeOf.sizeOf k<SizeOf.sizeOf c:=by
 have:=List.sizeOf_lt_of_mem h;cases c
 grind
theorem D3(c:d6):0<SizeOf.sizeOf c:=by
 cases c
 grind
def N7(c:d6):Bool:=decide (c.Map.ci.length=0/\c.Map.d3.length=0/\c.ea.d4.ci.length=0/\c.ea.d4.d3.length=0/\c.ea.ff.length=0/\c.ea.sr.length=0/\c.ea.gt=0)
theorem mI(hf:DO c):EX c=some (N7 c):=by
 have d:=hf.q;have f:=hf.m;have:=d.ec;have:=d.ek;have:=d.slots;have:=d.tests;have:=f.ec;have:=f.ek;unfold EX N7;rw[Ao (n:=(c.Map.ci.length:Int)+c.Map.d3.length) (by omega) (by omega),Ao (n:=(c.Map.ci.length:Int)+c.Map.d3.length+c.ea.d4.ci.length) (by omega) (by omega),
  Ao (n:=(c.Map.ci.length:Int)+c.Map.d3.length+c.ea.d4.ci.length+c.ea.d4.d3.length) (by omega) (by omega),
  Ao (n:=(c.Map.ci.length:Int)+c.Map.d3.length+c.ea.d4.ci.length+c.ea.d4.d3.length+c.ea.ff.length) (by omega) (by omega),
  Ao (n:=(c.Map.ci.length:Int)+c.Map.d3.length+c.ea.d4.ci.length+c.ea.d4.d3.length+c.ea.ff.length+c.ea.sr.length) (by omega) (by omega)]
 congr 1
 grind
theorem fC(hf:DO c):Gm c=some (N7 c):=by
 have d:=hf.q;have f:=hf.m;have:=d.ec;have:=d.ek;have:=d.slots;have:=d.tests;have:=f.ec;have:=f.ek;unfold Gm N7;rw[Ao (n:=(c.Map.ci.length:Int)+c.Map.d3.length) (by omega) (by omega),Ao (n:=(c.Map.ci.length:Int)+c.Map.d3.length+c.ea.d4.ci.length) (by omega) (by omega),
  Ao (n:=(c.Map.ci.length:Int)+c.Map.d3.length+c.ea.d4.ci.length+c.ea.d4.d3.length) (by omega) (by omega),
  Ao (n:=(c.ea.ff.length:Int)+c.ea.sr.length) (by omega) (by omega)]
 congr 1
 grind
def QT(c:d6):Bool:=
 if c.mo=1 then decide (c.gn.length=0)&&N7 c else if c.mo=2 then decide (c.gn.length=1)&&N7 c else
 if c.mo=3\/c.mo=4 then decide (1<=c.gn.length)&&N7 c else if c.mo=5 then decide (c.gn.length=1)else false
def P7:Nat->d6->Bool
 |0,_=>false|n+1,c=>QT c&&c.gn.all (P7 n)
theorem mc:∀(N:Nat)(c:d6),SizeOf.sizeOf c<=N->DO c->∀n,2*N<=n->BL n c=some (P7 N c)
 |0,c,h,_,_,_=>by have:=D3 c;omega|N+1,c,h,hf,n,B=>by
  obtain ⟨n,rfl⟩:∃m,n=m+2:=⟨n-2,by omega⟩;rw[BL,P7,mI hf];have f:Bh c.gn (BV (n+1))=some (!c.gn.all (P7 N)):=by
   rw [Wl (p:=fun k=>!P7 N k) (fun k f=>by
    have:=Ey f;rw[BV,mc N k (by omega) (hf.k k f) n (by omega)];rfl),List.all_eq_not_any_not,Bool.not_not]
  rw [f];unfold QT;simp only[bs,zzX];generalize N7 c=b;generalize c.gn.all (P7 N)=w;have y:decide ((c.gn.length:Int)=0)=decide (c.gn.length=0):=by rw[decide_eq_decide];omega
  have z:decide ((c.gn.length:Int)=1)=decide (c.gn.length=1):=by rw[decide_eq_decide];omega
  have A:decide (1<=(c.gn.length:Int))=decide (1<=c.gn.length):=by rw[decide_eq_decide];omega
  simp only[show((c.gn.length:Int)=0)↔c.gn.length=0 by omega,show((c.gn.length:Int)=1)↔c.gn.length=1 by omega,show(1<=(c.gn.length:Int))↔1<=c.gn.length by omega];by_cases j:c.mo=1
  .rw[a6 j,a6 j];by_cases d:c.gn.length=0<;>cases b<;>cases w<;>simp[d]
  .rw[ae j,ae j];by_cases o:c.mo=2
   .rw[a6 o,a6 o];by_cases d:c.gn.length=1<;>cases b<;>cases w<;>simp[d]
   .rw[ae o,ae o];by_cases u:c.mo=3
    .simp only[u,if_true,true_or];by_cases d:1<=c.gn.length<;>cases b<;>cases w<;>simp[d]
    .by_cases x:c.mo=4
     .simp only[x,if_true,or_true,show¬(4:Int)=3 by decide,if_false];by_cases d:1<=c.gn.length<;>cases b<;>cases w<;>simp[d]
     .simp only[u,x,if_false,or_false];by_cases q:c.mo=5
      .rw[a6 q,a6 q];by_cases d:c.gn.length=1<;>cases w<;>simp[d]
      .rw[ae q,ae q];cases w<;>rfl
theorem mr(hf:DO c):Kv c=some (QT c):=by
 unfold Kv QT;rw[fC hf];simp only[bs,zzX];generalize N7 c=b;simp only[show((c.gn.length:Int)=0)↔c.gn.length=0 by omega,show((c.gn.length:Int)=1)↔c.gn.length=1 by omega,show(0<(c.gn.length:Int))↔1<=c.gn.length by omega]
 grind
theorem lY{α:Type}[Inhabited α]{l:List α}{p:α->Bool}:l.all p=!og (fun i=>!p (AA l i)) 0 l.length:=by
 rw [List.all_eq_not_any_not,HI]
theorem gx:∀(N:Nat)(c:d6),SizeOf.sizeOf c<=N->DO c->∀n,N<=n->D1 n c=some (P7 N c)
 |0,c,h,_,_,_=>by have:=D3 c;omega|N+1,c,h,hf,n,o=>by
  obtain ⟨n,rfl⟩:∃m,n=m+1:=⟨n-1,by omega⟩;rw[D1,P7,mr hf,bs,lY,BM (fun i=>!P7 N (AA c.gn i)) false]
  .cases QT c
   .rfl
   .cases og (fun i=>!P7 N (AA c.gn i)) 0 c.gn.length<;>rfl
  .intro i d f _;have j:=AK (l:=c.gn) d f;have:=Ey j;rw[AD d f,bs,gx N _ (by omega) (hf.k _ j) n (by omega),bs,Hq]
noncomputable def iM(c:d6):Bool:=P7 (SizeOf.sizeOf c) c
theorem qf(hf:DO c):Es c=some (iM c):=EB (2*SizeOf.sizeOf c) fun n d=>mc _ c (az _) hf n d
theorem qu(hf:DO c):Mw c=some (iM c):=EB (SizeOf.sizeOf c) fun n d=>gx _ c (az _) hf n d
def L4:Nat->d6->Int×Int
 |0,_=>(0,0)|n+1,c=>
  let s:=c.gn.foldl (fun s k=>(Af (s.1+(L4 n k).1),max s.2 (L4 n k).2)) ((1,0):Int×Int)
  (s.1,if c.mo=5 then Af (s.2+1)else s.2)
theorem Vh{α σ:Type}[Inhabited α]{l:List α}{g:σ->α->σ}{s:σ}{f:Int->σ->Option σ}(h:∀(i:Int)s,0<=i->i<l.length->f i s=some (g s (AA l i))):sx f 0 l.length s=some (l.foldl g s):=by
 rw [B1 (fun i=>(l.take i.toNat).foldl g s) (by omega) (by simp)]
 .rw[Int.toNat_natCast,List.take_length]
 grind [Ch]
theorem cA:∀(N:Nat)(c:d6),SizeOf.sizeOf c<=N->∀n,N<=n->CA n c=some (L4 N c)
 |0,c,h,_,_=>by have:=D3 c;omega|N+1,c,h,n,j=>by
  obtain ⟨n,rfl⟩:∃m,n=m+1:=⟨n-1,by omega⟩;rw[CA,L4,Vh (g:=fun s k=>(Af (s.1+(L4 N k).1),max s.2 (L4 N k).2))]
  .grind
  .intro i s d f;have:=Ey (AK (l:=c.gn) d f);rw[AD d f,bs,cA N _ (by omega) n (by omega)];rfl
theorem cX:∀(N:Nat)(c:d6),SizeOf.sizeOf c<=N->∀n,N<=n->Ed n c=some (L4 N c)
 |0,c,h,_,_=>by have:=D3 c;omega|N+1,c,h,n,j=>by
  obtain ⟨n,rfl⟩:∃m,n=m+1:=⟨n-1,by omega⟩;rw[Ed,L4,Vh (g:=fun s k=>(Af (s.1+(L4 N k).1),max s.2 (L4 N k).2))]
  .grind
  .intro i s d f;have:=Ey (AK (l:=c.gn) d f);rw[AD d f,bs,cX N _ (by omega) n (by omega)];rfl
noncomputable def WK(c:d6):Int×Int:=L4 (SizeOf.sizeOf c) c
noncomputable def Ou(c:d6):Int:=if iM c=false then 1 else if 12<(WK c).1\/3<(WK c).2 then 3 else 0
theorem jc(hf:DO c):D0 c=some (Ou c):=by
 unfold D0 Ou;rw[qf hf,bs,show F8 c=some (WK c)from EB (SizeOf.sizeOf c) fun n d=>cA _ c (az _) n d,bs]
 grind
theorem jv(hf:DO c):Kt c=some (Ou c):=by
 unfold Kt Ou;rw[qu hf,bs,show Nz c=some (WK c)from EB (SizeOf.sizeOf c) fun n d=>cX _ c (az _) n d,bs]
 grind
theorem T9(g:d4):Bt g≠9:=by grind[Bt]
variable{t:AC}{p:ea}
theorem Xd(d:(Av t).2=0)(h:Gz t p=0\/Gz t p=9):0<=p.gt/\p.gt<=12:=by grind[T9,Gz]
def Ru(t:AC)(q:ea)(v:Int):Int:=if Gz t q≠9 then Gz t q else if og (fun i=>!Js q i) v q.gt=true then 9 else 0
variable{P:Prop}
theorem sF{α:Type}[Decidable P]{v:α}{X:Option α}{Y:α}(h:P->X=some Y):(if(!decide P)=true then some v else X)=some (if¬P then v else Y):=by grind
theorem qc(hf:As t)(f:(Av t).2=0){q:ea}{v:Int}(u:0<=v)(h:v<=q.gt):DE t q v=some (Ru t q v):=by
 unfold DE Ru;rw[UR hf,bs];refine sF fun d=>?_;have hv:=Xd f (.inr d);rw[Lg (c:=fun i=>(if(!Js q i)=true then some ()else none).map fun _=>.inr 9) (a:=v) (b:=q.gt) h]
 .rw[OQ,LT];cases og (fun i=>!Js q i) v q.gt<;>rfl
 .intro i w o _;rw[a6 (by simpa using o),show(fun j=>Gx j i)=(fun y=>some (decide (y.j0.Var=i)))from rfl,Yn,bs,show(q.ff.any fun y=>decide (y.j0.Var=i))=Js q i from rfl,d,Ao (by omega) (by omega)];cases Js q i<;>rfl
 .rw[ae (by simp)]
theorem jt(p:ea)(v:Int):MJ p v=some (Js p v):=g8 p v
theorem ql(hf:As t)(q:ea)(v:Int):Ku t v q=some (if q.gt<v then 20 else Ru t q v):=by
 unfold Ku Ru;refine Ka (by simp) fun _=>?_;rw[WV hf,bs];refine sF fun d=>?_;rw[d,BM (fun i=>!Js q i) 9]
 .cases og (fun i=>!Js q i) v q.gt<;>rfl
 .intro i f h _;rw[jt,bs,Hq]
def Jf:Nat->AC->ea->d6->Int
 |0,_,_,_=>0|N+1,t,p,c=>
  if c.mo=5 then
   if c.ea.gt<p.gt then 20 else if Ru t c.ea p.gt≠0 then Ru t c.ea p.gt else
   if IJ p.d4 c.ea.d4 c.Map≠0 then IJ p.d4 c.ea.d4 c.Map else if Jp c.Map=false then 1 else
   (fst (fun i=>nz (Jf N t c.ea (AA c.gn i))) 0 c.gn.length).getD 0
  else (fst (fun i=>nz (Jf N t p (AA c.gn i))) 0 c.gn.length).getD 0
theorem cF(hf:As t)(o:(Av t).2=0):∀(N:Nat)(c:d6)(p:ea),0<=p.gt->SizeOf.sizeOf c<=N->∀n,N<=n->Bv n t p c=some (Jf N t p c)
 |0,c,p,_,h,_,_=>by have:=D3 c;omega|N+1,c,p,C,h,n,D=>by
  obtain ⟨n,rfl⟩:∃m,n=m+1:=⟨n-1,by omega⟩;rw[Bv,Jf];have j:∀q:ea,0<=q.gt->(fq (j4 (ρ:=Int) (fun(y:Int)(_:Unit)=>
    (idx c.gn y).bind fun f=>
    (Bv n t q f).bind fun d=>
    if (!decide (d=0))=true then
    some (.ret d)
    else
    some (.next ())) 0 (c.gn.length:Int) ()) (fun _=>
    some 0) (fun z=>some z))=some ((fst (fun i=>nz (Jf N t q (AA c.gn i))) 0 c.gn.length).getD 0):=by
   intro q B;rw[BR (fun i=>nz (Jf N t q (AA c.gn i))),CG];intro i u w _;have:=Ey (AK (l:=c.gn) u w);rw[AD u w,bs,cF hf o N _ q B (by omega) n (by omega),bs,Kf]
  by_cases x:c.mo=5
  .rw[a6 (by simpa using x),a6 x];refine Ka (by simp) fun hv=>?_;rw[qc hf o C (by omega),bs];refine DC fun hi=>?_;rw[WL,bs];refine DC fun A=>?_;rw[gu A,bs]
   grind
  grind
theorem cY(hf:As t):∀(N:Nat)(c:d6)(p:ea),SizeOf.sizeOf c<=N->∀n,N<=n->Ei n t p c=some (Jf N t p c)
 |0,c,p,h,_,_=>by have:=D3 c;omega|N+1,c,p,h,n,A=>by
  obtain ⟨n,rfl⟩:∃m,n=m+1:=⟨n-1,by omega⟩;rw[Ei,Jf];have d:∀q:ea,(fq (j4 (ρ:=Int) (fun(x:Int)(_:Unit)=>
    (idx c.gn x).bind fun o=>
    (Ei n t q o).bind fun f=>
    if (!decide (f=0))=true then
    some (.ret f)
    else
    some (.next ())) 0 (c.gn.length:Int) ()) (fun _=>
    some 0) (fun y=>some y))=some ((fst (fun i=>nz (Jf N t q (AA c.gn i))) 0 c.gn.length).getD 0):=by
   intro q;rw[BR (fun i=>nz (Jf N t q (AA c.gn i))),CG];intro i u w _;have:=Ey (AK (l:=c.gn) u w);rw[AD u w,bs,cY hf N _ q (by omega) n (by omega),bs,Kf]
  by_cases j:c.mo=5
  .rw[a6 (by simpa using j),a6 j,ql hf,bs];by_cases hv:c.ea.gt<p.gt
   .simp[hv]
   .simp only[ae hv];refine DC fun hi=>?_;rw[WU,bs];refine DC fun z=>?_;rw[qk z,bs];exact Tv fun _=>d _
  .rw[ae (by simpa using j),ae j];exact d p
noncomputable def Lr(t:AC)(p:ea)(c:d6):Int:=if Gz t p≠0 then Gz t p else if Ou c≠0 then Ou c else Jf (SizeOf.sizeOf c) t p c
theorem b6(hf:As t)(d:(Av t).2=0)(p:ea)(f:DO c):Cf t p c=some (Lr t p c):=by
 unfold Cf Lr;rw[UR hf,bs];refine DC fun h=>?_;rw[jc f,bs,Option.bind_fun_some];exact DC fun _=>EB (SizeOf.sizeOf c) fun n j=>cF hf d _ c p (Xd d (.inl h)).1 (az _) n j
theorem cN(hf:As t)(p:ea)(d:DO c):JM t p c=some (Lr t p c):=by
 unfold JM Lr;rw[WV hf,bs];refine DC fun h=>?_;rw[jv d,bs,Option.bind_fun_some];exact DC fun _=>EB (SizeOf.sizeOf c) fun n f=>cY hf _ c p (az _) n f
end Go.Sf.Sc
namespace Go.Sf.Sc
open Go Go.Sf
structure PW(r:gp):Prop where
 name:(r.pq.size:Int)<=60
 left:Mf r.kl
 right:Mf r.em
 hT:PV r.x3
 into:Zf r.tc
 cond:DO r.d6
noncomputable def FT(t:AC)(r:gp):Int:=
 if (Av t).2≠0 then(Av t).2 else if Eb r.pq=false then 2 else if Gz t r.kl≠0 then Gz t r.kl else
 if JB t r≠0 then JB t r else if PE r≠0 then PE r else if XJ t r.em.d4 (Ip r) (Oh r)=false then 13 else Lr t r.kl r.d6
variable{t:AC}{r:gp}
theorem TS(h:JB t r=0):Di r.em.d4/\Ci t r.em.d4=true:=by grind[JB,DB]
theorem cG(hf:As t)(d:PW r):GJ t r=some (FT t r):=by
 have q:=d.name;unfold GJ FT;rw[Ms hf,bs];refine DC fun j=>?_;rw[On (by omega),bs];refine Tv fun _=>?_;rw[UR hf,bs];refine DC fun _=>?_;rw[ja hf,bs];refine DC fun f=>?_;have ho:=TS f;rw[mQ d.hT,bs];refine DC fun o=>?_;rw[b7 ho.1,bs];dsimp only;rw[qe (ec:=Ip r) (ek:=Oh r) hf ho.1 ho.2 (fun x h=>He h) (fun x h=>He h),bs];refine Tv fun _=>?_;rw[b6 hf j _ d.cond,bs]
theorem cb(hf:As t)(d:PW r):JN t r=some (FT t r):=by
 have u:=d.name;unfold JN FT;rw[Mv hf,bs];refine DC fun q=>?_;rw[Oo (by omega),bs];refine Tv fun _=>?_;rw[WV hf,bs];refine DC fun _=>?_;rw[ju hf,bs];refine DC fun f=>?_;have ho:=TS f;rw[nC d.hT,bs,WT,bs];simp only[WT,bs];have e:(if(!IF r.tc.ci)=true then some true else some (!IF r.tc.d3))=some (!Jp r.tc):=by
  grind [Jp,IF]
 rw [e,bs];have o:PE r=if Sj r≠0 then Sj r else if Jp r.tc=false then 11 else 0:=by
  grind [PE,Sj,EL]
 rw [o];by_cases j:Sj r=0
 .simp only[j,ne_eq,not_true_eq_false,if_false,decide_true,Bool.not_true,Bool.false_eq_true];cases hi:Jp r.tc
  .simp
  .simp only[Bool.not_true,Bool.false_eq_true,if_false,not_true_eq_false,Bool.true_eq_false];rw[cO ho.1,bs];dsimp only;rw[qn (ec:=Ip r) (ek:=Oh r) hf ho.1 ho.2 (fun x h=>He h) (fun x h=>He h),bs];refine Tv fun _=>?_;rw[cN hf _ d.cond,bs]
 .simp[j]
def Aa1(t:AC)(l:Fp):Bool:=!(l.any fun k=>t.ci.any fun n=>decide (n.Aac=k))
structure bF(t:AC)(r:gp):Prop where
 left:Di r.kl.d4
 ltyped:Ci t r.kl.d4=true
 right:Di r.em.d4
 AbQ:Ci t r.em.d4=true
 rtests:r.em.sr.length=0
 part:Wc r.kl.d4 r.x3
 mor:WG (MC r.kl.d4 r.x3) r.em.d4 r.tc
 inj:r.tc.ci.Nodup/\r.tc.d3.Nodup
variable{p:ea}
theorem md(h:Gz t p=0):Di p.d4/\Ci t p.d4=true:=by grind[Gz,DB]
theorem ZK(h:FT t r=0):(Av t).2=0/\bF t r:=by
 unfold FT at h;split at h
 .omega
 split at h
 .cases h
 split at h
 .omega
 split at h
 .omega
 split at h
 .omega
 rename_i o q u w x;have d:=md (t:=t) (p:=r.kl) (by omega);have f:=TS (t:=t) (r:=r) (by omega);have j:=jF (r:=r) (by omega);have hi:IF r.tc.ci=true/\IF r.tc.d3=true:=by
  grind [Jp]
 refine ⟨by omega,d.1,d.2,f.1,f.2,?_,?_,SX j.2.1,QI.1 hi.1,QI.1 hi.2⟩
 .grind[JB]
 grind [EL,UU]
end Go.Sf.Sc
namespace Go.Sf
variable{a b:Int}
theorem Sl{ρ:Type}{f:Int->Option (Bk Int ρ)}(p:Int->Bool)(v:ρ)(d:a<=b)(h:∀i,a<=i->i<b->f i=some (if p i=true then .ret v else .next (i+1)))(j:f b=some (.brk b)):EQ f a=some (if og p a b=true then .inr v else .inl b):=by
 rw [Lg (c:=fun i=>(if p i=true then some ()else none).map fun _=>.inr v) d]
 .grind[OQ,LT,og]
 .intro i o q _;rw[h i o q];cases p i<;>rfl
 .exact j
theorem G2{α:Type}{e:α->TV}{n:Nat}{l:List α}(h:TV.Sm (.list n (l.map e))):(l.length:Int)<=140737488351232/\∀x∈l,(e x).Sm:=by
 simp only[TV.Sm,c8]at h;refine⟨by have:=h.1;unfold reachBytes at this;omega,fun x d=>Si.1 h.2 _ (List.mem_map.2 ⟨x,d,rfl⟩)⟩
end Go.Sf
namespace Go.Sf.Sc
open Go Go.Sf
def Wi(a:kp):Bool:=(decide (40<(a.pq.size:Int))||decide (25<(a.t5.length:Int)))||og (fun i=>decide (40<((AA a.t5 i).size:Int))) 0 a.t5.length
theorem dx{a:kp}(h:Wi a=false):S6 a:=by
 unfold Wi at h;simp only[Bool.or_eq_false_iff,decide_eq_false_iff_not,Bb]at h;refine⟨by omega,by omega,fun x d=>?_⟩
 grind [BW]
variable{t:AC}
theorem Rj(T:(AN t).Sm):∃b,Jv t=some b/\(b=true->As t):=by
 have K:TV.Sms [_,_]:=T;obtain⟨w,N⟩:=G2 (e:=EZ) K.1;unfold Jv;by_cases hl:20<t.ci.length\/30<t.d3.length
 .rw[a6 (by simp;omega)]
  grind
 rw [ae (by simp;omega)];rcases QN (f:=(fun(A:Int)(Q:Int)=>
 (idx t.ci A).bind fun y=>
 (if(decide (30<(Af (Q+(y.up.length:Int)))))=true then some true else((idx t.ci A).bind fun E=>
 some (decide (40<(E.pq.size:Int))))).bind fun F=>
 if F=true then
 some (Bk.ret false)
 else
 fq (EQ (ρ:=Bool) (fun(s2:Int)=>
 (idx t.ci A).bind fun G=>
 if (decide (s2<(G.up.length:Int)))=true then
 (idx t.ci A).bind fun H=>
 (idx H.up s2).bind fun q=>
 if ((decide (40<(q.pq.size:Int)))||(decide (25<(q.t5.length:Int))))=true then
 some (.ret false)
 else
 fq (EQ (ρ:=Bool) (fun(x:Int)=>
 if (decide (x<(q.t5.length:Int)))=true then
 (idx q.t5 x).bind fun I=>
 if (decide (40<(I.size:Int)))=true then
 some (.ret false)
 else
 some (.next (Af (x+1)))
 else
 some (.brk x)) 0) (fun x=>
 some (.next (Af (s2+1)))) (fun U=>some (.ret U))
 else
 some (.brk s2)) 0) (fun s2=>
 some (.next (Af (Q+(y.up.length:Int))))) (fun V=>some (.ret V))))
  (fun i s=>0<=s/\s<=30/\∀j,0<=j->j<i->((AA t.ci j).pq.size:Int)<=40/\(AA t.ci j).up.length<=30/\∀a∈(AA t.ci j).up,S6 a) (fun _=>False) (fun r=>r=false) (a:=0) (b:=t.ci.length) (s:=0) (by omega) ⟨by omega,by omega,fun j z d=>by omega⟩ (fun i s B C W=>by
   have Z:=N _ (AK (l:=t.ci) B C);have L:TV.Sms [_,_,_,_]:=Z;obtain⟨ha,O⟩:=G2 (e:=GD) L.2.2.2.1;obtain⟨hI1,hI2,hI3⟩:=W;have hw:Af (s+(AA t.ci i).up.length)=s+(AA t.ci i).up.length:=Ao (by omega) (by omega);simp only[AD B C,bs,hw,R5];by_cases hc:30<s+(AA t.ci i).up.length\/40<((AA t.ci i).pq.size:Int)
   .grind
   rw [ae (by simpa using hc)];rw[Sl (fun j=>Wi (AA (AA t.ci i).up j)) false (b:=(AA t.ci i).up.length) (by omega)]
   .cases S:og (fun j=>Wi (AA (AA t.ci i).up j)) 0 (AA t.ci i).up.length
    .refine .inl ⟨_,rfl,by omega,by omega,fun j J D=>?_⟩
     grind [BW,dx,Bb]
    .exact .inr (.inr ⟨_,rfl,rfl⟩)
   .intro j J D;rw[a6 (by simpa using D),AD J D,bs];have hy:=O _ (AK (l:=(AA t.ci i).up) J D);have M:TV.Sms [_,_,_,_]:=hy;obtain⟨hm,_⟩:=G2 (e:=eS) M.2.2.2.1;unfold Wi;cases z:(decide (40<((AA (AA t.ci i).up j).pq.size:Int))||decide (25<((AA (AA t.ci i).up j).t5.length:Int)))
    .rw[ae (by decide),Sl (fun k=>decide (40<((AA (AA (AA t.ci i).up j).t5 k).size:Int))) false (b:=(AA (AA t.ci i).up j).t5.length) (by omega)]
     .cases og (fun k=>decide (40<((AA (AA (AA t.ci i).up j).t5 k).size:Int))) 0 (AA (AA t.ci i).up j).t5.length
      .rw[Bool.or_false,Ao (show -9223372036854775808<=j+1 by omega) (by omega)];rfl
      .rfl
     .intro k u o;rw[a6 (by simpa using o),AD u o,bs,Ao (show -9223372036854775808<=k+1 by omega) (by omega),Hq]
     .rw[ae (by simp)]
    .rfl
   .rw[ae (by simp)])with⟨s',z,d⟩|⟨r,z,d⟩
 .rw[z];rcases d with d|d
  .rw[Bi,BM (fun i=>decide (40<((AA t.d3 i).pq.size:Int))) false]
   .cases S:og (fun i=>decide (40<((AA t.d3 i).pq.size:Int))) 0 t.d3.length
    .refine⟨true,rfl,fun _=>⟨by omega,by omega,fun n w=>?_,fun n w=>?_,fun n w=>?_,fun e he=>?_⟩⟩
     .obtain⟨k,u,o,rfl⟩:=BW w;exact(d.2.2 k u o).1
     .obtain⟨k,u,o,rfl⟩:=BW w;exact(d.2.2 k u o).2.1
     .obtain⟨k,u,o,rfl⟩:=BW w;exact(d.2.2 k u o).2.2
     .obtain⟨k,u,o,rfl⟩:=BW he;have:=Bb.1 S k u o;simpa using this
    .exact⟨false,rfl,fun h=>by cases h⟩
   .intro i B C _;rw[AD B C,bs,Hq]
  .exact d.elim
 .rw[z];subst d;exact⟨false,rfl,fun h=>by cases h⟩
theorem Pm(p:ea):∃b,Ia p=some b/\(b=true->Mf p):=by
 refine ⟨_,rfl,fun h=>?_⟩;simp only[pc,zzX]at h;exact⟨by omega,by omega,by omega,by omega⟩
variable{a b:Int}
theorem Ut(h:0<=a)(d:a<=140737488351232)(j:0<=b)(f:b<=140737488351232):Af (a+b)=a+b:=Ao (by omega) (by omega)
variable{m:d5}
theorem Us(f:(An m).Sm):∃b,Jw m 140=some b/\(b=true->Zf m):=by
 have d:TV.Sms [_,_]:=f;have j:=(G2 (e:=eI) d.1).1;have o:=(G2 (e:=eI) d.2.1).1;refine⟨_,rfl,fun h=>?_⟩;rw[Ut (by omega) j (by omega) o]at h;simp only[zzX]at h;exact⟨by omega,by omega⟩
theorem eC{m:BA}(f:(GE m).Sm):∃b,PL m 140=some b/\(b=true->PV m):=by
 have d:TV.Sms [_,_]:=f;have j:=(G2 (e:=eI) d.1).1;have o:=(G2 (e:=eI) d.2.1).1;refine⟨_,rfl,fun h=>?_⟩;rw[Ut (by omega) j (by omega) o]at h;simp only[zzX]at h;exact⟨by omega,by omega⟩
variable{c:d6}
theorem Yp(h:(AJ c).Sm):(An c.Map).Sm/\(c.gn.length:Int)<=140737488351232/\∀k∈c.gn,(AJ k).Sm:=by
 have f:TV.Sms [_,_,_,_,_,_,_,_,_]:=h;obtain⟨_,d,j,o,_⟩:=f;rw[Lv]at d;obtain⟨q,u⟩:=G2 d;exact⟨⟨j,o,trivial⟩,q,u⟩
theorem Wx:∀(N:Nat)(c:d6),SizeOf.sizeOf c<=N->(AJ c).Sm->∀tn:Int,0<=tn->tn<=1000->∃r,(∀n,N<=n->CW n c tn=some r)/\-1<=r/\r<=tn-1/\(0<=r->DO c)
 |0,c,h,_,_,_,_=>by have:=D3 c;omega|N+1,c,h,hs,tn,m0,m1=>by
  obtain ⟨O,Q,B⟩:=Yp hs;obtain⟨S,E,T⟩:=Pm c.ea;obtain⟨U,I,V⟩:=Us O;have step:∀n,N+1<=n->∃m,n=m+1/\N<=m:=fun n d=>⟨n-1,by omega,by omega⟩;cases S
  .refine⟨-1,fun n d=>?_,by omega,by omega,fun h=>by omega⟩;obtain⟨n,rfl,_⟩:=step n d;rw[CW,E];rfl
  cases U
  .refine⟨-1,fun n d=>?_,by omega,by omega,fun h=>by omega⟩;obtain⟨n,rfl,_⟩:=step n d;rw[CW,E,bs,I];rfl
  have loop:∀(m:Nat)(k left:Int),0<=k->k+m=c.gn.length->-1<=left->left<=1000->∃f u,(∀n,N<=n->LI (ρ:=Int) (fun(q:Int×Int)=>
    if ((decide (q.2<(c.gn.length:Int)))&&(decide (0<=q.1)))=true then
    (idx c.gn q.2).bind fun x=>
    (CW n x q.1).bind fun y=>
    some (.next (y,Af (q.2+1)))
    else
    some (.brk (q.1,q.2))) (left,k) (.inl (f,u)))/\-1<=f/\f<=left/\(0<=f->∀j,k<=j->j<c.gn.length->DO (AA c.gn j)):=by
   intro m
   induction m with
   |zero=>
    intro k left C K D l1;refine⟨left,k,fun n d=>.brk ?_,D,by omega,fun _ j z w=>by omega⟩;rw[ae (by simp;omega)]
   |succ m ih=>
    intro k left C K D l1;by_cases L:0<=left
    .have o:=AK (l:=c.gn) C (by omega);have:=Ey o;obtain⟨r,W,Z,r3,r4⟩:=Wx N _ (by omega) (B _ o) left L l1;obtain⟨f,u,a1,F,J,G⟩:=ih (k+1) r (by omega) (by omega) Z (by omega);refine⟨f,u,fun n d=>.next (s':=(r,k+1)) ?_ (a1 n d),F,by omega,fun A j z w=>?_⟩
     .rw[a6 (by simp;omega),AD C (by omega),bs,W n d,bs,Ao (by omega) (by omega)]
     .by_cases M:j=k
      .subst M;exact r4 (by omega)
      .exact G A j (by omega) w
    .refine⟨left,k,fun n d=>.brk ?_,D,by omega,fun h=>by omega⟩;rw[ae (by simp;omega)]
  obtain ⟨f,u,a1,F,J,G⟩:=loop c.gn.length 0 (tn-1) (by omega) (by omega) (by omega) (by omega);refine⟨f,fun n d=>?_,F,J,fun A=>.mk c (T rfl) (V rfl) (fun k B=>?_)⟩
  .obtain⟨n,rfl,H⟩:=step n d;rw[CW,E,bs,I];simp only[bs,Bool.not_true,Bool.false_eq_true,if_false];rw[Ao (n:=tn-1) (by omega) (by omega),(a1 n H).eq,Bi]
  .obtain⟨j,z,w,rfl⟩:=BW B;exact G A j z w
theorem eA(d:(AJ c).Sm):∃b,Ib c=some b/\(b=true->DO c):=by
 obtain ⟨r,f,_,_,j⟩:=Wx (SizeOf.sizeOf c) c (az _) d 40 (by omega) (by omega);have e:OH c 40=some r:=EB (SizeOf.sizeOf c) f;unfold Ib;rw[e];exact⟨_,rfl,fun h=>j (by simpa using h)⟩
theorem ID{b:Bool}{o:K1}{c:Bool}(h:o=some c):(if b=true then o.bind fun x=>some x else some false)=some (b&&c):=by
 subst h;cases b<;>rfl
variable{r:gp}
theorem eD(d:(Bs r).Sm):∃b,Nk r=some b/\(b=true->PW r):=by
 have f:TV.Sms [_,_,_,_,_,_,_,_,_,_,_,_,_,_,_,_,_,_,_,_,_,_,_,_,_]:=d;obtain⟨_,_,_,_,_,_,_,_,_,_,_,j,o,q,u,_,w,x,c3,y,z,A,B,C,c9,_⟩:=f;obtain⟨N,D,E⟩:=Pm r.kl;obtain⟨O,F,G⟩:=Pm r.em;obtain⟨Q,H,I⟩:=eC (m:=r.x3) ⟨j,o,trivial⟩;obtain⟨S,J,K⟩:=Us (m:=r.tc) ⟨q,u,trivial⟩;obtain⟨T,L,M⟩:=eA (c:=r.d6) ⟨w,x,c3,y,z,A,B,C,c9,trivial⟩;unfold Nk;rw[ID D,bs,ID F,bs,ID H,bs,ID J,bs,ID L,bs];refine⟨_,rfl,fun h=>?_⟩;simp only[pc,zzX]at h;exact⟨h.1.1.1.1.1,E h.1.1.1.1.2,G h.1.1.1.2,I h.1.1.2,K h.1.2,M h.2⟩
end Go.Sf.Sc
