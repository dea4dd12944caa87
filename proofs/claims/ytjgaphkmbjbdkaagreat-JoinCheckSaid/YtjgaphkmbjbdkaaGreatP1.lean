/- Plain lemmas: what the functions of the program and of the reference compute. -/
import Derived.Test.YtjgaphkmbjbdkaaGreatSfRead
import Derived.Test.YtjgaphkmbjbdkaaGreatFns
import Derived.Test.YtjgaphkmbjbdkaaGreatSfPl
set_option linter.all false
set_option maxRecDepth 100000
namespace Go.Sf
theorem Xm{ρ τ:Type}{d:Int->Option ρ}{g:ρ->τ}:∀(n:Nat)(a:Int),FD (fun i=>(d i).map g) n a=(FD d n a).map g
 |0,_=>rfl|n+1,a=>by
  rw [FD,FD];cases d a with
  |some r=>rfl|none=>exact Xm n (a+1)
variable{a b:Int}
theorem QG{ρ τ:Type}{d:Int->Option ρ}{g:ρ->τ}:fst (fun i=>(d i).map g) a b=(fst d a b).map g:=Xm _ _
theorem Vp{ρ:Type}{d:Int->Option ρ}{r:ρ}:∀{n:Nat}{a:Int},FD d n a=some r->∃i,a<=i/\i<a+n/\d i=some r/\∀j,a<=j->j<i->d j=none
 |0,_,h=>by cases h
 |n+1,a,h=>by
  rw [FD]at h;cases hd:d a with
  |some w=>
   grind
  |none=>
   rw [hd]at h;obtain⟨i,f,o,q,u⟩:=Vp h
   grind
theorem Cu{ρ:Type}{d:Int->Option ρ}{r:ρ}(h:fst d a b=some r):∃i,a<=i/\i<b/\d i=some r/\∀j,a<=j->j<i->d j=none:=by
 obtain ⟨i,f,o,q,u⟩:=Vp h
 grind
def MW(p:Int->Bool)(s:ByteArray):Int:=(fst (fun i=>if p (bt s i)then none else some i) 0 s.size).getD s.size
theorem Tu(p:Int->Bool)(s:ByteArray):0<=MW p s/\MW p s<=s.size/\(∀j,0<=j->j<MW p s->p (bt s j)=true)/\(MW p s<s.size->p (bt s (MW p s))=false):=by
 unfold MW;cases h:fst (fun i=>if p (bt s i)then none else some i) 0 s.size with
 |none=>
  rw [BW]at h
  grind
 |some r=>
  grind [Cu,bt,Option.getD]
variable{s:ByteArray}
theorem bN(h:s≠⟨#[]⟩):0<s.size:=by
 rcases Nat.eq_zero_or_pos s.size with f|f
 .exfalso;apply h;cases s with|mk d=>congr 1;exact Array.eq_empty_of_size_eq_zero f
 .exact f
end Go.Sf
namespace Go.Sf.Sc
open Go Go.Sf
def F5(c:Int):Bool:=((decide (97<=c))&&(decide (c<=122)))||((decide (65<=c))&&(decide (c<=90)))
def w3(c:Int):Bool:=(decide (48<=c))&&(decide (c<=57))
def RL(c:Int):Bool:=F5 c||w3 c||decide (c=95)
theorem aU(c:Int):Lx c=some (F5 c):=rfl
theorem W6(c:Int):Kx c=some (w3 c):=rfl
theorem aw(c:Int):Lf c=some (F5 c):=rfl
theorem dW(c:Int):Iz c=some (w3 c):=rfl
theorem rM(c:Int):OO c=some (RL c):=by
 unfold OO RL;rw[aU,bs,W6]
 grind
variable{s:ByteArray}
theorem fU(d:(s.size:Int)<=4611686018427387904){ok:Int->K1}{p:Int->Bool}(h:∀c,ok c=some (p c)):Hi s ok=some (MW p s):=by
 unfold Hi;rw[Na (c:=fun i=>(if p (bt s i)then none else some i).map .inl) (a:=0) (b:=s.size) (by omega)]
 .rw[QG];unfold MW;cases fst (fun i=>if p (bt s i)=true then none else some i) 0 s.size<;>rfl
 .grind[QP,bt,Dc,Ay]
 .simp
def E5(s:ByteArray):Bool:=decide (0<s.size)&&F5 (bt s 0)&&decide (s.size<=20)&&decide (MW RL s=s.size)
theorem W4(l:List ByteArray)(v:ByteArray):∃k,slices_Index_string l v=some k/\(0<=k↔v∈l):=by
 unfold slices_Index_string;rw[Bn (fun i=>if(v==AA l i)=true then some i else none)]
 .cases h:fst (fun i=>if(v==AA l i)=true then some i else none) 0 l.length with
  |none=>
   rw [BW]at h;refine⟨-1,rfl,by omega,fun o=>?_⟩
   grind [Bb]
  |some k=>
   obtain ⟨i,d,f,q,_⟩:=Cu h;have j:(v==AA l i)=true/\i=k:=by
    grind
   obtain ⟨j,rfl⟩:=j;refine⟨i,rfl,fun _=>?_,fun _=>d⟩
   grind [AI]
 .intro i d f _;simp only[AD d f,bs];split<;>rfl
theorem Pp(l:List ByteArray)(v:ByteArray):slices_Contains_string l v=some (l.contains v):=by
 unfold slices_Contains_string;obtain⟨k,d,f⟩:=W4 l v
 grind
theorem rK(z:0<s.size)(w:(s.size:Int)<=4611686018427387904):∃k n e,KP s=some (k,n,e)/\(((decide (e=0))&&(decide (k=1)))&&(decide (n=(s.size:Int))))=E5 s:=by
 have F:=Tu RL s;unfold KP E5;simp only[QP (Int.le_refl 0) (show(0:Int)<s.size by omega),bs,aU,W6,fU w rM,fU w W6,z,decide_true,Bool.true_and];by_cases d:F5 (bt s 0)=true
 .rw[a6 d];by_cases f:20<MW RL s
  .refine⟨0,0,3,by simp[f],?_⟩;simp[d];intro E h;omega
  .refine⟨1,_,0,by rw[ae (by simpa using f)],?_⟩;simp only[d,decide_true,Bool.true_and];rw[Bool.eq_iff_iff];simp only[t2,o4];omega
 .rw[ae d];have j:F5 (bt s 0)=false:=by simpa using d
  rw [j,Bool.false_and,Bool.false_and];by_cases hd:w3 (bt s 0)=true
  .rw[a6 hd];by_cases x:9<MW w3 s
   .exact⟨0,0,3,by simp[x],by simp⟩
   .exact⟨2,_,0,by rw[ae (by simpa using x)],by simp⟩
  .rw[ae hd];by_cases y:bt s 0=34
   .have A:=Y4 (s:=s) (a:=1) (b:=s.size) (by omega) (by omega) (by omega);have o:∀c,MN c=some (((decide (32<=c))&&(decide (c<=126)))&&(!decide (c=34))):=fun _=>rfl;have B:=Tu (fun c=>((decide (32<=c))&&(decide (c<=126)))&&(!decide (c=34))) (s.extract (1:Int).toNat (s.size:Int).toNat);have q:∃n e,H5 s=some (n,e):=by
     unfold H5;rw[NZ (by omega) (by omega) (by omega),bs,fU (by omega) o,bs];rw[Ay (by omega) (by omega)];by_cases he:1+MW (fun c=>((decide (32<=c))&&(decide (c<=126)))&&(!decide (c=34))) (s.extract (1:Int).toNat (s.size:Int).toNat)=s.size
     .refine⟨0,2,?_⟩;simp only[he,decide_true,if_true,bs]
     .simp only[he,decide_false,Bool.false_eq_true,if_false];rw[QP (by omega) (by omega)];simp only[bs];split
      .exact⟨_,_,rfl⟩
      .split
       .exact⟨_,_,rfl⟩
       .exact⟨_,_,rfl⟩
    obtain ⟨n,e,u⟩:=q;refine⟨3,n,e,by rw[a6 (by simpa using y),u];rfl,by simp⟩
   .rw[ae (by simpa using y)];have C:∃b,ON s=some b:=by
     unfold ON;by_cases h:2<=(s.size:Int)
     .rw[a6 (by simpa using h),NZ (by omega) (by omega) h];simp only[bs,Pp];exact⟨_,rfl⟩
     .rw[ae (by simpa using h)];exact⟨_,rfl⟩
    obtain ⟨b,D⟩:=C;rw[D,bs];cases b
    .simp only[Bool.false_eq_true,if_false,strings_IndexByte,bs];split
     .exact⟨_,_,_,rfl,rfl⟩
     .exact⟨_,_,_,rfl,rfl⟩
    .exact⟨_,_,_,rfl,rfl⟩
theorem Ql(d:(s.size:Int)<=4611686018427387904):EB s=some (E5 s):=by
 unfold EB Ky;simp only[show decide ((1:Int)=3)=false from rfl,Bool.false_eq_true,if_false,bs];by_cases he:s=⟨#[]⟩
 .subst he;rfl
 grind [rK,bN]
theorem rf(q:(s.size:Int)<=4611686018427387904)(d:Bool):∃n,Lh s 0 d=some n/\0<=n/\n<=s.size/\(d=false->n=MW RL s):=by
 have h:=Tu (fun c=>w3 c||(!d&&(F5 c||decide (c=95)))) s;refine⟨MW (fun c=>w3 c||(!d&&(F5 c||decide (c=95)))) s,?_,h.1,h.2.1,fun hd=>?_⟩
 .unfold Lh;rw[Na (c:=fun i=>(if(w3 (bt s i)||(!d&&(F5 (bt s i)||decide (bt s i=95))))then none else some i).map .inl) (a:=0) (b:=s.size) (by omega)]
  .rw[QG];unfold MW;cases fst (fun i=>if(w3 (bt s i)||(!d&&(F5 (bt s i)||decide (bt s i=95))))=true then none else some i) 0 s.size<;>rfl
  .intro i o f _;have j:Am (0+i)=i:=by rw[Ay (by omega) (by omega)];omega
   simp only[j,f,decide_true,if_true,QP o f,bs,dW,aw]
   grind [w3,bt,F5,Dc,Ay]
  .have j:Am (0+(s.size:Int))=s.size:=by rw[Ay (by omega) (by omega)];omega
   grind
 .subst hd;congr 1
  grind [RL,F5,w3]
theorem lR(q:0<s.size)(u:(s.size:Int)<=4611686018427387904):∃n,Hw s 0=some n/\(n=0\/(2<=n/\n<=s.size)):=by
 unfold Hw;rw[Na (c:=fun i=>if decide (bt s i=34)=true then some (Sum.inr (i+1):Int ⊕ Int)else if(decide (bt s i<32)||decide (126<bt s i))=true then some (Sum.inr 0)else none) (a:=1) (b:=s.size) (by omega)]
 .cases h:fst (fun i=>if decide (bt s i=34)=true then some (Sum.inr (i+1):Int ⊕ Int)else if(decide (bt s i<32)||decide (126<bt s i))=true then some (Sum.inr 0)else none) 1 s.size with
  |none=>exact⟨0,rfl,.inl rfl⟩|some r=>
   obtain ⟨i,o,f,d,_⟩:=Cu h;split at d
   .cases d;exact⟨_,rfl,.inr (by omega)⟩
   .split at d
    .cases d;exact⟨_,rfl,.inl rfl⟩
    .cases d
 .intro i o f _;have j:Am (0+i)=i:=by rw[Ay (by omega) (by omega)];omega
  simp only[j,f,decide_true,if_true,QP (show 0<=i by omega) f,bs,Ay (show -9223372036854775808<=i+1 by omega) (by omega)];split
  .rfl
  .split<;>rfl
 .have j:Am (0+(s.size:Int))=s.size:=by rw[Ay (by omega) (by omega)];omega
  grind
theorem vL(O:0<s.size)(Q:(s.size:Int)<=4611686018427387904):∃t n e,Lg s 0=some (t,n,e)/\(((decide (e=0))&&(decide (n=(s.size:Int))))&&(decide (t.j0=1)))=E5 s:=by
 obtain ⟨m,M,u,w,N⟩:=rf Q (w3 (bt s 0));unfold Lg E5;simp only[QP (Int.le_refl 0) (show(0:Int)<s.size by omega),bs,aw,dW,O,decide_true,Bool.true_and,M];have S:Am (0+m)=m:=by rw[Ay (by omega) (by omega)];omega
 by_cases F:F5 (bt s 0)=true
 .have hd:w3 (bt s 0)=false:=by
   unfold F5 at F;unfold w3
   grind
  have W:=N hd;subst W;simp only[F,if_true,hd,Bool.false_eq_true,if_false,bs,S];by_cases q:20<MW RL s
  .refine⟨_,_,_,by rw[a6 (by simpa using q)],?_⟩
   grind
  .rw[ae (by simpa using q),NZ (Int.le_refl _) u w];refine⟨_,_,_,rfl,?_⟩
   grind
 .have G:F5 (bt s 0)=false:=by simpa using F
  simp only[G,Bool.false_eq_true,if_false,bs,Bool.false_and,S];by_cases hd:w3 (bt s 0)=true
  .simp only[hd,if_true,bs];by_cases T:9<m
   .exact⟨_,_,_,by rw[a6 (by simpa using T)],by simp⟩
   .rw[ae (by simpa using T),NZ (Int.le_refl _) u w];exact⟨_,_,_,rfl,by simp⟩
  .have H:w3 (bt s 0)=false:=by simpa using hd
   simp only[H,Bool.false_eq_true,if_false,bs];by_cases U:bt s 0=34
   .obtain⟨n,hn,y⟩:=lR O Q;rw[a6 (by simpa using U),hn,bs];rcases y with rfl|y
    .grind
    .rw[ae (by simp;omega)];split
     .grind
     .have Z:Am (0+1)=1:=by decide
      have e2:Am (0+n)=n:=by rw[Ay (by omega) (by omega)];omega
      rw [Z,e2,Ay (show -9223372036854775808<=n-1 by omega) (by omega),NZ (by omega) (by omega) (by omega)];exact⟨_,_,_,rfl,by simp⟩
   .rw[ae (by simpa using U)];unfold O3;rw[bs];generalize hL:([(⟨#[45,62]⟩:ByteArray),(⟨#[60,61]⟩:ByteArray),(⟨#[62,61]⟩:ByteArray),(⟨#[61,61]⟩:ByteArray),(⟨#[33,61]⟩:ByteArray),(⟨#[123]⟩:ByteArray),(⟨#[125]⟩:ByteArray),(⟨#[40]⟩:ByteArray),(⟨#[41]⟩:ByteArray),(⟨#[91]⟩:ByteArray),(⟨#[93]⟩:ByteArray),(⟨#[44]⟩:ByteArray),(⟨#[59]⟩:ByteArray),(⟨#[58]⟩:ByteArray),(⟨#[61]⟩:ByteArray),(⟨#[43]⟩:ByteArray),(⟨#[45]⟩:ByteArray),(⟨#[42]⟩:ByteArray),(⟨#[60]⟩:ByteArray),(⟨#[62]⟩:ByteArray),(⟨#[33]⟩:ByteArray),(⟨#[38]⟩:ByteArray),(⟨#[124]⟩:ByteArray),(⟨#[46]⟩:ByteArray),(⟨#[63]⟩:ByteArray)]:List ByteArray)=L;have I:∀x∈L,x.size<=2:=by subst hL;decide
    rcases SK (f:=(fun(h:Int)(V:FB)=>
      (idx L h).bind fun A=>
      (if(decide ((Am (0+(A.size:Int)))<=(s.size:Int)))=true then((idx L h).bind fun B=>
      (Aan s 0 (Am (0+(B.size:Int)))).bind fun C=>
      (idx L h).bind fun D=>
      some (C==D))else some false).bind fun E=>
      if E=true then
      (idx L h).bind fun j=>
      (idx L h).bind fun o=>
      some (CC.ret (FB.mk 4 j 0,(o.size:Int),(0:Int)))
      else
      some (CC.next V))) (fun _ s=>True) (fun _=>True) (fun r=>r.1.j0=4) (a:=0) (b:=L.length) (s:=FB.mk 0 (⟨#[]⟩:ByteArray) 0) (by omega) trivial (fun i t d z _=>by
      have hx:=I _ (AI d z);have J:Am (0+((AA L i).size:Int))=(AA L i).size:=by rw[Ay (by omega) (by omega)];omega
      simp only[AD d z,bs,J];by_cases K:((AA L i).size:Int)<=s.size
      .rw[a6 (by simpa using K),NZ (by omega) (by omega) K];simp only[bs];split
       .exact .inr (.inr ⟨_,rfl,rfl⟩)
       .exact .inl ⟨_,rfl,trivial⟩
      .rw[ae (by simpa using K)];simp only[bs];exact .inl ⟨_,rfl,trivial⟩)with⟨s',d,_⟩|⟨r,d,z⟩
    .rw[d];exact⟨_,_,_,rfl,by simp⟩
    .rw[d];exact⟨_,_,_,rfl,by simp[z]⟩
theorem Qm(d:(s.size:Int)<=4611686018427387904):D7 s=some (E5 s):=by
 unfold D7 Kl P5;simp only[show decide ((1:Int)=3)=false from rfl,Bool.false_eq_true,if_false,bs];by_cases he:s=⟨#[]⟩
 .subst he;rfl
 grind [vL,bN]
end Go.Sf.Sc
namespace Go.Sf
variable{ρ β:Type}
def nz(e:Int):QQ:=if e=0 then none else some e
theorem Me(e:Int):(if(!decide (e=0))=true then some (CC.ret e)else some (CC.next ()))=some (RW (nz e)):=by grind[nz,RW]
theorem qO(b:Bool)(r:ρ):(if b=true then some (CC.ret r)else some (CC.next ()))=some (RW (if b=true then some r else none)):=by
 cases b<;>rfl
variable{kr:ρ->Option β}
theorem Bt{σ:Type}{s:σ}{k:σ->Option β}:ek (some (.inl s)) k kr=k s:=rfl
theorem Pd{σ:Type}{r:ρ}{k:σ->Option β}:ek (some (.inr r)) k kr=kr r:=rfl
theorem EA(o:Option ρ)(k:Unit->Option β)(kr:ρ->Option β):ek (some (mz o)) k kr=match o with|none=>k ()|some r=>kr r:=by
 cases o<;>rfl
theorem Cw(o:QQ):ek (some (mz o)) (fun _=>some 0) (fun v=>some v)=some (o.getD 0):=by
 cases o<;>rfl
variable{a b:Int}
theorem Vq{c:Int->Int}(h:(fst (fun i=>nz (c i)) a b).getD 0=0):∀i,a<=i->i<b->c i=0:=by
 have:fst (fun i=>nz (c i)) a b=none:=by
  cases hf:fst (fun i=>nz (c i)) a b with
  |none=>rfl|some r=>
   grind [Option.getD,Cu,nz]
 grind [BW,nz]
variable{e:Int}
theorem Kk:nz e=none↔e=0:=by grind[nz]
theorem Uz{α:Type}[Inhabited α]{l:List α}{f:α->K1}{p:α->Bool}(h:∀x∈l,f x=some (p x)):
  (ek (hT (ρ:=Int) (fun(o:Int)(_:Unit)=>(idx l o).bind fun d=>(f d).bind fun j=>if j=true then some (.ret o)else some (.next ())) 0 (l.length:Int) ()) (fun _=>some (-1)) (fun w=>some w))=
   some ((fst (fun i=>if p (AA l i)=true then some i else none) 0 l.length).getD (-1)):=by
 rw [Bn (fun i=>if p (AA l i)=true then some i else none)]
 .rw[EA];cases fst (fun i=>if p (AA l i)=true then some i else none) 0 l.length<;>rfl
 .intro i q u _;rw[AD q u,bs,h _ (AI q u),bs,qO]
theorem Xt{α:Type}[Inhabited α]{l:List α}{p:α->Bool}:decide (0<=(fst (fun i=>if p (AA l i)=true then some i else none) 0 l.length).getD (-1))=l.any p:=by
 rw [IT,ll];cases h:fst (fun i=>if p (AA l i)=true then some i else none) 0 l.length with
 |none=>
  grind [BW,Option.isSome,Option.isSome_eq_false_iff,Option.isNone_iff_eq_none,AA]
 |some k=>
  grind [Cu,AA,Option.getD,Option.isSome,Option.isSome_iff_ne_none,BW]
theorem FH{α:Type}[Inhabited α]{l:List α}{f:α->K1}{p:α->Bool}(h:∀x∈l,f x=some (p x)):
  ((ek (hT (ρ:=Int) (fun(o:Int)(_:Unit)=>(idx l o).bind fun d=>(f d).bind fun j=>if j=true then some (.ret o)else some (.next ())) 0 (l.length:Int) ()) (fun _=>some (-1)) (fun q=>some q)).bind fun u=>some (decide (0<=u)))=some (l.any p):=by
 rw [Uz h,bs,Xt]
end Go.Sf
namespace Go.Sf.Sc
open Go Go.Sf
instance:Inhabited kg:=⟨⟨⟨#[]⟩,0,0,[]⟩⟩
instance:Inhabited CN:=⟨⟨⟨#[]⟩,0,false,[]⟩⟩
instance:Inhabited Cb:=⟨⟨⟨#[]⟩,0,0,0,0,0,0⟩⟩
instance:Inhabited Bk:=⟨⟨0,0,0⟩⟩
instance:Inhabited CP:=⟨⟨0,0,⟨0,0⟩⟩⟩
instance:Inhabited Test:=⟨⟨0,⟨0,0⟩,⟨0,0⟩⟩⟩
instance:Inhabited d7:=⟨⟨0,[],⟨[],[]⟩,⟨⟨[],[]⟩,[],0,[]⟩⟩⟩
variable{l:Fp}
theorem Qd{f:Int->K1}{p:Int->Bool}(h:∀x∈l,f x=some (p x)):A1 l f=some (l.any p):=FH h
theorem cY{l:List Bk}{f:Bk->K1}{p:Bk->Bool}(h:∀x∈l,f x=some (p x)):Be l f=some (l.any p):=FH h
theorem Zf{l:List d7}{f:d7->K1}{p:d7->Bool}(h:∀x∈l,f x=some (p x)):B2 l f=some (l.any p):=FH h
theorem bq{l:List CN}{p:CN->Bool}:CW l (fun x=>some (p x))=some (l.any p):=FH (fun _ _=>rfl)
theorem bn{l:List Cb}{p:Cb->Bool}:CU l (fun x=>some (p x))=some (l.any p):=FH (fun _ _=>rfl)
theorem nu{l:List kg}{p:kg->Bool}:Cv l (fun x=>some (p x))=some (l.any p):=FH (fun _ _=>rfl)
theorem Zg{p:Int->Bool}:A1 l (fun x=>some (p x))=some (l.any p):=FH (fun _ _=>rfl)
theorem cZ{l:List Bk}{p:Bk->Bool}:Be l (fun x=>some (p x))=some (l.any p):=FH (fun _ _=>rfl)
theorem cb{l:List CP}{p:CP->Bool}:Ce l (fun x=>some (p x))=some (l.any p):=FH (fun _ _=>rfl)
theorem qZ(l:Fp)(v:Int):slices_Index_int l v=some ((fst (fun i=>if decide (v=AA l i)=true then some i else none) 0 l.length).getD (-1)):=by
 have:=Uz (l:=l) (f:=fun x=>some (decide (v=x))) (p:=fun x=>decide (v=x)) (fun _ _=>rfl);unfold slices_Index_int
 grind
theorem LS(l:Fp)(v:Int):slices_Contains_int l v=some (l.any fun x=>decide (v=x)):=by grind[slices_Contains_int,qZ,Xt]
theorem nw(l:a5)(v:Bool):FX l v=some (l.any fun x=>v==x):=by
 have:=FH (l:=l) (f:=fun x=>some (v==x)) (p:=fun x=>v==x) (fun _ _=>rfl);unfold FX JM
 grind
structure Uo(a:kg):Prop where
 name:(a.ls.size:Int)<=40
 names:a.qo.length<=25
 each:∀x∈a.qo,(x.size:Int)<=40
structure Az(t:AC):Prop where
 ec:t.d3.length<=20
 ei:t.d4.length<=30
 name:∀n∈t.d3,(n.ls.size:Int)<=40
 AbF:∀n∈t.d3,n.q0.length<=30
 each:∀n∈t.d3,∀a∈n.q0,Uo a
 ename:∀e∈t.d4,(e.ls.size:Int)<=40
def par(t:AC)(i:Int):Int:=(AA t.d3 i).tl
def Eh(t:AC)(k:Int):Prop:=∀i,0<=i->i<k->-1<=par t i/\par t i<i
def CI(t:AC):Nat->Int->List kg
 |0,_=>[]|n+1,a=>if a<0 then[]else CI t n (par t a)++(AA t.d3 a).q0
def A6(t:AC)(a:Int):List kg:=CI t (a+1).toNat a
variable{t:AC}{a:Int}
theorem J0{n:Nat}(h:a<0):CI t n a=[]:=by
 cases n with
 |zero=>rfl|succ n=>rw[CI,a6 h]
variable{k:Int}
theorem NP(d:Eh t k):∀(n m:Nat)(a:Int),a<k->a<n->a<m->CI t n a=CI t m a
 |n,m,a,h,j,o=>by
  by_cases f:a<0
  .grind[J0]
  .cases n with
   |zero=>omega|succ n=>
    cases m with
    |zero=>omega|succ m=>
     rw [CI,CI,ae f,ae f];have:=d a (by omega) h;rw[NP d n m (par t a) (by omega) (by omega) (by omega)]
theorem Ni(hf:Az t)(f:k<=t.d3.length)(d:Eh t k):∀(n:Nat)(a:Int),a<k->((CI t n a).length:Int)<=30*n
 |0,_,_=>by simp[CI]|n+1,a,h=>by
  rw [CI];split
  .simp;omega
  .rename_i j;have o:=d a (by omega) h;have q:=Ni hf f d n (par t a) (by omega);have u:=hf.AbF _ (AI (l:=t.d3) (show 0<=a by omega) (by omega))
   grind
theorem Vb(hf:Az t)(h:k<=t.d3.length)(f:Eh t k):∀(n:Nat)(a:Int),a<k->∀x∈CI t n a,Uo x
 |0,_,_=>by simp[CI]|n+1,a,j=>by
  rw [CI];split
  .simp
  .rename_i o;have q:=f a (by omega) j;intro x d;rcases List.mem_append.1 d with d|d
   .exact Vb hf h f n (par t a) (by omega) x d
   .exact hf.each _ (AI (l:=t.d3) (show 0<=a by omega) (by omega)) x d
theorem HH(hf:Az t)(d:k<=t.d3.length)(f:Eh t k)(h:a<k):(A6 t a).length<=600:=by
 have:=Ni hf d f (a+1).toNat a h;have:=hf.ec;unfold A6;omega
theorem Nj(hf:Az t)(d:k<=t.d3.length)(f:Eh t k)(h:a<k):∀x∈A6 t a,Uo x:=Vb hf d f _ a h
theorem aN(hf:Az t)(j:k<=t.d3.length)(h:Eh t k):∀(n:Nat)(a:Int),0<=a->a<k->a<n->DR n t a=some (CI t n a)
 |0,_,_,_,_=>by omega|n+1,a,q,z,D=>by
  have A:=h a (by omega) z;have u:=Ni hf j h n (par t a) (by omega);have B:=hf.AbF _ (AI (l:=t.d3) q (by omega));have C:=hf.ec;rw[DR,CI,ae (by omega),AD q (by omega)];simp only[bs];show((if decide (0<=par t a)=true then(DR n t (par t a)).bind fun f=>some f else some []).bind _)=_;have e:(if decide (0<=par t a)=true then(DR n t (par t a)).bind fun f=>some f else some [])=some (CI t n (par t a)):=by
   by_cases o:0<=par t a
   .rw[a6 (by simpa using o),aN hf j h n (par t a) o (by omega) (by omega)];rfl
   .rw[ae (by simpa using o),J0 (by omega)]
  have w:(CI t n (par t a)).length+(AA t.d3 a).q0.length<=AZ:=by
   unfold AZ;have:((CI t n (par t a)).length:Int)<=30*n:=u;have x:CI t n (par t a)=CI t 20 (par t a):=by
    by_cases d:par t a<0
    .rw[J0 d,J0 d]
    .exact NP h n 20 (par t a) (by omega) (by omega) (by omega)
   have y:=Ni hf j h 20 (par t a) (by omega);rw[<-x]at y;omega
  rw [e,bs,AY w];rfl
theorem dN(hf:Az t)(d:k<=t.d3.length)(f:Eh t k)(h:0<=a)(j:a<k):Mu t a=some (A6 t a):=
 Dd (a+1).toNat fun n o=>by
  grind [aN,A6,NP]
theorem aj(hf:Az t)(h:k<=t.d3.length)(f:Eh t k):∀(n:Nat)(a:Int),-1<=a->a<k->a+1<n->D8 n t a=some (CI t n a)
 |0,_,_,_,_=>by omega|n+1,a,z,u,A=>by
  rw [D8,CI];by_cases d:a<0
  .grind
  .have w:=f a (by omega) u;have x:=hf.AbF _ (AI (l:=t.d3) (show 0<=a by omega) (by omega));have y:=hf.ec;rw[ae (by simpa using d),ae d,AD (by omega) (by omega)];simp only[bs];have j:CI t n (par t a)=CI t 20 (par t a):=by
    by_cases d:par t a<0
    .rw[J0 d,J0 d]
    .exact NP f n 20 (par t a) (by omega) (by omega) (by omega)
   have o:=Ni hf h f 20 (par t a) (by omega);rw[<-j]at o;have q:(CI t n (par t a)).length+(AA t.d3 a).q0.length<=AZ:=by unfold AZ;omega
   rw [show(AA t.d3 a).tl=par t a from rfl,aj hf h f n (par t a) (by omega) (by omega) (by omega),bs,AY (by simp;unfold AZ;omega)];simp only[bs,List.nil_append];rw[AY q];rfl
theorem dV(hf:Az t)(d:k<=t.d3.length)(f:Eh t k)(h:0<=a)(j:a<k):Mk t a=some (A6 t a):=
 Dd (a+2).toNat fun n o=>by
  grind [aj,A6,NP]
end Go.Sf.Sc
namespace Go.Sf.Sc
open Go Go.Sf
def La(l:List ByteArray):Int:=
 if (20:Int)<l.length then 3 else(fst (fun i=>if E5 (AA l i)=false then some 2 else if ll (fun j=>AA l j==AA l i) 0 i=true then some 5 else none) 0 l.length).getD 0
variable{b:Int}
theorem Zk{l:List ByteArray}{x:ByteArray}(d:0<=b)(f:b<=l.length):(l.take b.toNat).contains x=ll (fun j=>AA l j==x) 0 b:=by
 rw [List.contains_eq_any_beq,Qa d f]
 grind
theorem od{l:List ByteArray}(o:∀x∈l,(x.size:Int)<=40):JE l=some (La l):=by
 unfold JE La;by_cases d:(20:Int)<l.length
 .grind
 .rw[ae (by simpa using d),ae d];rw[Bn (fun i=>if E5 (AA l i)=false then some 2 else if ll (fun j=>AA l j==AA l i) 0 i=true then some 5 else none),Cw];intro i f h _;have q:=o _ (AI f h);rw[AD f h,bs,Ql (by omega),bs,JB f (by omega)];simp only[bs,Pp,Zk f (show i<=l.length by omega)];cases E5 (AA l i)<;>cases ll (fun j=>AA l j==AA l i) 0 i<;>rfl
theorem o6{l:List ByteArray}(o:∀x∈l,(x.size:Int)<=40):I0 l=some (La l):=by
 unfold I0 La;by_cases d:(20:Int)<l.length
 .grind
 .rw[ae (by simpa using d),ae d];rw[Bn (fun i=>if E5 (AA l i)=false then some 2 else if ll (fun j=>AA l j==AA l i) 0 i=true then some 5 else none),Cw];intro i f h _;have q:=o _ (AI f h);rw[AD f h,bs,Qm (by omega),bs,BQ (fun j=>AA l j==AA l i) 5]
  .cases E5 (AA l i)<;>cases ll (fun j=>AA l j==AA l i) 0 i<;>rfl
  grind [AD]
def Mv(all:List kg)(k:Int):Int:=
 let x:=AA all k
 if E5 x.ls=false then 2 else if ll (fun j=>(AA all j).ls==x.ls) 0 k=true then 5 else
 if x.qo.length=0 then(if -1000000<=x.Low/\x.Low<=x.z5/\x.z5<=1000000 then 0 else 6)else
 if La x.qo≠0 then La x.qo else if x.Low=0/\x.z5=x.qo.length-1 then 0 else 6
variable{k:Int}
theorem cA{d:List kg}(q:∀x∈d,Uo x)(o:0<=k)(u:k<d.length):FY (AA d k) (d.take k.toNat)=some (Mv d k):=by
 have j:=q _ (AI o u);have A:=j.name;unfold FY Mv;dsimp only;rw[Ql (by omega),bs,show(fun f=>JN f (AA d k))=(fun f=>some (f.ls==(AA d k).ls))from rfl,nu,bs,Qa o (by omega),od j.each,bs];have w:=j.names;have y:Am ((AA d k).qo.length-1)=(AA d k).qo.length-1:=Ay (by omega) (by omega);rw[y];have z:(AA d k).qo.length=0->La (AA d k).qo=0:=fun h=>by rw[List.eq_nil_of_length_eq_zero h];rfl
 generalize La (AA d k).qo=e at z|-;simp only[bs,t2,Bool.or_eq_true,o4,Bool.not_eq_true',decide_eq_false_iff_not,Bool.not_eq_false',Bool.or_eq_false_iff,Bool.and_eq_false_iff,ne_eq]
 repeat' (first|rfl|(exfalso;omega;done)|split)
 all_goals (first|rfl|(exfalso;omega)|omega|simp_all|(simp_all;omega))
theorem cF{x:kg}(d:Uo x):FR x=some (
 if x.qo.length=0 then(if -1000000<=x.Low/\x.Low<=x.z5/\x.z5<=1000000 then 0 else 6)else
 if La x.qo≠0 then La x.qo else if x.Low=0/\x.z5=x.qo.length-1 then 0 else 6):=by
 have f:=d.names;have h:Am (x.qo.length-1)=x.qo.length-1:=Ay (by omega) (by omega);unfold FR Ds;simp only[bs,h,o6 d.each];generalize La x.qo=e;simp only[bs,t2,Bool.or_eq_true,o4,Bool.not_eq_true',decide_eq_false_iff_not,Bool.not_eq_false',Bool.or_eq_false_iff,Bool.and_eq_false_iff,ne_eq]
 repeat' (first|rfl|(exfalso;omega;done)|split)
 all_goals (first|rfl|(exfalso;omega)|omega|simp_all|(simp_all;omega))
def JL(t:AC)(i:Int):Int:=
 let n:=AA t.d3 i
 if E5 n.ls=false then 2 else if ll (fun j=>(AA t.d3 j).ls==n.ls) 0 i=true then 5 else
 if n.tl< -1\/i<=n.tl then 6 else if 4<n.q0.length\/8<(A6 t i).length then 3 else
 (fst (fun k=>nz (Mv (A6 t i) k)) ((A6 t i).length-n.q0.length) (A6 t i).length).getD 0
variable{t:AC}{i:Int}
theorem Vd(d:0<=i):(AA t.d3 i).q0.length<=(A6 t i).length:=by
 unfold A6;rw[show(i+1).toNat=i.toNat+1 by omega,CI,ae (by omega),ba];omega
theorem Eh.next(h:Eh t i)(f:-1<=par t i)(o:par t i<i):Eh t (i+1):=by
 intro j d q;by_cases u:j=i
 .grind
 .exact h j d (by omega)
theorem rL(hf:Az t)(f:0<=i)(w:i<t.d3.length)(A:Eh t i):KT t i=some (JL t i):=by
 have C:=hf.name _ (AI f w);unfold KT JL;dsimp only;rw[AD f w,bs,Ql (by omega),bs,JB f (by omega),bs,show(fun q=>OQ q (AA t.d3 i))=(fun q=>some (q.ls==(AA t.d3 i).ls))from rfl,bq,bs,Qa f (by omega)];cases E5 (AA t.d3 i).ls
 .rfl
 .cases ll (fun j=>(AA t.d3 j).ls==(AA t.d3 i).ls) 0 i
  .by_cases h:(AA t.d3 i).tl< -1\/i<=(AA t.d3 i).tl
   .rcases h with h|h<;>simp[h]
   .have d:Eh t (i+1):=A.next (by unfold par;omega) (by unfold par;omega)
    have u:(decide ((AA t.d3 i).tl< -1)||decide (i<=(AA t.d3 i).tl))=false:=by
     rw [Bool.eq_false_iff];simpa using h
    rw [dN hf (k:=i+1) (by omega) d f (by omega),bs];have y:=HH hf (k:=i+1) (a:=i) (by omega) d (by omega);have z:=Vd (t:=t) f;have o:=Nj hf (k:=i+1) (a:=i) (by omega) d (by omega);rw[Ay (by omega) (by omega),Bn (fun k=>nz (Mv (A6 t i) k)),Cw]
    .simp only[u,h,Bool.not_true,Bool.false_eq_true,if_false];simp only[bs,t2,Bool.or_eq_true,o4,Bool.not_eq_true',decide_eq_false_iff_not,Bool.not_eq_false',Bool.or_eq_false_iff,Bool.and_eq_false_iff,ne_eq]
     repeat' (first|rfl|(exfalso;omega;done)|split)
     all_goals (first|rfl|(exfalso;omega)|omega|simp_all|(simp_all;omega))
    .intro k B x _;rw[AD (by omega) x,bs,JB (by omega) (by omega),bs,cA o (by omega) x,bs,Me]
  .rfl
theorem rd(hf:Az t)(h:0<=i)(q:i<t.d3.length)(A:Eh t i):KA t i=some (JL t i):=by
 have E:=hf.name _ (AI h q);have F:=hf.ec;unfold KA JL Ds;dsimp only;rw[AD h q,bs,Qm (by omega),bs,BQ (fun j=>(AA t.d3 j).ls==(AA t.d3 i).ls) 5]
 .cases E5 (AA t.d3 i).ls
  .rfl
  .cases ll (fun j=>(AA t.d3 j).ls==(AA t.d3 i).ls) 0 i
   .simp only[Bool.not_true,Bool.false_eq_true,if_false,Bt,bs];rw[Ay (by omega) (by omega)];by_cases w:(AA t.d3 i).tl< -1\/i<=(AA t.d3 i).tl
    .rw[a6,ae (by decide),a6 w];simp;omega
    .have d:Eh t (i+1):=A.next (by unfold par;omega) (by unfold par;omega)
     rw [ae (by simp;omega),ae (by decide),ae w];rw[dV hf (k:=i+1) (by omega) d h (by omega),bs];have x:=HH hf (k:=i+1) (a:=i) (by omega) d (by omega);have y:=Vd (t:=t) h;have f:=Nj hf (k:=i+1) (a:=i) (by omega) d (by omega);rw[Ay (by omega) (by omega)];rw[Bn (fun k=>nz (Mv (A6 t i) k)),Cw]
     .simp only[bs,t2,Bool.or_eq_true,o4,Bool.not_eq_true',decide_eq_false_iff_not,Bool.not_eq_false',Bool.or_eq_false_iff,Bool.and_eq_false_iff,ne_eq]
      repeat' (first|rfl|(exfalso;omega;done)|split)
      all_goals (first|rfl|(exfalso;omega)|omega|simp_all|(simp_all;omega))
     .intro k u o _;have z:=f _ (AI (show 0<=k by omega) o);have C:=z.name;simp only[AD (show 0<=k by omega) o,bs];rw[Qm (by omega),bs,BQ (fun j=>(AA (A6 t i) j).ls==(AA (A6 t i) k).ls) 5]
      .rw[cF z];simp only[bs,Me];unfold Mv;dsimp only;cases E5 (AA (A6 t i) k).ls
       .rfl
       .cases ll (fun j=>(AA (A6 t i) j).ls==(AA (A6 t i) k).ls) 0 k<;>rfl
      .intro j B D _;rw[AD B (by omega),bs];split<;>rfl
   .rfl
 .intro j u o _;rw[AD u (by omega),bs];split<;>rfl
def Nk(low high:Int):Bool:=((decide (0<=low))&&(decide (low<=40)))&&((decide (high=(-1)))||((decide (low<=high))&&(decide (high<=40))))
theorem ox(low high:Int):Kn low high=some (Nk low high):=by
 unfold Kn Nk Ds
 grind
def L5(t:AC)(i:Int):Int:=
 let x:=AA t.d4 i
 if E5 x.ls=false then 2 else if ll (fun j=>(AA t.d4 j).ls==x.ls) 0 i=true then 5 else
 if (0<=x.ib/\x.ib<t.d3.length)/\(0<=x.To/\x.To<t.d3.length)/\Nk x.AaQ x.Aav=true/\Nk x.Abi x.AaO=true then 0 else 6
theorem q9(hf:Az t)(d:0<=i)(h:i<t.d4.length):KQ t i=some (L5 t i):=by
 have o:=hf.ename _ (AI d h);unfold KQ L5 Ly;dsimp only;rw[AD d h,bs,Ql (by omega),bs,JB d (by omega),bs,show(fun f=>OP f (AA t.d4 i))=(fun f=>some (f.ls==(AA t.d4 i).ls))from rfl,bn,bs,Qa d (by omega)];simp[show∀a b,Kg a b=some (Nk a b)from fun _ _=>rfl];generalize E5 (AA t.d4 i).ls=b1;generalize ll (fun j=>(AA t.d4 j).ls==(AA t.d4 i).ls) 0 i=b2;generalize Nk (AA t.d4 i).AaQ (AA t.d4 i).Aav=b3;generalize Nk (AA t.d4 i).Abi (AA t.d4 i).AaO=b4;cases b1
 .rfl
 grind
theorem rU(hf:Az t)(o:0<=i)(q:i<t.d4.length):J9 t i=some (L5 t i):=by
 have w:=hf.ename _ (AI o q);have x:=hf.ec;unfold J9 L5 Ds;dsimp only;rw[AD o q,bs,Qm (by omega),bs,BQ (fun j=>(AA t.d4 j).ls==(AA t.d4 i).ls) 5]
 .simp only[Ay (show -9223372036854775808<=(t.d3.length:Int)-1 by omega) (by omega),ox,bs];generalize E5 (AA t.d4 i).ls=b1;generalize ll (fun j=>(AA t.d4 j).ls==(AA t.d4 i).ls) 0 i=b2;generalize Nk (AA t.d4 i).AaQ (AA t.d4 i).Aav=b3;generalize Nk (AA t.d4 i).Abi (AA t.d4 i).AaO=b4;cases b1
  .rfl
  .cases b2
   .cases b3<;>cases b4
    all_goals
     by_cases f:0<=(AA t.d4 i).ib/\(AA t.d4 i).ib<t.d3.length
     .have d:(AA t.d4 i).ib<=(t.d3.length:Int)-1:=by omega
      by_cases u:0<=(AA t.d4 i).To/\(AA t.d4 i).To<t.d3.length
      .have h:(AA t.d4 i).To<=(t.d3.length:Int)-1:=by omega
       simp [f,u,d,h,Bt]
      .have:(decide (0<=(AA t.d4 i).To)&&decide ((AA t.d4 i).To<=(t.d3.length:Int)-1))=false:=by rw[Bool.eq_false_iff];simp;omega
       simp [f,u,d,this,Bt]
     .have:(decide (0<=(AA t.d4 i).ib)&&decide ((AA t.d4 i).ib<=(t.d3.length:Int)-1))=false:=by rw[Bool.eq_false_iff];simp;omega
      simp [f,this,Bt]
   .rfl
 grind [AD]
def A7(t:AC):ByteArray×Int:=
 if t.d3.length=0 then(⟨#[]⟩,7)else if 12<t.d3.length\/20<t.d4.length then(⟨#[]⟩,3)else
 match fst (fun i=>(nz (JL t i)).map fun e=>((AA t.d3 i).ls,e)) 0 t.d3.length with
 |some r=>r|none=>(fst (fun i=>(nz (L5 t i)).map fun e=>((AA t.d4 i).ls,e)) 0 t.d4.length).getD (⟨#[]⟩,0)
theorem iF(h:JL t i=0):-1<=par t i/\par t i<i:=by grind[JL,par,AA]
theorem NG{α β:Type}{o:Option α}{g:α->β}:o.map g=none↔o=none:=by cases o<;>simp
theorem U5(h:∀j,0<=j->j<i->JL t j=0):Eh t i:=fun j d f=>iF (h j d f)
theorem UF{ρ:Type}(e:Int)(n:ByteArray):(if(!decide (e=0))=true then some (CC.ret (n,e))else some (CC.next ()))=some (RW ((nz e).map fun e=>(n,e))):=by grind[nz,RW]
theorem Oh(hf:Az t):Dl t=some (A7 t):=by
 unfold Dl A7;rw[Bn (fun i=>(nz (JL t i)).map fun e=>((AA t.d3 i).ls,e)),EA]
 .rw[Bn (fun i=>(nz (L5 t i)).map fun e=>((AA t.d4 i).ls,e)),EA]
  .cases fst (fun i=>(nz (JL t i)).map fun e=>((AA t.d3 i).ls,e)) 0 t.d3.length<;>cases fst (fun i=>(nz (L5 t i)).map fun e=>((AA t.d4 i).ls,e)) 0 t.d4.length
   all_goals dsimp only
   all_goals try simp only[Option.getD]
   all_goals
    simp only[bs,t2,Bool.or_eq_true,o4,Bool.not_eq_true',decide_eq_false_iff_not,Bool.not_eq_false',Bool.or_eq_false_iff,Bool.and_eq_false_iff,ne_eq]
    repeat' (first|rfl|(exfalso;omega;done)|split)
    all_goals (first|rfl|(exfalso;omega)|omega|simp_all|(simp_all;omega))
  .intro i d f _;rw[AD d f,bs,q9 hf d f,bs];exact UF (ρ:=Unit) _ _
 .intro i d f q;have u:Eh t i:=U5 fun j h o=>Kk.1 (NG.1 (q j h o));rw[AD d f,bs,rL hf d f u,bs];exact UF (ρ:=Unit) _ _
theorem QN(hf:Az t):EE t=some (A7 t):=by
 unfold EE A7;rw[Bn (fun i=>(nz (JL t i)).map fun e=>((AA t.d3 i).ls,e)),EA]
 .rw[Bn (fun i=>(nz (L5 t i)).map fun e=>((AA t.d4 i).ls,e)),EA]
  .cases fst (fun i=>(nz (JL t i)).map fun e=>((AA t.d3 i).ls,e)) 0 t.d3.length<;>cases fst (fun i=>(nz (L5 t i)).map fun e=>((AA t.d4 i).ls,e)) 0 t.d4.length
   all_goals dsimp only
   all_goals try simp only[Option.getD]
   all_goals
    simp only[bs,t2,Bool.or_eq_true,o4,Bool.not_eq_true',decide_eq_false_iff_not,Bool.not_eq_false',Bool.or_eq_false_iff,Bool.and_eq_false_iff,ne_eq]
    repeat' (first|rfl|(exfalso;omega;done)|split)
    all_goals (first|rfl|(exfalso;omega)|omega|simp_all|(simp_all;omega))
  .intro i d f _;simp only[rU hf d f,AD d f,bs];exact UF (ρ:=Unit) _ _
 .intro i d f q;have u:Eh t i:=U5 fun j h o=>Kk.1 (NG.1 (q j h o));simp only[rd hf d f u,AD d f,bs];exact UF (ρ:=Unit) _ _
end Go.Sf.Sc
namespace Go.Sf.Sc
open Go Go.Sf
theorem IC{α:Type}{c:Bool}{a b:α}:(if c=true then some a else some b)=some (if c=true then a else b):=by cases c<;>rfl
def M1(n:Int):Bool:=(decide (0<=n))&&(decide (n<=99))
def SJ(e:Bk)(n:Int):Bool:=M1 e.jj&&(decide (0<=e.ib)&&decide (e.ib<n))&&(decide (0<=e.To)&&decide (e.To<n))
def Bw(g:d5):Int:=
 if 40<g.d3.length\/80<g.d4.length then 3 else if(g.d3.any fun n=>!M1 n)=true then 6 else if(g.d4.any fun e=>!SJ e g.d3.length)=true then 6 else 0
structure DD(g:d5):Prop where
 ec:g.d3.length<=40
 ei:g.d4.length<=80
 kind:∀n∈g.d3,0<=n/\n<=99
 fit:∀e∈g.d4,(0<=e.jj/\e.jj<=99)/\(0<=e.ib/\e.ib<g.d3.length)/\(0<=e.To/\e.To<g.d3.length)
variable{g:d5}
theorem DF(h:Bw g=0):DD g:=by
 unfold Bw at h;split at h
 .cases h
 .split at h
  .cases h
  .split at h
   .cases h
   .rename_i o f d;refine⟨by omega,by omega,fun n j=>?_,fun e he=>?_⟩
    .rw[Bool.not_eq_true,List.any_eq_false]at f
     grind [M1]
    .rw[Bool.not_eq_true,List.any_eq_false]at d;have:=d e he;simp[SJ,M1,Bool.not_eq_true',t2]at this;omega
theorem rE{e:Bk}{n:Nat}(h:n<=40):Nx e n=some (SJ e n):=by
 unfold Nx Hv SJ M1;simp only[bs,Ay (show -9223372036854775808<=(n:Int)-1 by omega) (by omega)];have d:decide (e.ib<=(n:Int)-1)=decide (e.ib<n):=by rw[decide_eq_decide];omega
 have f:decide (e.To<=(n:Int)-1)=decide (e.To<n):=by rw[decide_eq_decide];omega
 rw [d,f];generalize (decide (0<=e.jj)&&decide (e.jj<=99))=b1;generalize (decide (0<=e.ib)&&decide (e.ib<n))=b2;cases b1<;>cases b2<;>simp
theorem MC(g:d5):DC g=some (Bw g):=by
 unfold DC Bw;by_cases h:40<g.d3.length\/80<g.d4.length
 .grind
 .rw[ae (by simp;omega),ae h,show Mz=(fun n=>some (!M1 n))from rfl,Zg,cY (p:=fun e=>!SJ e g.d3.length) (fun e _=>by
   grind [M0,rE])]
  grind
theorem NV(g:d5):EF g=some (Bw g):=by
 unfold EF Bw;by_cases h:40<g.d3.length\/80<g.d4.length
 .grind
 .rw[ae (by simp;omega),ae h,IT,IT,BQ (fun i=>!M1 (AA g.d3 i)) 6]
  .rw[BQ (fun i=>!SJ (AA g.d4 i) g.d3.length) 6]
   .cases ll (fun i=>!M1 (AA g.d3 i)) 0 g.d3.length
    .cases ll (fun i=>!SJ (AA g.d4 i) g.d3.length) 0 g.d4.length<;>rfl
    .rfl
   .intro i d f _;rw[AD d f,bs];unfold O4 SJ;simp[show∀n,ME n=some (M1 n)from fun _=>rfl]
    grind
  grind [AD,ME,AA,M1]
def C9(t:AC)(g:d5):Bool:=!(g.d3.any fun n=>decide (t.d3.length<=n))&&!(g.d4.any fun e=>decide (t.d4.length<=e.jj))
variable{t:AC}
theorem Gx(d:DD g)(h:C9 t g=true):(∀n∈g.d3,0<=n/\n<t.d3.length)/\∀e∈g.d4,0<=e.jj/\e.jj<t.d4.length:=by
 unfold C9 at h;simp[Bool.not_eq_true',t2]at h;refine⟨fun n f=>?_,fun e he=>?_⟩
 .have:=h.1 n f;have:=d.kind n f;omega
 .have:=h.2 e he;have:=d.fit e he;omega
theorem ot(t:AC)(g:d5):KI t g=some (C9 t g):=by grind[KI,C9,OH,Zg,OI,Bk,cZ]
theorem XE(h:DD g):Ha t g=some (C9 t g):=by
 unfold Ha C9;rw[IT,IT,BQ (fun i=>decide (t.d3.length<=AA g.d3 i)) false]
 .rw[BQ (fun i=>decide (t.d4.length<=(AA g.d4 i).jj)) false]
  .cases ll (fun i=>decide (t.d3.length<=AA g.d3 i)) 0 g.d3.length
   .cases ll (fun i=>decide (t.d4.length<=(AA g.d4 i).jj)) 0 g.d4.length<;>rfl
   .rfl
  .intro i d f _;have:=(h.fit _ (AI d f)).1.1;simp[AD d f]
   grind
 .intro i d f _;have:=(h.kind _ (AI d f)).1;simp[AD d f]
  grind
structure E0(t:AC):Prop where
 ec:t.d3.length<=12
 ei:t.d4.length<=20
 node:∀i:Int,0<=i->i<t.d3.length->JL t i=0
 edge:∀i:Int,0<=i->i<t.d4.length->L5 t i=0
theorem C4(h:(A7 t).2=0):E0 t:=by
 unfold A7 at h;split at h
 .cases h
 .split at h
  .cases h
  .rename_i u w;have f:∀i:Int,0<=i->i<t.d3.length->JL t i=0:=by
    grind [Cu,nz,Kk,NG,BW]
   have he:∀i:Int,0<=i->i<t.d4.length->L5 t i=0:=by
    split at h
    .rename_i r d;obtain⟨i,o,q,j,_⟩:=Cu d;rw[f i o q]at j;cases j
    .cases d:fst (fun i=>(nz (L5 t i)).map fun e=>((AA t.d4 i).ls,e)) 0 t.d4.length with
     |some r=>
      grind [Cu,nz]
     |none=>
      grind [Kk,NG,BW]
   exact ⟨by omega,by omega,f,he⟩
theorem E0.par(h:E0 t):Eh t t.d3.length:=U5 h.node
variable{i:Int}
theorem E0.ends(h:E0 t)(d:0<=i)(f:i<t.d4.length):(0<=(AA t.d4 i).ib/\(AA t.d4 i).ib<t.d3.length)/\(0<=(AA t.d4 i).To/\(AA t.d4 i).To<t.d3.length):=by
 have:=h.edge i d f
 grind [L5]
def K7(t:AC)(a:Int):Bool:=decide (0<=a)&&decide (a<t.d3.length)
variable{a:Int}
theorem MA:K7 t a=true↔0<=a/\a<t.d3.length:=by unfold K7;simp
theorem W7(hf:Az t)(l:Fp):GP t l=some (if(A7 t).2≠0 then(A7 t).2 else if(l.all (K7 t))=true then 0 else 6):=by
 unfold GP;rw[Oh hf,bs,Qd (p:=fun a=>!K7 t a) (fun a _=>by unfold M8 K7;rw[show decide (a<0)=!decide (0<=a)from by rw[<-decide_not,decide_eq_decide];omega,show decide ((t.d3.length:Int)<=a)=!decide (a<t.d3.length)from by rw[<-decide_not,decide_eq_decide];omega,Bool.not_and]),bs]
 grind
theorem dY(hf:Az t)(a b:Int):HV t a b=some (if(A7 t).2≠0 then(A7 t).2 else if(K7 t a&&K7 t b)=true then 0 else 6):=by
 have d:=hf.ec;have e:∀a,decide (a<=(t.d3.length:Int)-1)=decide (a<(t.d3.length:Int)):=fun a=>by rw[decide_eq_decide];omega
 unfold HV Ds;rw[QN hf,bs]
 grind [Ay,A7,K7]
theorem jV{α:Type}[Inhabited α]{l:List α}(d:0<=i)(f:i<l.length):BN l i (AA l i)=l:=by grind[BN,AA,List.getElem?_eq_getElem,List.set_getElem_self]
theorem BS{α:Type}[Inhabited α]{l:List α}(d:0<=i)(f:i<l.length):l.take (i+1).toNat=l.take i.toNat++[AA l i]:=by
 unfold AA;rw[show(i+1).toNat=i.toNat+1 by omega,List.take_add_one,List.getD_eq_getElem?_getD,List.getElem?_eq_getElem (by omega)];rfl
theorem Bm{α:Type}{l:List α}(h:l.length<=AZ):Ap [] l=some l:=by grind[AY]
def G3(t:AC)(a:Int):List kg×Int:=if(A7 t).2≠0 then([],(A7 t).2)else if K7 t a=true then(A6 t a,0)else([],6)
theorem Rs(hf:Az t)(a:Int):Eg t a=some (G3 t a):=by
 unfold Eg G3;rw[W7 hf,bs];by_cases h:(A7 t).2=0
 .have j:=C4 h;have e:[a].all (K7 t)=K7 t a:=by simp
  rw [e];simp[h];cases hi:K7 t a
  .rfl
  .rw[a6 rfl,a6 rfl];have o:=MA.1 hi;have D:=HH hf (Int.le_refl _) j.par o.2;have B:=Nj hf (Int.le_refl _) j.par o.2;rw[ae (by decide),dN hf (Int.le_refl _) j.par o.1 o.2,bs];obtain⟨s',C,rfl⟩:=ND (f:=(fun(q:Int)(u:List kg)=>
 (idx u q).bind fun w=>
 (slices_Clone_string w.qo).bind fun x=>
 (idx u q).bind fun d=>
 some (BN u q (kg.mk d.ls d.Low d.z5 x)))) (fun _ s=>s=A6 t a) (a:=0) (b:=(A6 t a).length) (s:=A6 t a) (by omega) rfl (fun i s y z A=>by
     subst A;have:=(B _ (AI y z)).names;refine⟨A6 t a,?_,rfl⟩;unfold slices_Clone_string;rw[AD y z,bs,Bm (by unfold AZ;omega),bs,bs];congr 1;exact jV y z)
   rw [C];rfl
 .simp[h,not_false_eq_true,decide_false]
theorem Rt(hf:Az t)(a:Int):Ed t a=some (G3 t a):=by
 unfold Ed G3;rw[dY hf,bs];by_cases h:(A7 t).2=0
 .have d:=C4 h;rw[Bool.and_self];simp only[h,ne_eq,not_true_eq_false,if_false];cases hi:K7 t a
  .rfl
  .rw[a6 rfl,a6 rfl];have f:=MA.1 hi;have u:=HH hf (Int.le_refl _) d.par f.2;have q:=Nj hf (Int.le_refl _) d.par f.2;rw[ae (by decide),dV hf (Int.le_refl _) d.par f.1 f.2,bs];rw[Bo (fun i=>(A6 t a).take i.toNat) (by omega) (by simp)]
   .rw[bs,Int.toNat_natCast,List.take_length]
   .intro i j o;have:=(q _ (AI j o)).names;rw[AD j o,bs,Bm (by unfold AZ;omega),bs,AY (by rw[bk];simp;unfold AZ;omega),BS j o];rfl
 grind
theorem SN(h:DD g):Bw g=0:=by
 have:=h.ec;have:=h.ei;unfold Bw;rw[ae (by omega),ae,ae]
 .intro k;obtain⟨e,he,k⟩:=List.any_eq_true.1 k;have:=h.fit e he;simp[SJ,M1]at k;omega
 .intro k;obtain⟨n,d,k⟩:=List.any_eq_true.1 k;have:=h.kind n d;simp[M1]at k;omega
end Go.Sf.Sc
namespace Go.Sf.Sc
open Go Go.Sf
def Jl(t:AC):Nat->Int->Fp
 |0,_=>[]|n+1,a=>if a<0 then[]else a::Jl t n (par t a)
variable{t:AC}{k:Int}
theorem jw(f:Eh t k):∀(n m:Nat)(a:Int),a<k->a<n->a<m->Jl t n a=Jl t m a
 |n,m,a,h,j,o=>by
  by_cases d:a<0
  .cases n<;>cases m<;>simp[Jl,d]
  .cases n with
   |zero=>omega|succ n=>
    cases m with
    |zero=>omega|succ m=>
     rw [Jl,Jl,ae d,ae d];have:=f a (by omega) h;rw[jw f n m (par t a) (by omega) (by omega) (by omega)]
theorem d9(t:AC):∀(n:Nat)(a:Int),(Jl t n a).length<=n
 |0,_=>by simp[Jl]|n+1,a=>by
  rw [Jl];split
  .simp
  .have:=d9 t n (par t a);simp;omega
def GD(t:AC)(a b:Int):Bool:=(Jl t (a+1).toNat a).any fun x=>decide (b=x)
theorem dE(f:t.d3.length<=12)(q:Eh t t.d3.length):∀(n:Nat)(a:Int)(l:Fp),a<t.d3.length->a<n->l.length+n<=1000 ->
  ∃x,NB (ρ:=Fp) (fun(d:Int×Fp)=>
 if (decide (0<=d.1))=true then
 (Ap d.2 [d.1]).bind fun h=>
 (idx t.d3 d.1).bind fun j=>
 some (.next (j.tl,h))
 else
 some (.brk (d.1,d.2))) (a,l) (.inl (x,l++Jl t n a))
 |0,a,l,o,u,_=>by
  refine ⟨a,.brk ?_⟩
  grind [Jl]
 |n+1,a,l,o,u,A=>by
  by_cases w:a<0
  .refine⟨a,.brk ?_⟩
   grind [Jl]
  .have y:=q a (by omega) o;obtain⟨x,z⟩:=dE f q n (par t a) (l++[a]) (by omega) (by omega) (by simp;omega);refine⟨x,.next (s':=(par t a,l++[a])) ?_ ?_⟩
   .rw[a6 (by simp;omega),AY (by simp;unfold AZ;omega),bs,AD (by omega) o];rfl
   grind [Jl,par]
variable{a b:Int}
theorem lF(h:E0 t)(o:0<=a)(d:a<t.d3.length):KS t a b=some (GD t a b):=by
 have f:=h.ec;obtain⟨x,j⟩:=dE f h.par (a+1).toNat a [] d (by omega) (by simp;omega);have q:=d9 t (a+1).toNat a;unfold KS MO;rw[j.eq,Bt]
 grind [slices_Reverse_int,AZ,LS,GD]
theorem al(d:Eh t t.d3.length)(j:0<=b):∀(n m:Nat)(a:Int),-1<=a->a<t.d3.length->a+1<n->a<m->Df n t a b=some ((Jl t m a).any fun x=>decide (b=x))
 |0,_,_,_,_,_,_=>by omega|n+1,m,a,q,h,u,w=>by
  rw [Df];by_cases f:a<0
  .rw[ae (by simp;omega),ae (by simp;omega)];cases m<;>simp[Jl,f]
  .cases m with
   |zero=>omega|succ m=>
    have o:=d a (by omega) h;rw[Jl,ae f,List.any_cons,a6 (show decide (0<=a)=true by simp;omega),AD (by omega) h];simp;rw[show(AA t.d3 a).tl=par t a from rfl,al d j n m (par t a) (by omega) (by omega) (by omega) (by omega)]
    grind
theorem UN(h:E0 t)(j:0<=a)(d:a<t.d3.length)(f:0<=b):GV t a b=some (GD t a b):=
 Dd (a+2).toNat fun n o=>al h.par f n (a+1).toNat a (by omega) d (by omega) (by omega)
def Mx(t:AC)(e f g:Int):Bool:=
 decide ((A7 t).2=0)&&(K7 t f&&K7 t g)&&(decide (0<=e)&&decide (e<t.d4.length))&&(GD t f (AA t.d4 e).ib&&GD t g (AA t.d4 e).To)
theorem iM(hf:Az t)(e f g:Int):It t e f g=some (Mx t e f g):=by
 unfold It Mx;rw[W7 hf,bs,show[f,g].all (K7 t)=(K7 t f&&K7 t g)by simp];by_cases h:(A7 t).2=0
 .simp only[h,ne_eq,not_true_eq_false,if_false];have d:=C4 h;cases hi:(K7 t f&&K7 t g)
  .rfl
  .rw[o4,MA,MA]at hi;by_cases he:0<=e/\e<t.d4.length
   .rw[ae (by simp;omega),AD he.1 he.2];simp[lF d hi.1.1 hi.1.2,lF d hi.2.1 hi.2.2,he.1,he.2,decide_true]
    grind
   grind
 .simp[h]
theorem ip(hf:Az t)(e f g:Int):Ih t e f g=some (Mx t e f g):=by
 have u:=hf.ei;unfold Ih Mx Ds;rw[dY hf,bs];by_cases h:(A7 t).2=0
 .simp only[h,ne_eq,not_true_eq_false,if_false];have d:=C4 h;cases hi:(K7 t f&&K7 t g)
  .rfl
  .rw[o4,MA,MA]at hi;rw[Ay (by omega) (by omega)];simp only[bs];by_cases he:0<=e/\e<t.d4.length
   .have j:=d.ends he.1 he.2;have o:e<=(t.d4.length:Int)-1:=by omega
    rw [ae (by simp),bs,ae (by simp[he.1,o]),AD he.1 he.2];simp[UN d hi.1.1 hi.1.2 j.1.1,UN d hi.2.1 hi.2.2 j.2.1,he.1,he.2,decide_true];cases GD t f (AA t.d4 e).ib<;>rfl
   .have:(decide (0<=e)&&decide (e<t.d4.length))=false:=by rw[Bool.eq_false_iff];simpa using he
    have q:(decide (0<=e)&&decide (e<=(t.d4.length:Int)-1))=false:=by rw[Bool.eq_false_iff];simp;omega
    rw [this,q];simp
 .simp[h]
def OM(n:Int)(x:gn):Bool:=(((decide ((-1)<=x.Var))&&(decide (x.Var<n)))&&(decide ((-1000000)<=x.Add)))&&(decide (x.Add<=1000000))
def PH(n:Int)(x:Test):Int:=if¬x.j0=1/\¬x.j0=2 then 1 else if(OM n x.gt&&OM n x.ee)=true then 0 else 6
def Kf(n:Int)(l:List Test):Int:=if n<0\/12<n then 6 else if 40<l.length then 3 else(fst (fun i=>nz (PH n (AA l i))) 0 l.length).getD 0
theorem rO(n:Int)(x:Test):JR n x=some (PH n x):=by
 unfold JR PH;simp only[show∀n x,IW n x=some (OM n x)from fun _ _=>rfl,bs];generalize OM n x.gt=b1;generalize OM n x.ee=b2;cases b1<;>cases b2
 all_goals
  simp only[bs,t2,Bool.or_eq_true,o4,Bool.not_eq_true',decide_eq_false_iff_not,Bool.not_eq_false',Bool.or_eq_false_iff,Bool.and_eq_false_iff,ne_eq]
  repeat' (first|rfl|(exfalso;omega;done)|split)
  all_goals (first|rfl|(exfalso;omega)|omega|simp_all|(simp_all;omega))
theorem lY(n:Int)(x:gn):JY n x=some (if OM n x=true then 0 else 6):=by
 unfold JY OM;simp only[bs,t2,Bool.or_eq_true,o4,Bool.not_eq_true',decide_eq_false_iff_not,Bool.not_eq_false',Bool.or_eq_false_iff,Bool.and_eq_false_iff,ne_eq]
 repeat' (first|rfl|(exfalso;omega;done)|split)
 all_goals (first|rfl|(exfalso;omega)|omega|simp_all|(simp_all;omega))
theorem ri(n:Int)(x:Test):PW n x=some (PH n x):=by
 unfold PW PH;simp only[lY,bs];generalize OM n x.gt=b1;generalize OM n x.ee=b2;cases b1<;>cases b2
 all_goals
  simp only[bs,t2,Bool.or_eq_true,o4,Bool.not_eq_true',decide_eq_false_iff_not,Bool.not_eq_false',Bool.or_eq_false_iff,Bool.and_eq_false_iff,ne_eq]
  repeat' (first|rfl|(exfalso;omega;done)|split)
  all_goals (first|rfl|(exfalso;omega)|omega|simp_all|(simp_all;omega))
theorem oo(n:Int)(l:List Test):Ht n l=some (Kf n l):=by
 unfold Ht Kf;rw[Bn (fun i=>nz (PH n (AA l i))),Cw]
 .simp only[bs,t2,Bool.or_eq_true,o4,Bool.not_eq_true',decide_eq_false_iff_not,Bool.not_eq_false',Bool.or_eq_false_iff,Bool.and_eq_false_iff,ne_eq]
  repeat' (first|rfl|(exfalso;omega;done)|split)
  all_goals (first|rfl|(exfalso;omega)|omega|simp_all|(simp_all;omega))
 .intro i d f _;rw[AD d f,bs,rO,bs,Me]
theorem pE(n:Int)(l:List Test):Mj n l=some (Kf n l):=by
 unfold Mj Kf;rw[Bn (fun i=>nz (PH n (AA l i))),Cw]
 .simp only[bs,t2,Bool.or_eq_true,o4,Bool.not_eq_true',decide_eq_false_iff_not,Bool.not_eq_false',Bool.or_eq_false_iff,Bool.and_eq_false_iff,ne_eq]
  repeat' (first|rfl|(exfalso;omega;done)|split)
  all_goals (first|rfl|(exfalso;omega)|omega|simp_all|(simp_all;omega))
 .intro i d f _;rw[AD d f,bs,ri,bs,Me]
def R8(t:AC)(p:ea)(node ix:Int):kg×Bool:=
 if node<0\/p.d5.d3.length<=node then(default,false)else
 let l:=(G3 t (AA p.d5.d3 node)).1
 if ix<0\/l.length<=ix then(default,false)else(AA l ix,true)
theorem Vc(hf:Az t)(a:Int):(G3 t a).1.length<=600/\((G3 t a).2≠0->(G3 t a).1=[]):=by
 unfold G3;split
 .simp
 .rename_i h;have d:=C4 (t:=t) (by omega);split
  .rename_i hi;exact⟨HH hf (Int.le_refl _) d.par (MA.1 hi).2,by simp⟩
  .simp
variable{p:ea}
theorem oW(hf:Az t)(d:DD p.d5)(s:CP):Fy t p s=some (R8 t p s.po s.kg):=by
 have j:=d.ec;unfold Fy R8 Cs;dsimp only;rw[Ay (by omega) (by omega),bs];by_cases h:s.po<0\/p.d5.d3.length<=s.po
 .rw[a6 (by simp;omega),a6 h];rfl
 .rw[ae (by simp;omega),ae h,AD (by omega) (by omega),bs,Rs hf,bs];have o:=(Vc hf (AA p.d5.d3 s.po)).1;rw[Ay (by omega) (by omega),bs];by_cases f:s.kg<0\/(G3 t (AA p.d5.d3 s.po)).1.length<=s.kg
  .rw[a6 (by simp;omega),a6 f];rfl
  grind [AD]
theorem ov(hf:Az t)(node d:Int):KF t p node d=some (R8 t p node d):=by
 unfold KF R8;dsimp only;by_cases h:node<0\/p.d5.d3.length<=node
 .rw[a6 (by simp;omega),a6 h];rfl
 .rw[ae (by simp;omega),ae h,AD (by omega) (by omega),bs,Rt hf,bs];have j:=(Vc hf (AA p.d5.d3 node)).2;by_cases f:d<0\/(G3 t (AA p.d5.d3 node)).1.length<=d
  .rw[a6 (by simp;omega),a6 f];rfl
  grind [G3,AA,AD]
end Go.Sf.Sc
namespace Go.Sf
variable{σ ρ:Type}
def dj(s:σ)(o:Option ρ):CC σ ρ:=match o with
 |none=>.next s|some r=>.ret r
def jZ(s:σ)(o:Option ρ):σ ⊕ ρ:=match o with
 |none=>.inl s|some r=>.inr r
theorem Z1{f:Int->σ->Option (CC σ ρ)}(g:Int->σ)(c:Int->Option ρ):∀(n:Nat)(a:Int),
  (∀i,a<=i->i<a+n->(∀j,a<=j->j<i->c j=none)->f i (g i)=some (dj (g (i+1)) (c i)))->wb f n a (g a)=some (jZ (g (a+n)) (FD c n a))
 |0,a,_=>by simp[wb,FD,jZ]|n+1,a,h=>by
  have q:=h a (Int.le_refl _) (by omega) (fun j d o=>by omega);rw[GF,q,FD];cases y:c a with
  |some r=>rfl|none=>
   simp only[dj];rw[show a+((n+1:Nat):Int)=a+1+n by omega];refine Z1 g c n (a+1) (fun i d o u=>h i (by omega) (by omega) (fun j w x=>?_))
   grind
variable{a b:Int}
theorem Hk{f:Int->σ->Option (CC σ ρ)}(g:Int->σ)(c:Int->Option ρ){s:σ}(d:a<=b)(o:s=g a)(h:∀i,a<=i->i<b->(∀j,a<=j->j<i->c j=none)->f i (g i)=some (dj (g (i+1)) (c i))):hT f a b s=some (jZ (g b) (fst c a b)):=by
 subst o;unfold hT fst;have:=Z1 g c (b-a).toNat a (fun i q w u=>h i q (by omega) u)
 grind
variable{α:Type}
variable{e:Int}
theorem Dz{X:QQ}{Y:Int}(h:e=0->X=some Y):(if(!decide (e=0))=true then some e else X)=some (if e≠0 then e else Y):=by grind
variable{v:α}{X:Option α}{Y:α}
theorem FG(h:e=0->X=some Y):(if(!decide (e=0))=true then some v else X)=some (if e≠0 then v else Y):=by grind
variable{P:Prop}
theorem Nl[Decidable P]{b:Bool}(d:b=true↔P)(h:¬P->X=some Y):(if b=true then some v else X)=some (if P then v else Y):=by grind
theorem Vh{b:Bool}(h:b=true->X=some Y):(if(!b)=true then some v else X)=some (if b=false then v else Y):=by grind
theorem Zh{b:Bool}(h:b=false->X=some Y):(if b=true then some v else X)=some (if b=true then v else Y):=by grind
end Go.Sf
namespace Go.Sf.Sc
open Go Go.Sf
def SB(t:AC)(p:ea)(s:CP):Bool:=!(R8 t p s.po s.kg).2||decide (s.gn.Var< -1)||decide (p.fa<=s.gn.Var)||(decide (s.gn.Add< -1000000)||decide (1000000<s.gn.Add))
def Lb(p:ea)(v:Int):Bool:=p.em.any fun s=>decide (s.gn.Var=v)
def ID(t:AC)(p:ea):Int:=
 if (A7 t).2≠0 then(A7 t).2 else if Bw p.d5≠0 then Bw p.d5 else if C9 t p.d5=false then 13 else
 if p.fa<0\/12<p.fa then 6 else if 10<p.em.length\/10<p.kq.length then 3 else
 if (p.em.any (SB t p))=true then 6 else if Kf p.fa p.kq≠0 then Kf p.fa p.kq else
 if ll (fun v=>!Lb p v) 0 p.fa=true then 9 else 0
def KU(p:ea)(i:Int):a5:=(List.range p.fa.toNat).map fun(v:Nat)=>(p.em.take i.toNat).any fun s=>decide (s.gn.Var=(v:Int))
variable{p:ea}
theorem gE:KU p 0=List.replicate p.fa.toNat false:=by
 unfold KU;refine List.ext_getElem (by simp) (fun n d f=>by simp)
theorem jy(p:ea)(i:Int):(KU p i).length=p.fa.toNat:=by simp[KU]
variable{i:Int}
theorem jz(d:0<=i)(f:i<p.em.length)(hv:0<=(AA p.em i).gn.Var):BN (KU p i) (AA p.em i).gn.Var true=KU p (i+1):=by
 unfold BN;refine List.ext_getElem (by simp[KU]) (fun n h j=>?_);simp[KU,BS d f]
 grind
theorem gD(d:0<=i)(f:i<p.em.length)(hv:(AA p.em i).gn.Var<0):KU p i=KU p (i+1):=by
 refine List.ext_getElem (by simp[KU]) (fun n h j=>?_);simp[KU,BS d f]
 grind
theorem jx(p:ea):((KU p p.em.length).any fun x=>false==x)=ll (fun v=>!Lb p v) 0 p.fa:=by
 rw [Bool.eq_iff_iff,List.any_eq_true,D4];simp only[KU,Int.toNat_natCast,List.take_length,List.mem_map,List.mem_range];constructor
 .rintro⟨x,⟨v,hv,rfl⟩,d⟩;refine⟨v,by omega,by omega,?_⟩
  grind [Lb]
 .rintro⟨v,f,h,d⟩;refine⟨_,⟨v.toNat,by omega,rfl⟩,?_⟩
  grind [Int.toNat_of_nonneg,Lb]
theorem cx{α ρ:Type}[Inhabited α]{l:List α}{q:α->Bool}{v:ρ}:fst (fun i=>if q (AA l i)=true then some v else none) 0 l.length=if l.any q=true then some v else none:=by
 rw [NQ,IT]
variable{t:AC}
theorem WI(hf:Az t)(p:ea):DV t p=some (ID t p):=by
 unfold DV ID;rw[Oh hf,bs,MC,bs];refine Dz fun F=>Dz fun D=>?_;have x:=DF D;have e:((A1 p.d5.d3 (fun d=>G0 d t)).bind fun o=>
   (if o=true then some true else((Be p.d5.d4 (fun d=>G2 d t)).bind fun q=>some (q))))=some (!C9 t p.d5):=by
  unfold C9;rw[show(fun d=>G0 d t)=(fun(n:Int)=>some (decide (t.d3.length<=n)))from rfl,Zg,show(fun d=>G2 d t)=(fun(e:Bk)=>some (decide (t.d4.length<=e.jj)))from rfl,cZ];simp only[bs];cases p.d5.d3.any fun n=>decide (t.d3.length<=n)<;>simp
 rw [<-Option.bind_assoc,e,bs];refine Vh fun E=>?_;unfold Cs;simp only[bs];refine Nl (by simp;try omega) fun hv=>Nl (by simp;try omega) fun G=>?_;unfold JW;rw[a6 (by omega),bs,<-gE,Ay (show -9223372036854775808<=p.fa-1 by omega) (by omega),Hk (KU p) (fun i=>if SB t p (AA p.em i)=true then some 6 else none) (by omega) rfl,cx]
 .cases f:p.em.any (SB t p)
  .simp only[Bool.false_eq_true,if_false,jZ,Bt,oo,bs,nw,jx];by_cases h:Kf p.fa p.kq=0
   .simp[h];cases ll (fun v=>!Lb p v) 0 p.fa<;>rfl
   .simp[h]
  .rfl
 .intro i u w _;rw[AD u w,bs,oW hf x,bs];unfold SB;by_cases f:(R8 t p (AA p.em i).po (AA p.em i).kg).2=true
  .by_cases C:(AA p.em i).gn.Var< -1\/p.fa<=(AA p.em i).gn.Var
   .have y:(decide (-1<=(AA p.em i).gn.Var)&&decide ((AA p.em i).gn.Var<=p.fa-1))=false:=by rw[Bool.eq_false_iff];simp;omega
    have z:(decide ((AA p.em i).gn.Var< -1)||decide (p.fa<=(AA p.em i).gn.Var))=true:=by simp;omega
    rw [f,y,Bool.or_assoc (!true),z];rfl
   .have y:(decide (-1<=(AA p.em i).gn.Var)&&decide ((AA p.em i).gn.Var<=p.fa-1))=true:=by simp;omega
    have z:(decide ((AA p.em i).gn.Var< -1)||decide (p.fa<=(AA p.em i).gn.Var))=false:=by rw[Bool.eq_false_iff];simp;omega
    rw [f,y,Bool.or_assoc (!true),z];by_cases H:(AA p.em i).gn.Add< -1000000\/1000000<(AA p.em i).gn.Add
    .have A:(decide (-1000000<=(AA p.em i).gn.Add)&&decide ((AA p.em i).gn.Add<=1000000))=false:=by rw[Bool.eq_false_iff];simp;omega
     have B:(decide ((AA p.em i).gn.Add< -1000000)||decide (1000000<(AA p.em i).gn.Add))=true:=by simp;omega
     rw [A,B];rfl
    .have A:(decide (-1000000<=(AA p.em i).gn.Add)&&decide ((AA p.em i).gn.Add<=1000000))=true:=by simp;omega
     have B:(decide ((AA p.em i).gn.Add< -1000000)||decide (1000000<(AA p.em i).gn.Add))=false:=by rw[Bool.eq_false_iff];simp;omega
     rw [A,B];by_cases j:0<=(AA p.em i).gn.Var
     .simp[j,decide_true];rw[AD j (by rw[jy];omega),bs,jz u w j];rfl
     .simp[j,decide_false];rw[gD u w (by omega)];rfl
  .rw[Bool.not_eq_true]at f;rw[f];rfl
theorem nN(p:ea)(v:Int):Lj p v=some (Lb p v):=by
 unfold Lj Lb;rw[BQ (fun i=>decide ((AA p.em i).gn.Var=v)) true,IT]
 .cases ll (fun i=>decide ((AA p.em i).gn.Var=v)) 0 p.em.length<;>rfl
 .intro i d f _;rw[AD d f,bs,IC]
theorem ZM(hf:Az t)(p:ea):FK t p=some (ID t p):=by
 unfold FK ID;rw[QN hf,bs,NV,bs];refine Dz fun u=>Dz fun o=>?_;have f:=DF o;rw[XE f,bs];refine Vh fun q=>Nl (by simp;try omega) fun hv=>Nl (by simp;try omega) fun w=>?_;rw[BQ (fun i=>SB t p (AA p.em i)) 6,<-IT]
 .cases x:p.em.any (SB t p)
  .simp only[Bool.false_eq_true,if_false,Bt,pE,bs];by_cases d:Kf p.fa p.kq=0
   .simp only[d];rw[BQ (fun v=>!Lb p v) 9]
    .cases ll (fun v=>!Lb p v) 0 p.fa<;>rfl
    .intro i h j _;rw[nN,bs,IC]
   .simp[d]
  .rfl
 .intro i h j _;rw[AD h j,bs,ov hf,bs];unfold SB M2
  grind
def PF(t:AC)(p:ea)(i:Int):Int:=
 let s:=AA p.em i
 if s.po<0\/p.d5.d3.length<=s.po then 6 else
 let l:=(G3 t (AA p.d5.d3 s.po)).1
 if ((((((decide (s.kg<0))||(decide ((l.length:Int)<=s.kg)))||(decide (s.gn.Var<(-1))))||(decide (p.fa<=s.gn.Var)))||(decide (s.gn.Add<(-1000000))))||(decide (1000000<s.gn.Add)))=true then 6 else
 if ll (fun j=>(decide ((AA p.em j).po=s.po))&&(decide ((AA p.em j).kg=s.kg))) 0 i=true then 5 else 0
theorem rN(hf:Az t)(r:eg)(d:0<=i)(f:i<r.ee.em.length):Ls t r i=some (PF t r.ee i):=by
 unfold Ls PF;dsimp only;rw[AD d f,bs];refine Nl (by simp) fun h=>?_;rw[AD (by omega) (by omega),bs,Rs hf,bs,JB d (by omega),bs,
  show (fun j=>PD j (AA r.ee.em i))=(fun y=>some ((decide (y.po=(AA r.ee.em i).po))&&(decide (y.kg=(AA r.ee.em i).kg))))from rfl,cb,bs,Qa d (by omega)]
 grind
theorem rg(hf:Az t)(p:ea)(d:0<=i)(f:i<p.em.length):KG t p i=some (PF t p i):=by
 unfold KG PF;dsimp only;rw[AD d f,bs];refine Nl (by simp) fun h=>?_;rw[AD (by omega) (by omega),bs,Rt hf,bs,
  BQ (fun j=>(decide ((AA p.em j).po=(AA p.em i).po))&&(decide ((AA p.em j).kg=(AA p.em i).kg))) 5]
 .refine Zh fun _=>?_;cases ll (fun j=>(decide ((AA p.em j).po=(AA p.em i).po))&&(decide ((AA p.em j).kg=(AA p.em i).kg))) 0 i<;>rfl
 grind [AD,AA,kg]
def Kd(t:AC)(r:eg):Int:=
 if Bw r.ee.d5≠0 then Bw r.ee.d5 else if C9 t r.ee.d5=false then 13 else
 if r.ee.fa≠r.gt.fa\/0<r.ee.kq.length then 1 else if 10<r.ee.em.length then 3 else
 (fst (fun i=>nz (PF t r.ee i)) 0 r.ee.em.length).getD 0
theorem oe(hf:Az t)(r:eg):KH t r=some (Kd t r):=by
 unfold KH Kd;rw[MC,bs,ot,bs,Bn (fun i=>nz (PF t r.ee i)),Cw]
 .grind
 grind [rN,Me]
theorem o8(hf:Az t)(r:eg):I9 t r=some (Kd t r):=by
 unfold I9 Kd;rw[NV,bs];refine Dz fun d=>?_;rw[XE (DF d),bs,Bn (fun i=>nz (PF t r.ee i)),Cw]
 .grind
 grind [rg,Me]
end Go.Sf.Sc
namespace Go.Sf
variable{a b:Int}
theorem ez{ρ:Type}{c d:Int->Option ρ}(h:∀i,c i=d i):fst c a b=fst d a b:=by rw[funext h]
def DJ(l:Fp)(v:Int):Int:=(fst (fun i=>if decide (v=AA l i)=true then some i else none) 0 l.length).getD (-1)
variable{l:Fp}
theorem IF{v:Int}(h:v∈l):0<=DJ l v/\DJ l v<l.length/\AA l (DJ l v)=v/\∀j,0<=j->j<DJ l v->AA l j≠v:=by
 unfold DJ;cases hf:fst (fun i=>if decide (v=AA l i)=true then some i else none) 0 l.length with
 |none=>
  grind [Bb,BW]
 |some k=>
  grind [Cu,AA]
variable{R:Int->Int->Prop}
theorem Mg(h:l.Pairwise R){i j:Int}(d:0<=i)(f:i<j)(o:j<l.length):R (AA l i) (AA l j):=by grind[List.pairwise_iff_getElem,AA,List.getElem?_eq_getElem]
theorem UV(h:∀i j:Int,0<=i->i<j->j<l.length->R (AA l i) (AA l j)):l.Pairwise R:=by
 refine List.pairwise_iff_getElem.2 (fun i j d f o=>?_);have:=h i j (by omega) (by omega) (by omega);unfold AA at this
 grind
theorem Uv(u:l.Pairwise (·<·)){v:Int}(h:v∈l):(l.countP (fun x=>decide (x<v)):Int)=DJ l v:=by
 obtain ⟨w,y,o,_⟩:=IF h;generalize E:DJ l v=k at w y o;have e:l=l.take k.toNat++l.drop k.toNat:=(List.take_append_drop _ _).symm;have z:(l.take k.toNat).countP (fun x=>decide (x<v))=k.toNat:=by
  rw [List.countP_eq_length.2 (fun x d=>?_),bk]
  .omega
  .obtain⟨i,C,D,rfl⟩:=Bb d;rw[bk]at D;rw[Hj (by omega),t2,<-o];exact Mg u C (by omega) y
 have A:(l.drop k.toNat).countP (fun x=>decide (x<v))=0:=by
  rw [List.countP_eq_zero];intro x d;obtain⟨n,q⟩:=List.getElem?_of_mem d;rw[List.getElem?_drop]at q;have B:=(List.getElem?_eq_some_iff.1 q).1;have f:x=AA l (k+n):=by
   unfold AA;rw[List.getD_eq_getElem?_getD,show(k+(n:Int)).toNat=k.toNat+n by omega,q];rfl
  rw [t2,f,<-o];by_cases j:n=0
  .subst j;simp
  .have:=Mg u w (show k<k+(n:Int)by omega) (by omega);omega
 rw [e,List.countP_append,z,A];omega
end Go.Sf
namespace Go.Sf.Sc
open Go Go.Sf
theorem oG(l:Fp)(n:Int):(ek (hT (ρ:=Int) (fun(h:Int)(_:Unit)=>
 (idx l h).bind fun d=>
 if (decide (d=n))=true then
 some (.ret h)
 else
 some (.next ())) 0 (l.length:Int) ()) (fun _=>
 some (-1)) (fun j=>some j))=some (DJ l n):=by
 have:=Uz (l:=l) (f:=fun x=>some (decide (x=n))) (p:=fun x=>decide (x=n)) (fun _ _=>rfl);simp only[bs]at this;rw[this];unfold DJ;congr 2;exact ez fun i=>by simp[eq_comm]
theorem rb(l:Fp)(v:Int):I2 l v=some (DJ l v):=oG l v
def hasB(l:Fp)(v:Int):Bool:=l.any fun x=>decide (v=x)
variable{l:Fp}
theorem B4{v:Int}:hasB l v=true↔v∈l:=by
 unfold hasB
 grind
theorem NF(l:Fp)(n:Int):(ek (hT (ρ:=Bool) (fun(f:Int)(_:Unit)=>
 (idx l f).bind fun d=>
 if (decide (d=n))=true then
 some (.ret true)
 else
 some (.next ())) 0 (l.length:Int) ()) (fun _=>
 some false) (fun h=>some h))=some (hasB l n):=by
 unfold hasB;rw[BQ (fun i=>decide (n=AA l i)) true,IT]
 .cases ll (fun i=>decide (n=AA l i)) 0 l.length<;>rfl
 .intro i j o _;rw[AD j o,bs,IC];simp[eq_comm]
theorem o0(l:Fp)(v:Int):RP l v=some (hasB l v):=NF l v
theorem oz(l:Fp)(v:Int):PX l v=some (hasB l v):=NF l v
def Qb(l:Fp)(n:Int):Int:=(fst (fun i=>if AA l i<0\/n<=AA l i then some 6 else if 0<i/\AA l i<=AA l (i-1)then some 12 else none) 0 l.length).getD 0
theorem nH(q:l.length<=1000)(n:Int):IM l n=some (Qb l n):=by
 unfold IM Qb;rw[Bn (fun i=>if AA l i<0\/n<=AA l i then some 6 else if 0<i/\AA l i<=AA l (i-1)then some 12 else none),Cw];intro i j o _;rw[AD j o,bs];by_cases h:AA l i<0\/n<=AA l i
 .rw[a6 (by simpa using h),a6 h];rfl
 .rw[ae (by simpa using h),ae h];by_cases d:0<i
  .rw[a6 (by simpa using d),Ay (by omega) (by omega),AD (by omega) (by omega),bs,bs];by_cases f:AA l i<=AA l (i-1)
   .rw[a6 (by simpa using f),a6 ⟨d,f⟩];rfl
   .rw[ae (by simpa using f),ae (fun h=>f h.2)];rfl
  .rw[ae (by simpa using d),bs,ae (by decide),ae (fun h=>d h.1)];rfl
theorem nL(u:l.length<=1000)(n:Int):Gm l n=some (Qb l n):=by
 unfold Gm Qb;rw[Bn (fun i=>if AA l i<0\/n<=AA l i then some 6 else if 0<i/\AA l i<=AA l (i-1)then some 12 else none),Cw];intro i j o _;rw[AD j o];simp only[bs];by_cases h:AA l i<0\/n<=AA l i
 .have:(if decide (AA l i<0)=true then some true else some (decide (n<=AA l i)))=some true:=by
   rcases h with h|h
   .simp[h]
   .by_cases q:AA l i<0<;>simp[h,q]
  rw [this,bs,a6 rfl,a6 h];rfl
 .have:(if decide (AA l i<0)=true then some true else some (decide (n<=AA l i)))=some false:=by
   rw [ae (by simp;omega),decide_eq_false (by omega)]
  rw [this,bs,ae (by decide),ae h];by_cases d:0<i
  .rw[a6 (by simpa using d),Ay (by omega) (by omega),AD (by omega) (by omega),bs,bs];by_cases f:AA l i<=AA l (i-1)
   .rw[a6 (by simpa using f),a6 ⟨d,f⟩];rfl
   .rw[ae (by simpa using f),ae (fun h=>f h.2)];rfl
  .rw[ae (by simpa using d),bs,ae (by decide),ae (fun h=>d h.1)];rfl
variable{a b:Int}
theorem RB{c:Int->QQ}(d:∀i,c i≠some 0)(h:(fst c a b).getD 0=0):∀i,a<=i->i<b->c i=none:=by
 have:fst c a b=none:=by
  cases hf:fst c a b with
  |none=>rfl|some r=>
   grind [Option.getD,Cu]
 exact BW.1 this
variable{n:Int}
theorem TC(h:Qb l n=0):(∀x∈l,0<=x/\x<n)/\l.Pairwise (·<·):=by
 have y:=RB (c:=fun i=>if AA l i<0\/n<=AA l i then some 6 else if 0<i/\AA l i<=AA l (i-1)then some 12 else none) (fun i=>by
  split
  .simp
  .split<;>simp) h
 have f:∀i:Int,0<=i->i<l.length->(0<=AA l i/\AA l i<n)/\(0<i->AA l (i-1)<AA l i):=by
  intro i o w;have:=y i o w;split at this
  .cases this
  .split at this
   .cases this
   .omega
 refine ⟨fun x q=>?_,UV (fun i j o d u=>?_)⟩
 .obtain⟨i,z,A,rfl⟩:=Bb q;exact(f i z A).1
 .obtain⟨k,B⟩:∃k:Nat,j=i+1+k:=⟨(j-i-1).toNat,by omega⟩;subst B;clear d
  induction k with
  |zero=>
   have:=(f (i+1) (by omega) (by omega)).2 (by omega);rw[show i+1-1=i by omega]at this;simpa using this
  |succ k C=>
   have a:=C (by omega);have b:=(f (i+1+((k+1:Nat):Int)) (by omega) u).2 (by omega);rw[show i+1+((k+1:Nat):Int)-1=i+1+k by omega]at b;omega
theorem Sg(f:l.length<=1000)(d:l.Pairwise (·<·))(v:Int):slices_BinarySearch_int l v=some (((l.countP (fun x=>decide (x<v)):Nat):Int),hasB l v):=by
 unfold slices_BinarySearch_int;rw[a6 ⟨by unfold AZ;omega,d.imp (fun h=>by omega)⟩];congr 2;rw[Bool.eq_iff_iff,B4,List.contains_iff_mem]
def O1(g:d5)(p:At):Int:=
 if Qb p.d3 g.d3.length≠0 then Qb p.d3 g.d3.length else if Qb p.d4 g.d4.length≠0 then Qb p.d4 g.d4.length else
 (fst (fun i=>if(hasB p.d3 (AA g.d4 (AA p.d4 i)).ib&&hasB p.d3 (AA g.d4 (AA p.d4 i)).To)=true then none else some 14) 0 p.d4.length).getD 0
structure ZT(g:d5)(p:At):Prop where
 ec:(∀x∈p.d3,0<=x/\x<g.d3.length)/\p.d3.Pairwise (·<·)
 ei:(∀x∈p.d4,0<=x/\x<g.d4.length)/\p.d4.Pairwise (·<·)
 ends:∀x∈p.d4,(AA g.d4 x).ib∈p.d3/\(AA g.d4 x).To∈p.d3
variable{g:d5}
theorem Tn{p:At}(h:O1 g p=0):ZT g p:=by
 unfold O1 at h;split at h
 .omega
 .split at h
  .omega
  .rename_i q u;refine⟨TC (by omega),TC (by omega),fun x f=>?_⟩;obtain⟨i,j,o,rfl⟩:=Bb f;have:=RB (c:=fun i=>if(hasB p.d3 (AA g.d4 (AA p.d4 i)).ib&&hasB p.d3 (AA g.d4 (AA p.d4 i)).To)=true then none else some 14) (fun i=>by
    split<;>simp) h i j o
   split at this
   .rename_i d;rw[o4,B4,B4]at d;exact d
   .cases this
def Em(g:d5)(p:At):Int:=if Bw g≠0 then Bw g else O1 g p
structure RU(p:At):Prop where
 ec:p.d3.length<=1000
 ei:p.d4.length<=1000
theorem dQ{p:At}(d:RU p):E8 g p=some (Em g p):=by
 unfold E8 Em;rw[MC,bs];refine Dz fun o=>?_;have w:=DF o;unfold M7 O1;rw[nH d.ec,bs,nH d.ei,bs,Option.bind_fun_some];refine Dz fun q=>Dz fun u=>?_;obtain⟨a1,x⟩:=TC q;obtain⟨y,z⟩:=TC u;rw[Bn (fun i=>if(hasB p.d3 (AA g.d4 (AA p.d4 i)).ib&&hasB p.d3 (AA g.d4 (AA p.d4 i)).To)=true then none else some 14),Cw];intro i f h _;have j:=y _ (AI f h);unfold Lw;rw[AD f h,bs,AD j.1 j.2];simp[Sg d.ec x];cases hasB p.d3 (AA g.d4 (AA p.d4 i)).ib<;>cases hasB p.d3 (AA g.d4 (AA p.d4 i)).To<;>rfl
theorem XC{p:At}(d:RU p):I1 g p=some (Em g p):=by
 unfold I1 Em;rw[NV,bs];refine Dz fun o=>?_;have u:=DF o;unfold O5 O1;rw[nL d.ec,bs,nL d.ei,bs,Option.bind_fun_some];refine Dz fun x=>Dz fun q=>?_;obtain⟨w,y⟩:=TC q;rw[Bn (fun i=>if(hasB p.d3 (AA g.d4 (AA p.d4 i)).ib&&hasB p.d3 (AA g.d4 (AA p.d4 i)).To)=true then none else some 14),Cw];intro i f h _;have j:=w _ (AI f h);rw[AD f h,bs,AD j.1 j.2];simp[oz];cases hasB p.d3 (AA g.d4 (AA p.d4 i)).ib<;>cases hasB p.d3 (AA g.d4 (AA p.d4 i)).To<;>rfl
def N8(g:d5)(p:At):d5:=⟨p.d3.map (AA g.d3),p.d4.map fun x=>⟨(AA g.d4 x).jj,DJ p.d3 (AA g.d4 x).ib,DJ p.d3 (AA g.d4 x).To⟩⟩
variable{i:Int}
theorem IG{α:Type}{f:Int->α}(d:0<=i)(h:i<l.length):(l.take (i+1).toNat).map f=(l.take i.toNat).map f++[f (AA l i)]:=by grind[BS]
theorem SO(z:l.length<=1000)(h:∀x∈l,0<=x/\x<g.d3.length)(es:List Bk):(ne (fun(y:Int)(u:d5)=>
 (idx l y).bind fun d=>
 (idx g.d3 d).bind fun f=>
 (Ap u.d3 [f]).bind fun j=>
 some (d5.mk j u.d4)) 0 (l.length:Int) (d5.mk [] es))=some (d5.mk (l.map (AA g.d3)) es):=by
 rw [Bo (fun i=>d5.mk ((l.take i.toNat).map (AA g.d3)) es) (by omega) (by simp)]
 .rw[Int.toNat_natCast,List.take_length]
 .intro i o q;have w:=h _ (AI o q);rw[AD o q,bs,AD w.1 w.2,bs,AY (by simp;unfold AZ;omega),bs,IG o q]
theorem Vu(B:l.length<=1000)(h:∀x∈l,0<=x/\x<g.d4.length)(o:Fp)(F:Bk->Bk){f:Bk->List Bk->Option (List Bk)}(hf:∀x∈l,∀s,s.length<=1000->f (AA g.d4 x) s=some (s++[F (AA g.d4 x)])):(ne (fun(A:Int)(y:d5)=>
 (idx l A).bind fun q=>
 (idx g.d4 q).bind fun u=>
 (f u y.d4).bind fun w=>
 some (d5.mk y.d3 w)) 0 (l.length:Int) (d5.mk o []))=some (d5.mk o (l.map fun x=>F (AA g.d4 x))):=by
 rw [Bo (fun i=>d5.mk o ((l.take i.toNat).map fun x=>F (AA g.d4 x))) (by omega) (by simp)]
 .rw[Int.toNat_natCast,List.take_length]
 .intro i d j;have z:=h _ (AI d j);rw[AD d j,bs,AD z.1 z.2,bs,hf _ (AI d j) _ (by simp;omega),bs,IG d j]
theorem iL{p:At}(d:RU p):Ey g p=some (if Em g p≠0 then(⟨[],[]⟩,⟨[],[]⟩,Em g p)else(N8 g p,⟨p.d3,p.d4⟩,0)):=by
 unfold Ey;rw[dQ d,bs];refine FG fun h=>?_;have w:Bw g=0/\O1 g p=0:=by
  grind [Em]
 have ho:=Tn w.2;rw[SO d.ec ho.ec.1,bs];have:=Vu (g:=g) (l:=p.d4) d.ei ho.ei.1 (p.d3.map (AA g.d3)) (fun x=>⟨x.jj,DJ p.d3 x.ib,DJ p.d3 x.To⟩) (f:=fun j s=>
  (slices_BinarySearch_int p.d3 j.ib).bind fun o=>
  (slices_BinarySearch_int p.d3 j.To).bind fun q=>
  Ap s [Bk.mk j.jj o.1 q.1]) (fun x u s y=>by
   have he:=ho.ends x u;rw[Sg d.ec ho.ec.2,bs,Sg d.ec ho.ec.2,bs,AY (by simp;unfold AZ;omega),Uv ho.ec.2 he.1,Uv ho.ec.2 he.2])
 simp [Option.bind_assoc]at this;rw[this,bs];unfold slices_Clone_int;have z:=d.ec;have A:=d.ei;rw[Bm (by unfold AZ;omega),bs,Bm (by unfold AZ;omega)];rfl
theorem YB{p:At}(j:RU p):IH g p=some (if Em g p≠0 then(⟨[],[]⟩,⟨[],[]⟩,Em g p)else(N8 g p,⟨p.d3,p.d4⟩,0)):=by
 unfold IH;rw[XC j,bs];refine FG fun h=>?_;have u:Bw g=0/\O1 g p=0:=by
  grind [Em]
 have ho:=Tn u.2;rw[SO j.ec ho.ec.1,bs];have:=Vu (g:=g) (l:=p.d4) j.ei ho.ei.1 (p.d3.map (AA g.d3)) (fun x=>⟨x.jj,DJ p.d3 x.ib,DJ p.d3 x.To⟩) (f:=fun d s=>
  (I2 p.d3 d.ib).bind fun o=>
  (I2 p.d3 d.To).bind fun q=>
  Ap s [Bk.mk d.jj o q]) (fun x w s y=>by
   grind [rb,AY,AZ])
 simp [Option.bind_assoc]at this;rw[this,bs];have z:=j.ec;have A:=j.ei;rw[Bm (by unfold AZ;omega),bs,Bm (by unfold AZ;omega)];rfl
end Go.Sf.Sc
namespace Go.Sf.Sc
open Go Go.Sf
def LZ(a b:d5)(m:d6)(i:Int):QQ:=
 if AA m.d3 i<0\/b.d3.length<=AA m.d3 i then some 6 else if AA b.d3 (AA m.d3 i)≠AA a.d3 i then some 13 else none
def G9(a b:d5)(m:d6)(i:Int):QQ:=
 if AA m.d4 i<0\/b.d4.length<=AA m.d4 i then some 6 else
 if (AA a.d4 i).jj≠(AA b.d4 (AA m.d4 i)).jj then some 13 else
 if AA m.d3 (AA a.d4 i).ib≠(AA b.d4 (AA m.d4 i)).ib\/AA m.d3 (AA a.d4 i).To≠(AA b.d4 (AA m.d4 i)).To then some 11 else none
def HN(a b:d5)(m:d6):Int:=
 if Bw a≠0 then Bw a else if Bw b≠0 then Bw b else if m.d3.length≠a.d3.length\/m.d4.length≠a.d4.length then 20 else
 match fst (LZ a b m) 0 m.d3.length with
 |some e=>e|none=>(fst (G9 a b m) 0 m.d4.length).getD 0
structure VV(a b:d5)(m:d6):Prop where
 ga:DD a
 gb:DD b
 tn:m.d3.length=a.d3.length
 wj:m.d4.length=a.d4.length
 node:∀i:Int,0<=i->i<m.d3.length->(0<=AA m.d3 i/\AA m.d3 i<b.d3.length)/\AA b.d3 (AA m.d3 i)=AA a.d3 i
 edge:∀i:Int,0<=i->i<m.d4.length->(0<=AA m.d4 i/\AA m.d4 i<b.d4.length)/\(AA a.d4 i).jj=(AA b.d4 (AA m.d4 i)).jj/\
  AA m.d3 (AA a.d4 i).ib=(AA b.d4 (AA m.d4 i)).ib/\AA m.d3 (AA a.d4 i).To=(AA b.d4 (AA m.d4 i)).To
variable{m:d6}
theorem RJ{a b:d5}(h:HN a b m=0):VV a b m:=by
 unfold HN at h;split at h
 .omega
 split at h
 .omega
 split at h
 .cases h
 rename_i o q u;have j:fst (LZ a b m) 0 m.d3.length=none:=by
  grind [Cu,LZ]
 rw [j]at h;have he:=RB (fun i=>by
  grind [G9]) h
 refine ⟨DF (by omega),DF (by omega),by omega,by omega,fun i d f=>?_,fun i d f=>?_⟩
 .grind[BW,LZ]
 grind [G9]
theorem ZD(a b:d5)(m:d6):Dj a b m=some (HN a b m):=by
 unfold Dj HN;rw[MC,bs,MC,bs];refine Dz fun u=>Dz fun w=>Nl (by simp;try omega) fun z=>?_;have ga:=DF u;have gb:=DF w;rw[Bn (LZ a b m),EA]
 .cases x:fst (LZ a b m) 0 m.d3.length with
  |some e=>rfl|none=>
   have y:=BW.1 x;dsimp only;rw[Bn (G9 a b m),Cw];intro i h q _;unfold G9;rw[AD h q,bs];by_cases d:AA m.d4 i<0\/b.d4.length<=AA m.d4 i
   .rw[a6 (by simpa using d),a6 d];rfl
   .have hf:=ga.fit _ (AI (l:=a.d4) h (by omega));rw[ae (by simpa using d),ae d,AD h (by omega),bs,AD (by omega) (by omega),bs];by_cases f:(AA a.d4 i).jj=(AA b.d4 (AA m.d4 i)).jj
    .rw[ae (by simpa using f),ae (by simpa using f),AD (by omega) (by omega),bs];by_cases j:AA m.d3 (AA a.d4 i).ib=(AA b.d4 (AA m.d4 i)).ib
     .rw[ae (by simpa using j),AD (by omega) (by omega),bs,bs];by_cases o:AA m.d3 (AA a.d4 i).To=(AA b.d4 (AA m.d4 i)).To
      .rw[ae (by simpa using o),ae (by simp[j,o])];rfl
      .rw[a6 (by simpa using o),a6 (.inr o)];rfl
     .rw[a6 (by simpa using j),bs,a6 rfl,a6 (.inl j)];rfl
    .rw[a6 (by simpa using f),a6 f];rfl
 .intro i h q _;unfold LZ;rw[AD h q,bs];by_cases d:AA m.d3 i<0\/b.d3.length<=AA m.d3 i
  .rw[a6 (by simpa using d),a6 d];rfl
  .rw[ae (by simpa using d),ae d,AD (by omega) (by omega),bs,AD h (by omega),bs];by_cases f:AA b.d3 (AA m.d3 i)=AA a.d3 i
   .rw[ae (by simpa using f),ae (by simpa using f)];rfl
   .rw[a6 (by simpa using f),a6 f];rfl
theorem Tl{x y:Prop}[Decidable x][Decidable y]:(if decide x=true then some true else some (decide y))=some (decide (x\/y)):=by grind
theorem WR(a b:d5)(m:d6):GK a b m=some (HN a b m):=by
 unfold GK HN;rw[NV,bs,NV,bs];refine Dz fun u=>Dz fun w=>Nl (by simp;try omega) fun z=>?_;have ga:=DF u;have gb:=DF w;rw[show(a.d3.length:Int)=m.d3.length by omega,show(a.d4.length:Int)=m.d4.length by omega,Bn (LZ a b m),EA]
 .cases x:fst (LZ a b m) 0 m.d3.length with
  |some e=>rfl|none=>
   have y:=BW.1 x;dsimp only;rw[Bn (G9 a b m),Cw];intro i h q _;unfold G9;rw[AD h q];simp only[bs,Tl];by_cases d:AA m.d4 i<0\/b.d4.length<=AA m.d4 i
   .rw[a6 (by simpa using d),a6 d];rfl
   .have hf:=ga.fit _ (AI (l:=a.d4) h (by omega));rw[ae (by simpa using d),ae d,AD h (by omega),bs,AD (by omega) (by omega),bs];by_cases f:(AA a.d4 i).jj=(AA b.d4 (AA m.d4 i)).jj
    .rw[ae (by simpa using f),ae (by simpa using f),AD (by omega) (by omega),bs];by_cases j:AA m.d3 (AA a.d4 i).ib=(AA b.d4 (AA m.d4 i)).ib
     .rw[ae (by simpa using j),AD (by omega) (by omega),bs,bs];by_cases o:AA m.d3 (AA a.d4 i).To=(AA b.d4 (AA m.d4 i)).To
      .rw[ae (by simpa using o),ae (by simp[j,o])];rfl
      .rw[a6 (by simpa using o),a6 (.inr o)];rfl
     .rw[a6 (by simpa using j),bs,a6 rfl,a6 (.inl j)];rfl
    .rw[a6 (by simpa using f),a6 f];rfl
 .intro i h q _;unfold LZ;rw[AD h q];simp only[bs,Tl];by_cases d:AA m.d3 i<0\/b.d3.length<=AA m.d3 i
  .rw[a6 (by simpa using d),a6 d];rfl
  .rw[ae (by simpa using d),ae d,AD (by omega) (by omega),bs,AD h (by omega),bs];by_cases f:AA b.d3 (AA m.d3 i)=AA a.d3 i
   .rw[ae (by simpa using f),ae (by simpa using f)];rfl
   .rw[a6 (by simpa using f),a6 f];rfl
def Hu(l:Fp):Bool:=!ll (fun i=>ll (fun j=>decide (AA l i=AA l j)) 0 i) 0 l.length
variable{l:Fp}
theorem J3:Hu l=true↔l.Nodup:=by grind[Hu,Bool.not_eq_true',BV,UV,Mg]
theorem UO(l:Fp):E6 l=some (Hu l):=by
 unfold E6 Hu;rw[BQ (fun i=>ll (fun j=>decide (AA l i=AA l j)) 0 i) false]
 .cases ll (fun i=>ll (fun j=>decide (AA l i=AA l j)) 0 i) 0 l.length<;>rfl
 .intro i d f _;rw[BQ (fun j=>decide (AA l i=AA l j)) false]
  .cases ll (fun j=>decide (AA l i=AA l j)) 0 i<;>rfl
  .intro j h o _;rw[AD d f,bs,AD h (by omega),bs,IC]
theorem aT(f:l.length<=1000):∃k,Gk l=some k/\decide (k=(l.length:Int))=Hu l:=by
 have d:(RE l).length=l.length:=(P2 l).length_eq;refine⟨((Go.Lib.compact (RE l)).length:Int),?_,?_⟩
 .grind[Gk,slices_Clone_int,slices_Sort_int,slices_Compact_int,Bm,AZ]
 .rw[Bool.eq_iff_iff,J3,t2,<-(P2 l).nodup_iff,<-S0 (Qg l),d];omega
def LX(m:d6):Bool:=Hu m.d3&&Hu m.d4
theorem nI{a b:d5}(h:HN a b m=0):DZ a b m=some (LX m):=by
 have ho:=RJ h;have:=ho.ga.ec;have:=ho.ga.ei;have:=ho.tn;have:=ho.wj;obtain⟨k,d,f⟩:=aT (l:=m.d3) (by omega);obtain⟨j,o,q⟩:=aT (l:=m.d4) (by omega);unfold DZ LX;rw[ZD,h,bs,a6 (decide_eq_true rfl),d];simp[o,f,q];cases Hu m.d3<;>rfl
theorem vI{a b:d5}(h:HN a b m=0):FT a b m=some (LX m):=by grind[FT,LX,WR,UO,Hu]
def RF(r:eg):Int:=
 if Em r.gt.d5 r.pq≠0 then Em r.gt.d5 r.pq else
 if HN (N8 r.gt.d5 r.pq) r.ee.d5 r.o3≠0 then HN (N8 r.gt.d5 r.pq) r.ee.d5 r.o3 else if LX r.o3=false then 11 else 0
variable{r:eg}
theorem rH(d:RU r.pq):Lr r=some (RF r):=by
 unfold Lr RF;rw[iL d,bs];by_cases h:Em r.gt.d5 r.pq=0
 .simp only[h,ne_eq,not_true_eq_false,if_false,decide_true,Bool.not_true,Bool.false_eq_true];rw[ZD,bs];refine Dz fun f=>?_;rw[nI f,bs];exact Vh fun _=>rfl
 .simp[h]
def UR(r:eg):Int:=if Em r.gt.d5 r.pq≠0 then Em r.gt.d5 r.pq else HN (N8 r.gt.d5 r.pq) r.ee.d5 r.o3
theorem rh(d:RU r.pq):OC r=some (UR r):=by
 unfold OC UR;rw[XC d,bs];refine Dz fun h=>?_
 grind [YB,WR]
theorem oI(h:RF r=0):Em r.gt.d5 r.pq=0/\HN (N8 r.gt.d5 r.pq) r.ee.d5 r.o3=0/\LX r.o3=true:=by grind[RF]
def BL(l:Fp)(n:Int):Fp:=((List.range n.toNat).map Int.ofNat).filter fun i=>!hasB l i
variable{i:Int}
theorem OF(l:Fp)(h:0<=i):BL l (i+1)=BL l i++if(!hasB l i)=true then[i]else[]:=by
 unfold BL;rw[show(i+1).toNat=i.toNat+1 by omega,List.range_succ,List.map_append,List.filter_append]
 grind
theorem Fm{n x:Int}(h:x∈BL l n):0<=x/\x<n:=by
 unfold BL at h
 grind
theorem RS(l:Fp)(n:Int):(BL l n).length<=n.toNat:=by
 unfold BL
 grind
variable{n:Int}
theorem Ts(q:0<=n)(w:n<=1000){f:Int->K1}(hf:∀i,f i=some (hasB l i)):(ne (fun(j:Int)(o:Fp)=>
 (f j).bind fun d=>
 if (!d)=true then
 (Ap o [j]).bind fun h=>
 some h
 else
 some o) 0 n [])=some (BL l n):=by
 refine Bo (BL l) q (by simp[BL]) (fun i u x=>?_);have:=RS l i;rw[hf,bs,OF l u];cases hasB l i
 .rw[a6 (by decide),a6 (by decide),AY (by simp;unfold AZ;omega)];rfl
 .rw[ae (by decide),ae (by decide),List.append_nil]
theorem aW(d:0<=n)(f:n<=1000):Kw l n=some (BL l n):=by
 unfold Kw;rw[Ts d f (fun i=>LS l i)];rfl
theorem jE(d:0<=n)(f:n<=1000):MJ n l=some (BL l n):=by
 unfold MJ;rw[Ts d f (fun i=>o0 l i)];rfl
def ES(r:eg):Fp:=BL r.o3.d3 r.ee.d5.d3.length
def J2(r:eg):Fp:=BL r.o3.d4 r.ee.d5.d4.length
theorem iQ(d:DD r.ee.d5):Lq r=some (ES r,J2 r):=by
 have:=d.ec;have:=d.ei;unfold Lq;rw[aW (by omega) (by omega),bs,aW (by omega) (by omega)];rfl
theorem iw(d:DD r.ee.d5):Kc r=some (ES r,J2 r):=by
 have:=d.ec;have:=d.ei;unfold Kc;rw[jE (by omega) (by omega),bs,jE (by omega) (by omega)];rfl
def Ix(t:AC)(g:d5)(i:Int):Bool:=Mx t (AA g.d4 i).jj (AA g.d3 (AA g.d4 i).ib) (AA g.d3 (AA g.d4 i).To)
def U1(t:AC)(g:d5)(ec ei:Fp):Bool:=!(ec.any fun i=>(AA t.d3 (AA g.d3 i)).wa)&&!(ei.any fun i=>!Ix t g i)
variable{t:AC}{g:d5}
theorem vG(hf:Az t)(o:DD g)(q:C9 t g=true){ec ei:Fp}(u:∀x∈ec,0<=x/\x<g.d3.length)(he:∀x∈ei,0<=x/\x<g.d4.length):H1 t g ec ei=some (U1 t g ec ei):=by
 have h:=Gx o q;unfold H1 U1;rw[Qd (p:=fun i=>(AA t.d3 (AA g.d3 i)).wa) (fun x f=>by
  have d:=u x f;have j:=h.1 _ (AI d.1 d.2);unfold ML;rw[AD d.1 d.2,bs,AD j.1 j.2];rfl),bs,Qd (p:=fun i=>!Ix t g i) (fun x f=>by
  have d:=he x f;have j:=o.fit _ (AI d.1 d.2);unfold Hp;rw[AD d.1 d.2,bs,AD (by omega) (by omega),bs,AD (by omega) (by omega),bs,iM hf];rfl)]
 grind
theorem vK(hf:Az t)(q:DD g)(u:C9 t g=true){ec ei:Fp}(w:∀x∈ec,0<=x/\x<g.d3.length)(he:∀x∈ei,0<=x/\x<g.d4.length):Hz t g ec ei=some (U1 t g ec ei):=by
 have j:=Gx q u;unfold Hz U1;rw[IT,IT,BQ (fun i=>(AA t.d3 (AA g.d3 (AA ec i))).wa) false]
 .rw[BQ (fun i=>!Ix t g (AA ei i)) false]
  .cases ll (fun i=>(AA t.d3 (AA g.d3 (AA ec i))).wa) 0 ec.length
   .cases ll (fun i=>!Ix t g (AA ei i)) 0 ei.length<;>rfl
   .rfl
  .intro i f h _;have d:=he _ (AI f h);have o:=q.fit _ (AI d.1 d.2);rw[AD f h,bs,AD d.1 d.2,bs,AD (by omega) (by omega),bs,AD (by omega) (by omega),bs,ip hf,bs,IC];rfl
 .intro i f h _;have d:=w _ (AI f h);have o:=j.1 _ (AI d.1 d.2);rw[AD f h,bs,AD d.1 d.2,bs,AD o.1 o.2,bs,IC]
end Go.Sf.Sc
namespace Go.Sf.Sc
open Go Go.Sf
structure OV(p:ea):Prop where
 ec:p.d5.d3.length<=45
 ei:p.d5.d4.length<=90
 slots:p.em.length<=15
 tests:p.kq.length<=15
structure eH(m:d6):Prop where
 ec:m.d3.length<=140
 ei:m.d4.length<=140
inductive Dx:d7->Prop where
 |mk (c:d7) (hq:OV c.ea) (hm:eH c.Map) (hk:∀k∈c.en,Dx k):Dx c
variable{c:d7}
theorem Dx.q(h:Dx c):OV c.ea:=by cases h;assumption
theorem Dx.m(h:Dx c):eH c.Map:=by cases h;assumption
theorem Dx.k(h:Dx c):∀k∈c.en,Dx k:=by cases h;assumption
theorem ET{c k:d7}(h:k∈c.en):SizeOf.sizeOf k<SizeOf.sizeOf c:=by
 have:=List.sizeOf_lt_of_mem h;cases c
 grind
theorem Dn(c:d7):0<SizeOf.sizeOf c:=by
 cases c
 grind
def Pw(c:d7):Bool:=decide (c.Map.d3.length=0/\c.Map.d4.length=0/\c.ea.d5.d3.length=0/\c.ea.d5.d4.length=0/\c.ea.em.length=0/\c.ea.kq.length=0/\c.ea.fa=0)
theorem qz(hf:Dx c):E2 c=some (Pw c):=by
 have d:=hf.q;have f:=hf.m;have:=d.ec;have:=d.ei;have:=d.slots;have:=d.tests;have:=f.ec;have:=f.ei;unfold E2 Pw;rw[Ay (n:=(c.Map.d3.length:Int)+c.Map.d4.length) (by omega) (by omega),Ay (n:=(c.Map.d3.length:Int)+c.Map.d4.length+c.ea.d5.d3.length) (by omega) (by omega),
  Ay (n:=(c.Map.d3.length:Int)+c.Map.d4.length+c.ea.d5.d3.length+c.ea.d5.d4.length) (by omega) (by omega),
  Ay (n:=(c.Map.d3.length:Int)+c.Map.d4.length+c.ea.d5.d3.length+c.ea.d5.d4.length+c.ea.em.length) (by omega) (by omega),
  Ay (n:=(c.Map.d3.length:Int)+c.Map.d4.length+c.ea.d5.d3.length+c.ea.d5.d4.length+c.ea.em.length+c.ea.kq.length) (by omega) (by omega)]
 congr 1
 grind
theorem lW(hf:Dx c):Hy c=some (Pw c):=by
 have d:=hf.q;have f:=hf.m;have:=d.ec;have:=d.ei;have:=d.slots;have:=d.tests;have:=f.ec;have:=f.ei;unfold Hy Pw;rw[Ay (n:=(c.Map.d3.length:Int)+c.Map.d4.length) (by omega) (by omega),Ay (n:=(c.Map.d3.length:Int)+c.Map.d4.length+c.ea.d5.d3.length) (by omega) (by omega),
  Ay (n:=(c.Map.d3.length:Int)+c.Map.d4.length+c.ea.d5.d3.length+c.ea.d5.d4.length) (by omega) (by omega),
  Ay (n:=(c.ea.em.length:Int)+c.ea.kq.length) (by omega) (by omega)]
 congr 1
 grind
def SQ(c:d7):Bool:=
 if c.j0=1 then decide (c.en.length=0)&&Pw c else if c.j0=2 then decide (c.en.length=1)&&Pw c else
 if c.j0=3\/c.j0=4 then decide (1<=c.en.length)&&Pw c else if c.j0=5 then decide (c.en.length=1)else false
def R4:Nat->d7->Bool
 |0,_=>false|n+1,c=>SQ c&&c.en.all (R4 n)
theorem rQ:∀(N:Nat)(c:d7),SizeOf.sizeOf c<=N->Dx c->∀n,2*N<=n->BY n c=some (R4 N c)
 |0,c,h,_,_,_=>by have:=Dn c;omega|N+1,c,h,hf,n,B=>by
  obtain ⟨n,rfl⟩:∃m,n=m+2:=⟨n-2,by omega⟩;rw[BY,R4,qz hf];have f:B2 c.en (Bj (n+1))=some (!c.en.all (R4 N)):=by
   rw [Zf (p:=fun k=>!R4 N k) (fun k f=>by
    have:=ET f;rw[Bj,rQ N k (by omega) (hf.k k f) n (by omega)];rfl),List.all_eq_not_any_not,Bool.not_not]
  rw [f];unfold SQ;simp only[bs,t2];generalize Pw c=b;generalize c.en.all (R4 N)=w;have y:decide ((c.en.length:Int)=0)=decide (c.en.length=0):=by rw[decide_eq_decide];omega
  have z:decide ((c.en.length:Int)=1)=decide (c.en.length=1):=by rw[decide_eq_decide];omega
  have A:decide (1<=(c.en.length:Int))=decide (1<=c.en.length):=by rw[decide_eq_decide];omega
  simp only[show((c.en.length:Int)=0)↔c.en.length=0 by omega,show((c.en.length:Int)=1)↔c.en.length=1 by omega,show(1<=(c.en.length:Int))↔1<=c.en.length by omega];by_cases j:c.j0=1
  .rw[a6 j,a6 j];by_cases d:c.en.length=0<;>cases b<;>cases w<;>simp[d]
  .rw[ae j,ae j];by_cases o:c.j0=2
   .rw[a6 o,a6 o];by_cases d:c.en.length=1<;>cases b<;>cases w<;>simp[d]
   .rw[ae o,ae o];by_cases u:c.j0=3
    .simp[u,true_or];by_cases d:1<=c.en.length<;>cases b<;>cases w<;>simp[d]
    .by_cases x:c.j0=4
     .simp[x,or_true,show¬(4:Int)=3 by decide];by_cases d:1<=c.en.length<;>cases b<;>cases w<;>simp[d]
     .simp only[u,x,if_false,or_false];by_cases q:c.j0=5
      .rw[a6 q,a6 q];by_cases d:c.en.length=1<;>cases w<;>simp[d]
      .rw[ae q,ae q];cases w<;>rfl
theorem rY(hf:Dx c):Mp c=some (SQ c):=by
 unfold Mp SQ;rw[lW hf];simp[t2];generalize Pw c=b;simp[show((c.en.length:Int)=0)↔c.en.length=0 by omega,show((c.en.length:Int)=1)↔c.en.length=1 by omega,show(0<(c.en.length:Int))↔1<=c.en.length by omega]
 grind
theorem qK{α:Type}[Inhabited α]{l:List α}{p:α->Bool}:l.all p=!ll (fun i=>!p (AA l i)) 0 l.length:=by
 rw [List.all_eq_not_any_not,IT]
theorem nK:∀(N:Nat)(c:d7),SizeOf.sizeOf c<=N->Dx c->∀n,N<=n->C6 n c=some (R4 N c)
 |0,c,h,_,_,_=>by have:=Dn c;omega|N+1,c,h,hf,n,o=>by
  obtain ⟨n,rfl⟩:∃m,n=m+1:=⟨n-1,by omega⟩;rw[C6,R4,rY hf,bs,qK,BQ (fun i=>!R4 N (AA c.en i)) false]
  .cases SQ c
   .rfl
   .cases ll (fun i=>!R4 N (AA c.en i)) 0 c.en.length<;>rfl
  .intro i d f _;have j:=AI (l:=c.en) d f;have:=ET j;rw[AD d f,bs,nK N _ (by omega) (hf.k _ j) n (by omega),bs,IC]
noncomputable def nX(c:d7):Bool:=R4 (SizeOf.sizeOf c) c
theorem vH(hf:Dx c):HK c=some (nX c):=Dd (2*SizeOf.sizeOf c) fun n d=>rQ _ c (az _) hf n d
theorem vO(hf:Dx c):MI c=some (nX c):=Dd (SizeOf.sizeOf c) fun n d=>nK _ c (az _) hf n d
def N1:Nat->d7->Int×Int
 |0,_=>(0,0)|n+1,c=>
  let s:=c.en.foldl (fun s k=>(Am (s.1+(N1 n k).1),max s.2 (N1 n k).2)) ((1,0):Int×Int)
  (s.1,if c.j0=5 then Am (s.2+1)else s.2)
theorem X3{α σ:Type}[Inhabited α]{l:List α}{g:σ->α->σ}{s:σ}{f:Int->σ->Option σ}(h:∀(i:Int)s,0<=i->i<l.length->f i s=some (g s (AA l i))):ne f 0 l.length s=some (l.foldl g s):=by
 rw [Bo (fun i=>(l.take i.toNat).foldl g s) (by omega) (by simp)]
 .rw[Int.toNat_natCast,List.take_length]
 grind [BS]
theorem iU:∀(N:Nat)(c:d7),SizeOf.sizeOf c<=N->∀n,N<=n->Cc n c=some (N1 N c)
 |0,c,h,_,_=>by have:=Dn c;omega|N+1,c,h,n,j=>by
  obtain ⟨n,rfl⟩:∃m,n=m+1:=⟨n-1,by omega⟩;rw[Cc,N1,X3 (g:=fun s k=>(Am (s.1+(N1 N k).1),max s.2 (N1 N k).2))]
  .grind
  .intro i s d f;have:=ET (AI (l:=c.en) d f);rw[AD d f,bs,iU N _ (by omega) n (by omega)];rfl
theorem jC:∀(N:Nat)(c:d7),SizeOf.sizeOf c<=N->∀n,N<=n->DO n c=some (N1 N c)
 |0,c,h,_,_=>by have:=Dn c;omega|N+1,c,h,n,j=>by
  obtain ⟨n,rfl⟩:∃m,n=m+1:=⟨n-1,by omega⟩;rw[DO,N1,X3 (g:=fun s k=>(Am (s.1+(N1 N k).1),max s.2 (N1 N k).2))]
  .grind
  .intro i s d f;have:=ET (AI (l:=c.en) d f);rw[AD d f,bs,jC N _ (by omega) n (by omega)];rfl
noncomputable def ZB(c:d7):Int×Int:=N1 (SizeOf.sizeOf c) c
noncomputable def Qs(c:d7):Int:=if nX c=false then 1 else if 12<(ZB c).1\/3<(ZB c).2 then 3 else 0
theorem ol(hf:Dx c):FQ c=some (Qs c):=by
 unfold FQ Qs;rw[vH hf,bs,show JJ c=some (ZB c)from Dd (SizeOf.sizeOf c) fun n d=>iU _ c (az _) n d,bs]
 grind
theorem pB(hf:Dx c):I7 c=some (Qs c):=by
 unfold I7 Qs;rw[vO hf,bs,show M3 c=some (ZB c)from Dd (SizeOf.sizeOf c) fun n d=>jC _ c (az _) n d,bs]
 grind
theorem Vt(g:d5):Bw g≠9:=by grind[Bw]
variable{t:AC}{p:ea}
theorem af(d:(A7 t).2=0)(h:ID t p=0\/ID t p=9):0<=p.fa/\p.fa<=12:=by grind[Vt,ID]
def Ta(t:AC)(q:ea)(v:Int):Int:=if ID t q≠9 then ID t q else if ll (fun i=>!Lb q i) v q.fa=true then 9 else 0
variable{P:Prop}
theorem wC{α:Type}[Decidable P]{v:α}{X:Option α}{Y:α}(h:P->X=some Y):(if(!decide P)=true then some v else X)=some (if¬P then v else Y):=by grind
theorem vF(hf:Az t)(f:(A7 t).2=0){q:ea}{v:Int}(u:0<=v)(h:v<=q.fa):ER t q v=some (Ta t q v):=by
 unfold ER Ta;rw[WI hf,bs];refine wC fun d=>?_;have hv:=af f (.inr d);rw[Na (c:=fun i=>(if(!Lb q i)=true then some ()else none).map fun _=>.inr 9) (a:=v) (b:=q.fa) h]
 .rw[QG,NQ];cases ll (fun i=>!Lb q i) v q.fa<;>rfl
 .intro i w o _;rw[a6 (by simpa using o),show(fun j=>IA j i)=(fun y=>some (decide (y.gn.Var=i)))from rfl,cb,bs,show(q.em.any fun y=>decide (y.gn.Var=i))=Lb q i from rfl,d,Ay (by omega) (by omega)];cases Lb q i<;>rfl
 .rw[ae (by simp)]
theorem o7(p:ea)(v:Int):OA p v=some (Lb p v):=nN p v
theorem vJ(hf:Az t)(q:ea)(v:Int):I8 t v q=some (if q.fa<v then 20 else Ta t q v):=by
 unfold I8 Ta;refine Nl (by simp) fun _=>?_;rw[ZM hf,bs];refine wC fun d=>?_;rw[d,BQ (fun i=>!Lb q i) 9]
 .cases ll (fun i=>!Lb q i) v q.fa<;>rfl
 .intro i f h _;rw[o7,bs,IC]
def LE:Nat->AC->ea->d7->Int
 |0,_,_,_=>0|N+1,t,p,c=>
  if c.j0=5 then
   if c.ea.fa<p.fa then 20 else if Ta t c.ea p.fa≠0 then Ta t c.ea p.fa else
   if HN p.d5 c.ea.d5 c.Map≠0 then HN p.d5 c.ea.d5 c.Map else if LX c.Map=false then 1 else
   (fst (fun i=>nz (LE N t c.ea (AA c.en i))) 0 c.en.length).getD 0
  else (fst (fun i=>nz (LE N t p (AA c.en i))) 0 c.en.length).getD 0
theorem iW(hf:Az t)(o:(A7 t).2=0):∀(N:Nat)(c:d7)(p:ea),0<=p.fa->SizeOf.sizeOf c<=N->∀n,N<=n->CH n t p c=some (LE N t p c)
 |0,c,p,_,h,_,_=>by have:=Dn c;omega|N+1,c,p,C,h,n,D=>by
  obtain ⟨n,rfl⟩:∃m,n=m+1:=⟨n-1,by omega⟩;rw[CH,LE];have j:∀q:ea,0<=q.fa->(ek (hT (ρ:=Int) (fun(y:Int)(_:Unit)=>
    (idx c.en y).bind fun f=>
    (CH n t q f).bind fun d=>
    if (!decide (d=0))=true then
    some (.ret d)
    else
    some (.next ())) 0 (c.en.length:Int) ()) (fun _=>
    some 0) (fun z=>some z))=some ((fst (fun i=>nz (LE N t q (AA c.en i))) 0 c.en.length).getD 0):=by
   intro q B;rw[Bn (fun i=>nz (LE N t q (AA c.en i))),Cw];intro i u w _;have:=ET (AI (l:=c.en) u w);rw[AD u w,bs,iW hf o N _ q B (by omega) n (by omega),bs,Me]
  by_cases x:c.j0=5
  .rw[a6 (by simpa using x),a6 x];refine Nl (by simp) fun hv=>?_;rw[vF hf o C (by omega),bs];refine Dz fun hi=>?_;rw[ZD,bs];refine Dz fun A=>?_;rw[nI A,bs]
   grind
  grind
theorem jD(hf:Az t):∀(N:Nat)(c:d7)(p:ea),SizeOf.sizeOf c<=N->∀n,N<=n->Dk n t p c=some (LE N t p c)
 |0,c,p,h,_,_=>by have:=Dn c;omega|N+1,c,p,h,n,A=>by
  obtain ⟨n,rfl⟩:∃m,n=m+1:=⟨n-1,by omega⟩;rw[Dk,LE];have d:∀q:ea,(ek (hT (ρ:=Int) (fun(x:Int)(_:Unit)=>
    (idx c.en x).bind fun o=>
    (Dk n t q o).bind fun f=>
    if (!decide (f=0))=true then
    some (.ret f)
    else
    some (.next ())) 0 (c.en.length:Int) ()) (fun _=>
    some 0) (fun y=>some y))=some ((fst (fun i=>nz (LE N t q (AA c.en i))) 0 c.en.length).getD 0):=by
   intro q;rw[Bn (fun i=>nz (LE N t q (AA c.en i))),Cw];intro i u w _;have:=ET (AI (l:=c.en) u w);rw[AD u w,bs,jD hf N _ q (by omega) n (by omega),bs,Me]
  by_cases j:c.j0=5
  .rw[a6 (by simpa using j),a6 j,vJ hf,bs];by_cases hv:c.ea.fa<p.fa
   .simp[hv]
   .simp only[ae hv];refine Dz fun hi=>?_;rw[WR,bs];refine Dz fun z=>?_;rw[vI z,bs];exact Vh fun _=>d _
  .rw[ae (by simpa using j),ae j];exact d p
noncomputable def Nr(t:AC)(p:ea)(c:d7):Int:=if ID t p≠0 then ID t p else if Qs c≠0 then Qs c else LE (SizeOf.sizeOf c) t p c
theorem iN(hf:Az t)(d:(A7 t).2=0)(p:ea)(f:Dx c):DW t p c=some (Nr t p c):=by
 unfold DW Nr;rw[WI hf,bs];refine Dz fun h=>?_;rw[ol f,bs,Option.bind_fun_some];exact Dz fun _=>Dd (SizeOf.sizeOf c) fun n j=>iW hf d _ c p (af d (.inl h)).1 (az _) n j
theorem iu(hf:Az t)(p:ea)(d:Dx c):Hd t p c=some (Nr t p c):=by
 unfold Hd Nr;rw[ZM hf,bs];refine Dz fun h=>?_;rw[pB d,bs,Option.bind_fun_some];exact Dz fun _=>Dd (SizeOf.sizeOf c) fun n f=>jD hf _ c p (az _) n f
end Go.Sf.Sc
namespace Go.Sf.Sc
open Go Go.Sf
structure Jw(r:eg):Prop where
 name:(r.ls.size:Int)<=60
 left:OV r.gt
 right:OV r.ee
 ff:RU r.pq
 into:eH r.o3
 cond:Dx r.d7
noncomputable def FU(t:AC)(r:eg):Int:=
 if (A7 t).2≠0 then(A7 t).2 else if E5 r.ls=false then 2 else if ID t r.gt≠0 then ID t r.gt else
 if Kd t r≠0 then Kd t r else if RF r≠0 then RF r else if U1 t r.ee.d5 (ES r) (J2 r)=false then 13 else Nr t r.gt r.d7
variable{t:AC}{r:eg}
theorem VC(h:Kd t r=0):DD r.ee.d5/\C9 t r.ee.d5=true:=by grind[Kd,DF]
theorem iX(hf:Az t)(d:Jw r):Io t r=some (FU t r):=by
 have q:=d.name;unfold Io FU;rw[Oh hf,bs];refine Dz fun j=>?_;rw[Ql (by omega),bs];refine Vh fun _=>?_;rw[WI hf,bs];refine Dz fun _=>?_;rw[oe hf,bs];refine Dz fun f=>?_;have ho:=VC f;rw[rH d.ff,bs];refine Dz fun o=>?_;rw[iQ ho.1,bs];dsimp only;rw[vG (ec:=ES r) (ei:=J2 r) hf ho.1 ho.2 (fun x h=>Fm h) (fun x h=>Fm h),bs];refine Vh fun _=>?_;rw[iN hf j _ d.cond,bs]
theorem jF(hf:Az t)(d:Jw r):He t r=some (FU t r):=by
 have u:=d.name;unfold He FU;rw[QN hf,bs];refine Dz fun q=>?_;rw[Qm (by omega),bs];refine Vh fun _=>?_;rw[ZM hf,bs];refine Dz fun _=>?_;rw[o8 hf,bs];refine Dz fun f=>?_;have ho:=VC f;rw[rh d.ff,bs,UO,bs];simp only[UO,bs];have e:(if(!Hu r.o3.d3)=true then some true else some (!Hu r.o3.d4))=some (!LX r.o3):=by
  grind [LX,Hu]
 rw [e,bs];have o:RF r=if UR r≠0 then UR r else if LX r.o3=false then 11 else 0:=by
  grind [RF,UR,Em]
 rw [o];by_cases j:UR r=0
 .simp only[j,ne_eq,not_true_eq_false,if_false,decide_true,Bool.not_true,Bool.false_eq_true];cases hi:LX r.o3
  .simp
  .simp only[Bool.not_true,Bool.false_eq_true,if_false,not_true_eq_false,Bool.true_eq_false];rw[iw ho.1,bs];dsimp only;rw[vK (ec:=ES r) (ei:=J2 r) hf ho.1 ho.2 (fun x h=>Fm h) (fun x h=>Fm h),bs];refine Vh fun _=>?_;rw[iu hf _ d.cond,bs]
 .simp[j]
def AaA(t:AC)(l:Fp):Bool:=!(l.any fun k=>t.d3.any fun n=>decide (n.tl=k))
structure gK(t:AC)(r:eg):Prop where
 left:DD r.gt.d5
 ltyped:C9 t r.gt.d5=true
 right:DD r.ee.d5
 Aa7:C9 t r.ee.d5=true
 rtests:r.ee.kq.length=0
 part:ZT r.gt.d5 r.pq
 mor:VV (N8 r.gt.d5 r.pq) r.ee.d5 r.o3
 inj:r.o3.d3.Nodup/\r.o3.d4.Nodup
variable{p:ea}
theorem rR(h:ID t p=0):DD p.d5/\C9 t p.d5=true:=by grind[ID,DF]
theorem df(h:FU t r=0):(A7 t).2=0/\gK t r:=by
 unfold FU at h;split at h
 .omega
 split at h
 .cases h
 split at h
 .omega
 split at h
 .omega
 split at h
 .omega
 rename_i o q u w x;have d:=rR (t:=t) (p:=r.gt) (by omega);have f:=VC (t:=t) (r:=r) (by omega);have j:=oI (r:=r) (by omega);have hi:Hu r.o3.d3=true/\Hu r.o3.d4=true:=by
  grind [LX]
 refine ⟨by omega,d.1,d.2,f.1,f.2,?_,?_,RJ j.2.1,J3.1 hi.1,J3.1 hi.2⟩
 .grind[Kd]
 grind [Em,Tn]
end Go.Sf.Sc
namespace Go.Sf
variable{a b:Int}
theorem UU{ρ:Type}{f:Int->Option (CC Int ρ)}(p:Int->Bool)(v:ρ)(d:a<=b)(h:∀i,a<=i->i<b->f i=some (if p i=true then .ret v else .next (i+1)))(j:f b=some (.brk b)):EG f a=some (if ll p a b=true then .inr v else .inl b):=by
 rw [Na (c:=fun i=>(if p i=true then some ()else none).map fun _=>.inr v) d]
 .grind[QG,NQ,ll]
 .intro i o q _;rw[h i o q];cases p i<;>rfl
 .exact j
theorem Hl{α:Type}{e:α->TV}{n:Nat}{l:List α}(h:TV.Sm (.list n (l.map e))):(l.length:Int)<=140737488351232/\∀x∈l,(e x).Sm:=by
 simp [TV.Sm]at h;refine⟨by have:=h.1;unfold reachBytes at this;omega,fun x d=>UQ.1 h.2 _ (List.mem_map.2 ⟨x,d,rfl⟩)⟩
end Go.Sf
namespace Go.Sf.Sc
open Go Go.Sf
def Zd(a:kg):Bool:=(decide (40<(a.ls.size:Int))||decide (25<(a.qo.length:Int)))||ll (fun i=>decide (40<((AA a.qo i).size:Int))) 0 a.qo.length
theorem kI{a:kg}(h:Zd a=false):Uo a:=by
 unfold Zd at h;simp[decide_eq_false_iff_not,BV]at h;refine⟨by omega,by omega,fun x d=>?_⟩
 grind [Bb]
variable{t:AC}
theorem Q8(T:(AM t).Sm):∃b,Li t=some b/\(b=true->Az t):=by
 have K:TV.Sms [_,_]:=T;obtain⟨w,N⟩:=Hl (e:=Fc) K.1;unfold Li;by_cases hl:20<t.d3.length\/30<t.d4.length
 .rw[a6 (by simp;omega)]
  grind
 rw [ae (by simp;omega)];rcases SK (f:=(fun(A:Int)(Q:Int)=>
 (idx t.d3 A).bind fun y=>
 (if(decide (30<(Am (Q+(y.q0.length:Int)))))=true then some true else((idx t.d3 A).bind fun E=>
 some (decide (40<(E.ls.size:Int))))).bind fun F=>
 if F=true then
 some (CC.ret false)
 else
 ek (EG (ρ:=Bool) (fun(s2:Int)=>
 (idx t.d3 A).bind fun G=>
 if (decide (s2<(G.q0.length:Int)))=true then
 (idx t.d3 A).bind fun H=>
 (idx H.q0 s2).bind fun q=>
 if ((decide (40<(q.ls.size:Int)))||(decide (25<(q.qo.length:Int))))=true then
 some (.ret false)
 else
 ek (EG (ρ:=Bool) (fun(x:Int)=>
 if (decide (x<(q.qo.length:Int)))=true then
 (idx q.qo x).bind fun I=>
 if (decide (40<(I.size:Int)))=true then
 some (.ret false)
 else
 some (.next (Am (x+1)))
 else
 some (.brk x)) 0) (fun x=>
 some (.next (Am (s2+1)))) (fun U=>some (.ret U))
 else
 some (.brk s2)) 0) (fun s2=>
 some (.next (Am (Q+(y.q0.length:Int))))) (fun V=>some (.ret V))))
  (fun i s=>0<=s/\s<=30/\∀j,0<=j->j<i->((AA t.d3 j).ls.size:Int)<=40/\(AA t.d3 j).q0.length<=30/\∀a∈(AA t.d3 j).q0,Uo a) (fun _=>False) (fun r=>r=false) (a:=0) (b:=t.d3.length) (s:=0) (by omega) ⟨by omega,by omega,fun j z d=>by omega⟩ (fun i s B C W=>by
   have Z:=N _ (AI (l:=t.d3) B C);have L:TV.Sms [_,_,_,_]:=Z;obtain⟨ha,O⟩:=Hl (e:=HL) L.2.2.2.1;obtain⟨hI1,hI2,hI3⟩:=W;have hw:Am (s+(AA t.d3 i).q0.length)=s+(AA t.d3 i).q0.length:=Ay (by omega) (by omega);simp only[AD B C,bs,hw,Tl];by_cases hc:30<s+(AA t.d3 i).q0.length\/40<((AA t.d3 i).ls.size:Int)
   .grind
   rw [ae (by simpa using hc)];rw[UU (fun j=>Zd (AA (AA t.d3 i).q0 j)) false (b:=(AA t.d3 i).q0.length) (by omega)]
   .cases S:ll (fun j=>Zd (AA (AA t.d3 i).q0 j)) 0 (AA t.d3 i).q0.length
    .refine .inl ⟨_,rfl,by omega,by omega,fun j J D=>?_⟩
     grind [Bb,kI,BV]
    .exact .inr (.inr ⟨_,rfl,rfl⟩)
   .intro j J D;rw[a6 (by simpa using D),AD J D,bs];have hy:=O _ (AI (l:=(AA t.d3 i).q0) J D);have M:TV.Sms [_,_,_,_]:=hy;obtain⟨hm,_⟩:=Hl (e:=eS) M.2.2.2.1;unfold Zd;cases z:(decide (40<((AA (AA t.d3 i).q0 j).ls.size:Int))||decide (25<((AA (AA t.d3 i).q0 j).qo.length:Int)))
    .rw[ae (by decide),UU (fun k=>decide (40<((AA (AA (AA t.d3 i).q0 j).qo k).size:Int))) false (b:=(AA (AA t.d3 i).q0 j).qo.length) (by omega)]
     .cases ll (fun k=>decide (40<((AA (AA (AA t.d3 i).q0 j).qo k).size:Int))) 0 (AA (AA t.d3 i).q0 j).qo.length
      .rw[Bool.or_false,Ay (show -9223372036854775808<=j+1 by omega) (by omega)];rfl
      .rfl
     .intro k u o;rw[a6 (by simpa using o),AD u o,bs,Ay (show -9223372036854775808<=k+1 by omega) (by omega),IC]
     .rw[ae (by simp)]
    .rfl
   .rw[ae (by simp)])with⟨s',z,d⟩|⟨r,z,d⟩
 .rw[z];rcases d with d|d
  .rw[Bt,BQ (fun i=>decide (40<((AA t.d4 i).ls.size:Int))) false]
   .cases S:ll (fun i=>decide (40<((AA t.d4 i).ls.size:Int))) 0 t.d4.length
    .refine⟨true,rfl,fun _=>⟨by omega,by omega,fun n w=>?_,fun n w=>?_,fun n w=>?_,fun e he=>?_⟩⟩
     .obtain⟨k,u,o,rfl⟩:=Bb w;exact(d.2.2 k u o).1
     .obtain⟨k,u,o,rfl⟩:=Bb w;exact(d.2.2 k u o).2.1
     .obtain⟨k,u,o,rfl⟩:=Bb w;exact(d.2.2 k u o).2.2
     .obtain⟨k,u,o,rfl⟩:=Bb he;have:=BV.1 S k u o;simpa using this
    .exact⟨false,rfl,fun h=>by cases h⟩
   .intro i B C _;rw[AD B C,bs,IC]
  .exact d.elim
 .rw[z];subst d;exact⟨false,rfl,fun h=>by cases h⟩
theorem Rk(p:ea):∃b,Jq p=some b/\(b=true->OV p):=by
 refine ⟨_,rfl,fun h=>?_⟩;simp[t2]at h;exact⟨by omega,by omega,by omega,by omega⟩
variable{a b:Int}
theorem Wq(h:0<=a)(d:a<=140737488351232)(j:0<=b)(f:b<=140737488351232):Am (a+b)=a+b:=Ay (by omega) (by omega)
variable{m:d6}
theorem Wp(f:(Ao m).Sm):∃b,HZ m 140=some b/\(b=true->eH m):=by
 have d:TV.Sms [_,_]:=f;have j:=(Hl (e:=eI) d.1).1;have o:=(Hl (e:=eI) d.2.1).1;refine⟨_,rfl,fun h=>?_⟩;rw[Wq (by omega) j (by omega) o]at h;simp[t2]at h;exact⟨by omega,by omega⟩
theorem kQ{m:At}(f:(Ej m).Sm):∃b,RO m 140=some b/\(b=true->RU m):=by
 have d:TV.Sms [_,_]:=f;have j:=(Hl (e:=eI) d.1).1;have o:=(Hl (e:=eI) d.2.1).1;refine⟨_,rfl,fun h=>?_⟩;rw[Wq (by omega) j (by omega) o]at h;simp[t2]at h;exact⟨by omega,by omega⟩
variable{c:d7}
theorem cd(h:(AH c).Sm):(Ao c.Map).Sm/\(c.en.length:Int)<=140737488351232/\∀k∈c.en,(AH k).Sm:=by
 have f:TV.Sms [_,_,_,_,_,_,_,_,_]:=h;obtain⟨_,d,j,o,_⟩:=f;rw[Nu]at d;obtain⟨q,u⟩:=Hl d;exact⟨⟨j,o,trivial⟩,q,u⟩
theorem Zs:∀(N:Nat)(c:d7),SizeOf.sizeOf c<=N->(AH c).Sm->∀pr:Int,0<=pr->pr<=1000->∃r,(∀n,N<=n->Cy n c pr=some r)/\-1<=r/\r<=pr-1/\(0<=r->Dx c)
 |0,c,h,_,_,_,_=>by have:=Dn c;omega|N+1,c,h,hs,pr,m0,m1=>by
  obtain ⟨O,Q,B⟩:=cd hs;obtain⟨S,E,T⟩:=Rk c.ea;obtain⟨U,I,V⟩:=Wp O;have step:∀n,N+1<=n->∃m,n=m+1/\N<=m:=fun n d=>⟨n-1,by omega,by omega⟩;cases S
  .refine⟨-1,fun n d=>?_,by omega,by omega,fun h=>by omega⟩;obtain⟨n,rfl,_⟩:=step n d;rw[Cy,E];rfl
  cases U
  .refine⟨-1,fun n d=>?_,by omega,by omega,fun h=>by omega⟩;obtain⟨n,rfl,_⟩:=step n d;rw[Cy,E,bs,I];rfl
  have loop:∀(m:Nat)(k left:Int),0<=k->k+m=c.en.length->-1<=left->left<=1000->∃f u,(∀n,N<=n->NB (ρ:=Int) (fun(q:Int×Int)=>
    if ((decide (q.2<(c.en.length:Int)))&&(decide (0<=q.1)))=true then
    (idx c.en q.2).bind fun x=>
    (Cy n x q.1).bind fun y=>
    some (.next (y,Am (q.2+1)))
    else
    some (.brk (q.1,q.2))) (left,k) (.inl (f,u)))/\-1<=f/\f<=left/\(0<=f->∀j,k<=j->j<c.en.length->Dx (AA c.en j)):=by
   intro m
   induction m with
   |zero=>
    intro k left C K D l1;refine⟨left,k,fun n d=>.brk ?_,D,by omega,fun _ j z w=>by omega⟩;rw[ae (by simp;omega)]
   |succ m ih=>
    intro k left C K D l1;by_cases L:0<=left
    .have o:=AI (l:=c.en) C (by omega);have:=ET o;obtain⟨r,W,Z,r3,r4⟩:=Zs N _ (by omega) (B _ o) left L l1;obtain⟨f,u,a1,F,J,G⟩:=ih (k+1) r (by omega) (by omega) Z (by omega);refine⟨f,u,fun n d=>.next (s':=(r,k+1)) ?_ (a1 n d),F,by omega,fun A j z w=>?_⟩
     .rw[a6 (by simp;omega),AD C (by omega),bs,W n d,bs,Ay (by omega) (by omega)]
     .by_cases M:j=k
      .subst M;exact r4 (by omega)
      .exact G A j (by omega) w
    .refine⟨left,k,fun n d=>.brk ?_,D,by omega,fun h=>by omega⟩;rw[ae (by simp;omega)]
  obtain ⟨f,u,a1,F,J,G⟩:=loop c.en.length 0 (pr-1) (by omega) (by omega) (by omega) (by omega);refine⟨f,fun n d=>?_,F,J,fun A=>.mk c (T rfl) (V rfl) (fun k B=>?_)⟩
  .obtain⟨n,rfl,H⟩:=step n d;rw[Cy,E,bs,I];simp only[bs,Bool.not_true,Bool.false_eq_true,if_false];rw[Ay (n:=pr-1) (by omega) (by omega),(a1 n H).eq,Bt]
  .obtain⟨j,z,w,rfl⟩:=Bb B;exact G A j z w
theorem kP(d:(AH c).Sm):∃b,Jr c=some b/\(b=true->Dx c):=by
 obtain ⟨r,f,_,_,j⟩:=Zs (SizeOf.sizeOf c) c (az _) d 40 (by omega) (by omega);have e:P7 c 40=some r:=Dd (SizeOf.sizeOf c) f;unfold Jr;rw[e];exact⟨_,rfl,fun h=>j (by simpa using h)⟩
theorem LQ{b:Bool}{o:K1}{c:Bool}(h:o=some c):(if b=true then o.bind fun x=>some x else some false)=some (b&&c):=by
 subst h;cases b<;>rfl
variable{r:eg}
theorem kR(d:(Bz r).Sm):∃b,PZ r=some b/\(b=true->Jw r):=by
 have f:TV.Sms [_,_,_,_,_,_,_,_,_,_,_,_,_,_,_,_,_,_,_,_,_,_,_,_,_]:=d;obtain⟨_,_,_,_,_,_,_,_,_,_,_,j,o,q,u,_,w,x,c3,c4,c5,c6,c7,c8,c9,_⟩:=f;obtain⟨I,y,z⟩:=Rk r.gt;obtain⟨J,A,B⟩:=Rk r.ee;obtain⟨K,C,D⟩:=kQ (m:=r.pq) ⟨j,o,trivial⟩;obtain⟨L,E,F⟩:=Wp (m:=r.o3) ⟨q,u,trivial⟩;obtain⟨M,G,H⟩:=kP (c:=r.d7) ⟨w,x,c3,c4,c5,c6,c7,c8,c9,trivial⟩;unfold PZ;rw[LQ y,bs,LQ A,bs,LQ C,bs,LQ E,bs,LQ G,bs];refine⟨_,rfl,fun h=>?_⟩;simp[t2]at h;exact⟨h.1.1.1.1.1,z h.1.1.1.1.2,B h.1.1.1.2,D h.1.1.2,F h.1.2,H h.2⟩
end Go.Sf.Sc
