/- Plain lemmas: what the functions of the program and of the reference compute. -/
import Derived.Test.YtfcfkigfmofniaaGreatSfRead
import Derived.Test.YtfcfkigfmofniaaGreatFns
import Derived.Test.YtfcfkigfmofniaaGreatSfPl
set_option linter.all false
set_option maxRecDepth 100000
namespace Go.Sf
theorem YE{ρ τ:Type}{d:Int->Option ρ}{g:ρ->τ}:∀(n:Nat)(a:Int),Em (fun i=>(d i).map g) n a=(Em d n a).map g
 |0,_=>rfl|n+1,a=>by
  rw [Em,Em];cases d a with
  |some r=>rfl|none=>exact YE n (a+1)
variable{a b:Int}
theorem QJ{ρ τ:Type}{d:Int->Option ρ}{g:ρ->τ}:fst (fun i=>(d i).map g) a b=(fst d a b).map g:=YE _ _
theorem WN{ρ:Type}{d:Int->Option ρ}{r:ρ}:∀{n:Nat}{a:Int},Em d n a=some r->∃i,a<=i/\i<a+n/\d i=some r/\∀j,a<=j->j<i->d j=none
 |0,_,h=>by cases h
 |n+1,a,h=>by
  rw [Em]at h;cases hd:d a with
  |some w=>
   grind
  |none=>
   rw [hd]at h;obtain⟨i,f,o,q,u⟩:=WN h
   grind
theorem C2{ρ:Type}{d:Int->Option ρ}{r:ρ}(h:fst d a b=some r):∃i,a<=i/\i<b/\d i=some r/\∀j,a<=j->j<i->d j=none:=by
 obtain ⟨i,f,o,q,u⟩:=WN h
 grind
def L6(p:Int->Bool)(s:ByteArray):Int:=(fst (fun i=>if p (bt s i)then none else some i) 0 s.size).getD s.size
theorem UW(p:Int->Bool)(s:ByteArray):0<=L6 p s/\L6 p s<=s.size/\(∀j,0<=j->j<L6 p s->p (bt s j)=true)/\(L6 p s<s.size->p (bt s (L6 p s))=false):=by
 unfold L6;cases h:fst (fun i=>if p (bt s i)then none else some i) 0 s.size with
 |none=>
  rw [Ay]at h
  grind
 |some r=>
  grind [C2,bt,Option.getD]
variable{s:ByteArray}
theorem bN(h:s≠⟨#[]⟩):0<s.size:=by
 rcases Nat.eq_zero_or_pos s.size with f|f
 .exfalso;apply h;cases s with|mk d=>congr 1;exact Array.eq_empty_of_size_eq_zero f
 .exact f
end Go.Sf
namespace Go.Sf.Sc
open Go Go.Sf
def Ft(c:Int):Bool:=((decide (97<=c))&&(decide (c<=122)))||((decide (65<=c))&&(decide (c<=90)))
def yp(c:Int):Bool:=(decide (48<=c))&&(decide (c<=57))
def RA(c:Int):Bool:=Ft c||yp c||decide (c=95)
theorem aT(c:Int):LP c=some (Ft c):=rfl
theorem Xd(c:Int):KX c=some (yp c):=rfl
theorem ak(c:Int):K5 c=some (Ft c):=rfl
theorem dJ(c:Int):Ib c=some (yp c):=rfl
theorem rx(c:Int):OH c=some (RA c):=by
 unfold OH RA;rw[aT,bs,Xd]
 grind
variable{s:ByteArray}
theorem fG(d:(s.size:Int)<=4611686018427387904){ok:Int->K1}{p:Int->Bool}(h:∀c,ok c=some (p c)):G0 s ok=some (L6 p s):=by
 unfold G0;rw[NM (c:=fun i=>(if p (bt s i)then none else some i).map .inl) (a:=0) (b:=s.size) (by omega)]
 .rw[QJ];unfold L6;cases fst (fun i=>if p (bt s i)=true then none else some i) 0 s.size<;>rfl
 .grind[QO,bt,EH,AV]
 .simp
def DY(s:ByteArray):Bool:=decide (0<s.size)&&Ft (bt s 0)&&decide (s.size<=20)&&decide (L6 RA s=s.size)
theorem Xb(l:List ByteArray)(v:ByteArray):∃k,slices_Index_string l v=some k/\(0<=k↔v∈l):=by
 unfold slices_Index_string;rw[BF (fun i=>if(v==AA l i)=true then some i else none)]
 .cases h:fst (fun i=>if(v==AA l i)=true then some i else none) 0 l.length with
  |none=>
   rw [Ay]at h;refine⟨-1,rfl,by omega,fun o=>?_⟩
   grind [BR]
  |some k=>
   obtain ⟨i,d,f,q,_⟩:=C2 h;have j:(v==AA l i)=true/\i=k:=by
    grind
   obtain ⟨j,rfl⟩:=j;refine⟨i,rfl,fun _=>?_,fun _=>d⟩
   grind [AF]
 .intro i d f _;simp only[AC d f,bs];split<;>rfl
theorem Pv(l:List ByteArray)(v:ByteArray):slices_Contains_string l v=some (l.contains v):=by
 unfold slices_Contains_string;obtain⟨k,d,f⟩:=Xb l v
 grind
theorem rr(z:0<s.size)(w:(s.size:Int)<=4611686018427387904):∃k n e,Js s=some (k,n,e)/\(((decide (e=0))&&(decide (k=1)))&&(decide (n=(s.size:Int))))=DY s:=by
 have F:=UW RA s;unfold Js DY;simp only[QO (Int.le_refl 0) (show(0:Int)<s.size by omega),bs,aT,Xd,fG w rx,fG w Xd,z,decide_true,Bool.true_and];by_cases d:Ft (bt s 0)=true
 .rw[ae d];by_cases f:20<L6 RA s
  .refine⟨0,0,3,by simp[f],?_⟩;simp[d];intro E h;omega
  .refine⟨1,_,0,by rw[az (by simpa using f)],?_⟩;simp only[d,decide_true,Bool.true_and];rw[Bool.eq_iff_iff];simp only[yf,sr];omega
 .rw[az d];have j:Ft (bt s 0)=false:=by simpa using d
  rw [j,Bool.false_and,Bool.false_and];by_cases hd:yp (bt s 0)=true
  .rw[ae hd];by_cases x:9<L6 yp s
   .exact⟨0,0,3,by simp[x],by simp⟩
   .exact⟨2,_,0,by rw[az (by simpa using x)],by simp⟩
  .rw[az hd];by_cases y:bt s 0=34
   .have A:=Y6 (s:=s) (a:=1) (b:=s.size) (by omega) (by omega) (by omega);have o:∀c,Lw c=some (((decide (32<=c))&&(decide (c<=126)))&&(!decide (c=34))):=fun _=>rfl;have B:=UW (fun c=>((decide (32<=c))&&(decide (c<=126)))&&(!decide (c=34))) (s.extract (1:Int).toNat (s.size:Int).toNat);have q:∃n e,HZ s=some (n,e):=by
     unfold HZ;rw[IP (by omega) (by omega) (by omega),bs,fG (by omega) o,bs];rw[AV (by omega) (by omega)];by_cases he:1+L6 (fun c=>((decide (32<=c))&&(decide (c<=126)))&&(!decide (c=34))) (s.extract (1:Int).toNat (s.size:Int).toNat)=s.size
     .refine⟨0,2,?_⟩;simp only[he,decide_true,if_true,bs]
     .simp only[he,decide_false,Bool.false_eq_true,if_false];rw[QO (by omega) (by omega)];simp only[bs];split
      .exact⟨_,_,rfl⟩
      .split
       .exact⟨_,_,rfl⟩
       .exact⟨_,_,rfl⟩
    obtain ⟨n,e,u⟩:=q;refine⟨3,n,e,by rw[ae (by simpa using y),u];rfl,by simp⟩
   .rw[az (by simpa using y)];have C:∃b,OG s=some b:=by
     unfold OG;by_cases h:2<=(s.size:Int)
     .rw[ae (by simpa using h),IP (by omega) (by omega) h];simp only[bs,Pv];exact⟨_,rfl⟩
     .rw[az (by simpa using h)];exact⟨_,rfl⟩
    obtain ⟨b,D⟩:=C;rw[D,bs];cases b
    .simp only[Bool.false_eq_true,if_false,strings_IndexByte,bs];split
     .exact⟨_,_,_,rfl,rfl⟩
     .exact⟨_,_,_,rfl,rfl⟩
    .exact⟨_,_,_,rfl,rfl⟩
theorem Qf(d:(s.size:Int)<=4611686018427387904):Do s=some (DY s):=by
 unfold Do KY;simp only[show decide ((1:Int)=3)=false from rfl,Bool.false_eq_true,if_false,bs];by_cases he:s=⟨#[]⟩
 .subst he;rfl
 grind [rr,bN]
theorem sR(q:(s.size:Int)<=4611686018427387904)(d:Bool):∃n,PX s 0 d=some n/\0<=n/\n<=s.size/\(d=false->n=L6 RA s):=by
 have h:=UW (fun c=>yp c||(!d&&(Ft c||decide (c=95)))) s;refine⟨L6 (fun c=>yp c||(!d&&(Ft c||decide (c=95)))) s,?_,h.1,h.2.1,fun hd=>?_⟩
 .unfold PX;rw[NM (c:=fun i=>(if(yp (bt s i)||(!d&&(Ft (bt s i)||decide (bt s i=95))))then none else some i).map .inl) (a:=0) (b:=s.size) (by omega)]
  .rw[QJ];unfold L6;cases fst (fun i=>if(yp (bt s i)||(!d&&(Ft (bt s i)||decide (bt s i=95))))=true then none else some i) 0 s.size<;>rfl
  .intro i o f _;have j:AG (0+i)=i:=by rw[AV (by omega) (by omega)];omega
   simp only[j,f,decide_true,if_true,QO o f,bs,dJ,ak]
   grind [yp,bt,Ft,EH,AV]
  .have j:AG (0+(s.size:Int))=s.size:=by rw[AV (by omega) (by omega)];omega
   grind
 .subst hd;congr 1
  grind [RA,Ft,yp]
theorem ln(q:0<s.size)(u:(s.size:Int)<=4611686018427387904):∃n,K6 s 0=some n/\(n=0\/(2<=n/\n<=s.size)):=by
 unfold K6;rw[NM (c:=fun i=>if decide (bt s i=34)=true then some (Sum.inr (i+1):Int ⊕ Int)else if(decide (bt s i<32)||decide (126<bt s i))=true then some (Sum.inr 0)else none) (a:=1) (b:=s.size) (by omega)]
 .cases h:fst (fun i=>if decide (bt s i=34)=true then some (Sum.inr (i+1):Int ⊕ Int)else if(decide (bt s i<32)||decide (126<bt s i))=true then some (Sum.inr 0)else none) 1 s.size with
  |none=>exact⟨0,rfl,.inl rfl⟩|some r=>
   obtain ⟨i,o,f,d,_⟩:=C2 h;split at d
   .cases d;exact⟨_,rfl,.inr (by omega)⟩
   .split at d
    .cases d;exact⟨_,rfl,.inl rfl⟩
    .cases d
 .intro i o f _;have j:AG (0+i)=i:=by rw[AV (by omega) (by omega)];omega
  simp only[j,f,decide_true,if_true,QO (show 0<=i by omega) f,bs,AV (show -9223372036854775808<=i+1 by omega) (by omega)];split
  .rfl
  .split<;>rfl
 .have j:AG (0+(s.size:Int))=s.size:=by rw[AV (by omega) (by omega)];omega
  grind
theorem vn(O:0<s.size)(Q:(s.size:Int)<=4611686018427387904):∃t n e,PW s 0=some (t,n,e)/\(((decide (e=0))&&(decide (n=(s.size:Int))))&&(decide (t.ll=1)))=DY s:=by
 obtain ⟨m,M,u,w,N⟩:=sR Q (yp (bt s 0));unfold PW DY;simp only[QO (Int.le_refl 0) (show(0:Int)<s.size by omega),bs,ak,dJ,O,decide_true,Bool.true_and,M];have S:AG (0+m)=m:=by rw[AV (by omega) (by omega)];omega
 by_cases F:Ft (bt s 0)=true
 .have hd:yp (bt s 0)=false:=by
   unfold Ft at F;unfold yp
   grind
  have W:=N hd;subst W;simp only[F,if_true,hd,Bool.false_eq_true,if_false,bs,S];by_cases q:20<L6 RA s
  .refine⟨_,_,_,by rw[ae (by simpa using q)],?_⟩
   grind
  .rw[az (by simpa using q),IP (Int.le_refl _) u w];refine⟨_,_,_,rfl,?_⟩
   grind
 .have G:Ft (bt s 0)=false:=by simpa using F
  simp only[G,Bool.false_eq_true,if_false,bs,Bool.false_and,S];by_cases hd:yp (bt s 0)=true
  .simp only[hd,if_true,bs];by_cases T:9<m
   .exact⟨_,_,_,by rw[ae (by simpa using T)],by simp⟩
   .rw[az (by simpa using T),IP (Int.le_refl _) u w];exact⟨_,_,_,rfl,by simp⟩
  .have H:yp (bt s 0)=false:=by simpa using hd
   simp only[H,Bool.false_eq_true,if_false,bs];by_cases U:bt s 0=34
   .obtain⟨n,hn,y⟩:=ln O Q;rw[ae (by simpa using U),hn,bs];rcases y with rfl|y
    .grind
    .rw[az (by simp;omega)];split
     .grind
     .have Z:AG (0+1)=1:=by decide
      have e2:AG (0+n)=n:=by rw[AV (by omega) (by omega)];omega
      rw [Z,e2,AV (show -9223372036854775808<=n-1 by omega) (by omega),IP (by omega) (by omega) (by omega)];exact⟨_,_,_,rfl,by simp⟩
   .rw[az (by simpa using U)];unfold O4;rw[bs];generalize hL:([(⟨#[45,62]⟩:ByteArray),(⟨#[60,61]⟩:ByteArray),(⟨#[62,61]⟩:ByteArray),(⟨#[61,61]⟩:ByteArray),(⟨#[33,61]⟩:ByteArray),(⟨#[123]⟩:ByteArray),(⟨#[125]⟩:ByteArray),(⟨#[40]⟩:ByteArray),(⟨#[41]⟩:ByteArray),(⟨#[91]⟩:ByteArray),(⟨#[93]⟩:ByteArray),(⟨#[44]⟩:ByteArray),(⟨#[59]⟩:ByteArray),(⟨#[58]⟩:ByteArray),(⟨#[61]⟩:ByteArray),(⟨#[43]⟩:ByteArray),(⟨#[45]⟩:ByteArray),(⟨#[42]⟩:ByteArray),(⟨#[60]⟩:ByteArray),(⟨#[62]⟩:ByteArray),(⟨#[33]⟩:ByteArray),(⟨#[38]⟩:ByteArray),(⟨#[124]⟩:ByteArray),(⟨#[46]⟩:ByteArray),(⟨#[63]⟩:ByteArray)]:List ByteArray)=L;have I:∀x∈L,x.size<=2:=by subst hL;decide
    rcases SR (f:=(fun(h:Int)(V:F2)=>
      (idx L h).bind fun A=>
      (if(decide ((AG (0+(A.size:Int)))<=(s.size:Int)))=true then((idx L h).bind fun B=>
      (yu s 0 (AG (0+(B.size:Int)))).bind fun C=>
      (idx L h).bind fun D=>
      some (C==D))else some false).bind fun E=>
      if E=true then
      (idx L h).bind fun j=>
      (idx L h).bind fun o=>
      some (Bf.ret (F2.mk 4 j 0,(o.size:Int),(0:Int)))
      else
      some (Bf.next V))) (fun _ s=>True) (fun _=>True) (fun r=>r.1.ll=4) (a:=0) (b:=L.length) (s:=F2.mk 0 (⟨#[]⟩:ByteArray) 0) (by omega) trivial (fun i t d z _=>by
      have hx:=I _ (AF d z);have J:AG (0+((AA L i).size:Int))=(AA L i).size:=by rw[AV (by omega) (by omega)];omega
      simp only[AC d z,bs,J];by_cases K:((AA L i).size:Int)<=s.size
      .rw[ae (by simpa using K),IP (by omega) (by omega) K];simp only[bs];split
       .exact .inr (.inr ⟨_,rfl,rfl⟩)
       .exact .inl ⟨_,rfl,trivial⟩
      .rw[az (by simpa using K)];simp only[bs];exact .inl ⟨_,rfl,trivial⟩)with⟨s',d,_⟩|⟨r,d,z⟩
    .rw[d];exact⟨_,_,_,rfl,by simp⟩
    .rw[d];exact⟨_,_,_,rfl,by simp[z]⟩
theorem Qg(d:(s.size:Int)<=4611686018427387904):E7 s=some (DY s):=by
 unfold E7 O3 QA;simp only[show decide ((1:Int)=3)=false from rfl,Bool.false_eq_true,if_false,bs];by_cases he:s=⟨#[]⟩
 .subst he;rfl
 grind [vn,bN]
end Go.Sf.Sc
namespace Go.Sf
variable{ρ β:Type}
def nz(e:Int):a5:=if e=0 then none else some e
theorem L9(e:Int):(if(!decide (e=0))=true then some (Bf.ret e)else some (Bf.next ()))=some (QV (nz e)):=by grind[nz,QV]
theorem qp(b:Bool)(r:ρ):(if b=true then some (Bf.ret r)else some (Bf.next ()))=some (QV (if b=true then some r else none)):=by
 cases b<;>rfl
variable{kr:ρ->Option β}
theorem Ba{σ:Type}{s:σ}{k:σ->Option β}:ek (some (.inl s)) k kr=k s:=rfl
theorem RI{σ:Type}{r:ρ}{k:σ->Option β}:ek (some (.inr r)) k kr=kr r:=rfl
theorem Cx(o:Option ρ)(k:Unit->Option β)(kr:ρ->Option β):ek (some (nH o)) k kr=match o with|none=>k ()|some r=>kr r:=by
 cases o<;>rfl
theorem CG(o:a5):ek (some (nH o)) (fun _=>some 0) (fun v=>some v)=some (o.getD 0):=by
 cases o<;>rfl
variable{a b:Int}
theorem WQ{c:Int->Int}(h:(fst (fun i=>nz (c i)) a b).getD 0=0):∀i,a<=i->i<b->c i=0:=by
 have:fst (fun i=>nz (c i)) a b=none:=by
  cases hf:fst (fun i=>nz (c i)) a b with
  |none=>rfl|some r=>
   grind [Option.getD,C2,nz]
 grind [Ay,nz]
variable{e:Int}
theorem FK:nz e=none↔e=0:=by grind[nz]
theorem Va{α:Type}[Inhabited α]{l:List α}{f:α->K1}{p:α->Bool}(h:∀x∈l,f x=some (p x)):
  (ek (kg (ρ:=Int) (fun(o:Int)(_:Unit)=>(idx l o).bind fun d=>(f d).bind fun j=>if j=true then some (.ret o)else some (.next ())) 0 (l.length:Int) ()) (fun _=>some (-1)) (fun w=>some w))=
   some ((fst (fun i=>if p (AA l i)=true then some i else none) 0 l.length).getD (-1)):=by
 rw [BF (fun i=>if p (AA l i)=true then some i else none)]
 .rw[Cx];cases fst (fun i=>if p (AA l i)=true then some i else none) 0 l.length<;>rfl
 .intro i q u _;rw[AC q u,bs,h _ (AF q u),bs,qp]
theorem YL{α:Type}[Inhabited α]{l:List α}{p:α->Bool}:decide (0<=(fst (fun i=>if p (AA l i)=true then some i else none) 0 l.length).getD (-1))=l.any p:=by
 rw [H0,mt];cases h:fst (fun i=>if p (AA l i)=true then some i else none) 0 l.length with
 |none=>
  grind [Ay,Option.isSome,Option.isSome_eq_false_iff,Option.isNone_iff_eq_none,AA]
 |some k=>
  grind [C2,AA,Option.getD,Option.isSome,Option.isSome_iff_ne_none,Ay]
theorem Eo{α:Type}[Inhabited α]{l:List α}{f:α->K1}{p:α->Bool}(h:∀x∈l,f x=some (p x)):
  ((ek (kg (ρ:=Int) (fun(o:Int)(_:Unit)=>(idx l o).bind fun d=>(f d).bind fun j=>if j=true then some (.ret o)else some (.next ())) 0 (l.length:Int) ()) (fun _=>some (-1)) (fun q=>some q)).bind fun u=>some (decide (0<=u)))=some (l.any p):=by
 rw [Va h,bs,YL]
end Go.Sf
namespace Go.Sf.Sc
open Go Go.Sf
instance:Inhabited kq:=⟨⟨⟨#[]⟩,0,0,[]⟩⟩
instance:Inhabited BD:=⟨⟨⟨#[]⟩,0,false,[]⟩⟩
instance:Inhabited CI:=⟨⟨⟨#[]⟩,0,0,0,0,0,0⟩⟩
instance:Inhabited Bn:=⟨⟨0,0,0⟩⟩
instance:Inhabited Bw:=⟨⟨0,0,⟨0,0⟩⟩⟩
instance:Inhabited Test:=⟨⟨0,⟨0,0⟩,⟨0,0⟩⟩⟩
instance:Inhabited d5:=⟨⟨0,[],⟨[],[]⟩,⟨⟨[],[]⟩,[],0,[]⟩⟩⟩
variable{l:Fp}
theorem Tp{f:Int->K1}{p:Int->Bool}(h:∀x∈l,f x=some (p x)):A0 l f=some (l.any p):=Eo h
theorem cR{l:List Bn}{f:Bn->K1}{p:Bn->Bool}(h:∀x∈l,f x=some (p x)):BP l f=some (l.any p):=Eo h
theorem Zg{l:List d5}{f:d5->K1}{p:d5->Bool}(h:∀x∈l,f x=some (p x)):Bq l f=some (l.any p):=Eo h
theorem bg{l:List BD}{p:BD->Bool}:B8 l (fun x=>some (p x))=some (l.any p):=Eo (fun _ _=>rfl)
theorem bf{l:List CI}{p:CI->Bool}:B7 l (fun x=>some (p x))=some (l.any p):=Eo (fun _ _=>rfl)
theorem oG{l:List kq}{p:kq->Bool}:CW l (fun x=>some (p x))=some (l.any p):=Eo (fun _ _=>rfl)
theorem Zh{p:Int->Bool}:A0 l (fun x=>some (p x))=some (l.any p):=Eo (fun _ _=>rfl)
theorem cT{l:List Bn}{p:Bn->Bool}:BP l (fun x=>some (p x))=some (l.any p):=Eo (fun _ _=>rfl)
theorem cU{l:List Bw}{p:Bw->Bool}:CE l (fun x=>some (p x))=some (l.any p):=Eo (fun _ _=>rfl)
theorem rG(l:Fp)(v:Int):slices_Index_int l v=some ((fst (fun i=>if decide (v=AA l i)=true then some i else none) 0 l.length).getD (-1)):=by
 have:=Va (l:=l) (f:=fun x=>some (decide (v=x))) (p:=fun x=>decide (v=x)) (fun _ _=>rfl);unfold slices_Index_int
 grind
theorem L7(l:Fp)(v:Int):slices_Contains_int l v=some (l.any fun x=>decide (v=x)):=by grind[slices_Contains_int,rG,YL]
theorem oI(l:a6)(v:Bool):FD l v=some (l.any fun x=>v==x):=by
 have:=Eo (l:=l) (f:=fun x=>some (v==x)) (p:=fun x=>v==x) (fun _ _=>rfl);unfold FD Iu
 grind
structure SD(a:kq):Prop where
 name:(a.mr.size:Int)<=40
 names:a.r0.length<=25
 each:∀x∈a.r0,(x.size:Int)<=40
structure Ai(t:eb):Prop where
 ea:t.ca.length<=20
 ec:t.ci.length<=30
 name:∀n∈t.ca,(n.mr.size:Int)<=40
 Aag:∀n∈t.ca,n.pr.length<=30
 each:∀n∈t.ca,∀a∈n.pr,SD a
 AaS:∀e∈t.ci,(e.mr.size:Int)<=40
def par(t:eb)(i:Int):Int:=(AA t.ca i).x5
def Ek(t:eb)(k:Int):Prop:=∀i,0<=i->i<k->-1<=par t i/\par t i<i
def BZ(t:eb):Nat->Int->List kq
 |0,_=>[]|n+1,a=>if a<0 then[]else BZ t n (par t a)++(AA t.ca a).pr
def Ak(t:eb)(a:Int):List kq:=BZ t (a+1).toNat a
variable{t:eb}{a:Int}
theorem Jb{n:Nat}(h:a<0):BZ t n a=[]:=by
 cases n with
 |zero=>rfl|succ n=>rw[BZ,ae h]
variable{k:Int}
theorem M5(d:Ek t k):∀(n m:Nat)(a:Int),a<k->a<n->a<m->BZ t n a=BZ t m a
 |n,m,a,h,j,o=>by
  by_cases f:a<0
  .grind[Jb]
  .cases n with
   |zero=>omega|succ n=>
    cases m with
    |zero=>omega|succ m=>
     rw [BZ,BZ,az f,az f];have:=d a (by omega) h;rw[M5 d n m (par t a) (by omega) (by omega) (by omega)]
theorem NQ(hf:Ai t)(f:k<=t.ca.length)(d:Ek t k):∀(n:Nat)(a:Int),a<k->((BZ t n a).length:Int)<=30*n
 |0,_,_=>by simp[BZ]|n+1,a,h=>by
  rw [BZ];split
  .simp;omega
  .rename_i j;have o:=d a (by omega) h;have q:=NQ hf f d n (par t a) (by omega);have u:=hf.Aag _ (AF (l:=t.ca) (show 0<=a by omega) (by omega))
   grind
theorem V8(hf:Ai t)(h:k<=t.ca.length)(f:Ek t k):∀(n:Nat)(a:Int),a<k->∀x∈BZ t n a,SD x
 |0,_,_=>by simp[BZ]|n+1,a,j=>by
  rw [BZ];split
  .simp
  .rename_i o;have q:=f a (by omega) j;intro x d;rcases List.mem_append.1 d with d|d
   .exact V8 hf h f n (par t a) (by omega) x d
   .exact hf.each _ (AF (l:=t.ca) (show 0<=a by omega) (by omega)) x d
theorem Gg(hf:Ai t)(d:k<=t.ca.length)(f:Ek t k)(h:a<k):(Ak t a).length<=600:=by
 have:=NQ hf d f (a+1).toNat a h;have:=hf.ea;unfold Ak;omega
theorem NR(hf:Ai t)(d:k<=t.ca.length)(f:Ek t k)(h:a<k):∀x∈Ak t a,SD x:=V8 hf d f _ a h
theorem aQ(hf:Ai t)(j:k<=t.ca.length)(h:Ek t k):∀(n:Nat)(a:Int),0<=a->a<k->a<n->C7 n t a=some (BZ t n a)
 |0,_,_,_,_=>by omega|n+1,a,q,z,D=>by
  have A:=h a (by omega) z;have u:=NQ hf j h n (par t a) (by omega);have B:=hf.Aag _ (AF (l:=t.ca) q (by omega));have C:=hf.ea;rw[C7,BZ,az (by omega),AC q (by omega)];simp only[bs];show((if decide (0<=par t a)=true then(C7 n t (par t a)).bind fun f=>some f else some []).bind _)=_;have e:(if decide (0<=par t a)=true then(C7 n t (par t a)).bind fun f=>some f else some [])=some (BZ t n (par t a)):=by
   by_cases o:0<=par t a
   .rw[ae (by simpa using o),aQ hf j h n (par t a) o (by omega) (by omega)];rfl
   .rw[az (by simpa using o),Jb (by omega)]
  have w:(BZ t n (par t a)).length+(AA t.ca a).pr.length<=AU:=by
   unfold AU;have:((BZ t n (par t a)).length:Int)<=30*n:=u;have x:BZ t n (par t a)=BZ t 20 (par t a):=by
    by_cases d:par t a<0
    .rw[Jb d,Jb d]
    .exact M5 h n 20 (par t a) (by omega) (by omega) (by omega)
   have y:=NQ hf j h 20 (par t a) (by omega);rw[<-x]at y;omega
  rw [e,bs,AQ w];rfl
theorem cz(hf:Ai t)(d:k<=t.ca.length)(f:Ek t k)(h:0<=a)(j:a<k):MZ t a=some (Ak t a):=
 Dy (a+1).toNat fun n o=>by
  grind [aQ,Ak,M5]
theorem aa(hf:Ai t)(h:k<=t.ca.length)(f:Ek t k):∀(n:Nat)(a:Int),-1<=a->a<k->a+1<n->GA n t a=some (BZ t n a)
 |0,_,_,_,_=>by omega|n+1,a,z,u,A=>by
  rw [GA,BZ];by_cases d:a<0
  .grind
  .have w:=f a (by omega) u;have x:=hf.Aag _ (AF (l:=t.ca) (show 0<=a by omega) (by omega));have y:=hf.ea;rw[az (by simpa using d),az d,AC (by omega) (by omega)];simp only[bs];have j:BZ t n (par t a)=BZ t 20 (par t a):=by
    by_cases d:par t a<0
    .rw[Jb d,Jb d]
    .exact M5 f n 20 (par t a) (by omega) (by omega) (by omega)
   have o:=NQ hf h f 20 (par t a) (by omega);rw[<-j]at o;have q:(BZ t n (par t a)).length+(AA t.ca a).pr.length<=AU:=by unfold AU;omega
   rw [show(AA t.ca a).x5=par t a from rfl,aa hf h f n (par t a) (by omega) (by omega) (by omega),bs,AQ (by simp;unfold AU;omega)];simp only[bs,List.nil_append];rw[AQ q];rfl
theorem dI(hf:Ai t)(d:k<=t.ca.length)(f:Ek t k)(h:0<=a)(j:a<k):O5 t a=some (Ak t a):=
 Dy (a+2).toNat fun n o=>by
  grind [aa,Ak,M5]
end Go.Sf.Sc
namespace Go.Sf.Sc
open Go Go.Sf
def K3(l:List ByteArray):Int:=
 if (20:Int)<l.length then 3 else(fst (fun i=>if DY (AA l i)=false then some 2 else if mt (fun j=>AA l j==AA l i) 0 i=true then some 5 else none) 0 l.length).getD 0
variable{b:Int}
theorem Zm{l:List ByteArray}{x:ByteArray}(d:0<=b)(f:b<=l.length):(l.take b.toNat).contains x=mt (fun j=>AA l j==x) 0 b:=by
 rw [List.contains_eq_any_beq,QW d f]
 grind
theorem oz{l:List ByteArray}(o:∀x∈l,(x.size:Int)<=40):Io l=some (K3 l):=by
 unfold Io K3;by_cases d:(20:Int)<l.length
 .grind
 .rw[az (by simpa using d),az d];rw[BF (fun i=>if DY (AA l i)=false then some 2 else if mt (fun j=>AA l j==AA l i) 0 i=true then some 5 else none),CG];intro i f h _;have q:=o _ (AF f h);rw[AC f h,bs,Qf (by omega),bs,DT f (by omega)];simp only[bs,Pv,Zm f (show i<=l.length by omega)];cases DY (AA l i)<;>cases mt (fun j=>AA l j==AA l i) 0 i<;>rfl
theorem pN{l:List ByteArray}(o:∀x∈l,(x.size:Int)<=40):ME l=some (K3 l):=by
 unfold ME K3;by_cases d:(20:Int)<l.length
 .grind
 .rw[az (by simpa using d),az d];rw[BF (fun i=>if DY (AA l i)=false then some 2 else if mt (fun j=>AA l j==AA l i) 0 i=true then some 5 else none),CG];intro i f h _;have q:=o _ (AF f h);rw[AC f h,bs,Qg (by omega),bs,BW (fun j=>AA l j==AA l i) 5]
  .cases DY (AA l i)<;>cases mt (fun j=>AA l j==AA l i) 0 i<;>rfl
  grind [AC]
def LU(all:List kq)(k:Int):Int:=
 let x:=AA all k
 if DY x.mr=false then 2 else if mt (fun j=>(AA all j).mr==x.mr) 0 k=true then 5 else
 if x.r0.length=0 then(if -1000000<=x.ze/\x.ze<=x.yl/\x.yl<=1000000 then 0 else 6)else
 if K3 x.r0≠0 then K3 x.r0 else if x.ze=0/\x.yl=x.r0.length-1 then 0 else 6
variable{k:Int}
theorem bw{d:List kq}(q:∀x∈d,SD x)(o:0<=k)(u:k<d.length):FH (AA d k) (d.take k.toNat)=some (LU d k):=by
 have j:=q _ (AF o u);have A:=j.name;unfold FH LU;dsimp only;rw[Qf (by omega),bs,show(fun f=>Iv f (AA d k))=(fun f=>some (f.mr==(AA d k).mr))from rfl,oG,bs,QW o (by omega),oz j.each,bs];have w:=j.names;have y:AG ((AA d k).r0.length-1)=(AA d k).r0.length-1:=AV (by omega) (by omega);rw[y];have z:(AA d k).r0.length=0->K3 (AA d k).r0=0:=fun h=>by rw[List.eq_nil_of_length_eq_zero h];rfl
 generalize K3 (AA d k).r0=e at z|-;simp only[bs,yf,Bool.or_eq_true,sr,Bool.not_eq_true',decide_eq_false_iff_not,Bool.not_eq_false',Bool.or_eq_false_iff,Bool.and_eq_false_iff,ne_eq]
 repeat' (first|rfl|(exfalso;omega;done)|split)
 all_goals (first|rfl|(exfalso;omega)|omega|simp_all|(simp_all;omega))
theorem b7{x:kq}(d:SD x):II x=some (
 if x.r0.length=0 then(if -1000000<=x.ze/\x.ze<=x.yl/\x.yl<=1000000 then 0 else 6)else
 if K3 x.r0≠0 then K3 x.r0 else if x.ze=0/\x.yl=x.r0.length-1 then 0 else 6):=by
 have f:=d.names;have h:AG (x.r0.length-1)=x.r0.length-1:=AV (by omega) (by omega);unfold II DR;simp only[bs,h,pN d.each];generalize K3 x.r0=e;simp only[bs,yf,Bool.or_eq_true,sr,Bool.not_eq_true',decide_eq_false_iff_not,Bool.not_eq_false',Bool.or_eq_false_iff,Bool.and_eq_false_iff,ne_eq]
 repeat' (first|rfl|(exfalso;omega;done)|split)
 all_goals (first|rfl|(exfalso;omega)|omega|simp_all|(simp_all;omega))
def Hi(t:eb)(i:Int):Int:=
 let n:=AA t.ca i
 if DY n.mr=false then 2 else if mt (fun j=>(AA t.ca j).mr==n.mr) 0 i=true then 5 else
 if n.x5< -1\/i<=n.x5 then 6 else if 4<n.pr.length\/8<(Ak t i).length then 3 else
 (fst (fun k=>nz (LU (Ak t i) k)) ((Ak t i).length-n.pr.length) (Ak t i).length).getD 0
variable{t:eb}{i:Int}
theorem WA(d:0<=i):(AA t.ca i).pr.length<=(Ak t i).length:=by
 unfold Ak;rw[show(i+1).toNat=i.toNat+1 by omega,BZ,az (by omega),bk];omega
theorem Ek.next(h:Ek t i)(f:-1<=par t i)(o:par t i<i):Ek t (i+1):=by
 intro j d q;by_cases u:j=i
 .grind
 .exact h j d (by omega)
theorem rt(hf:Ai t)(f:0<=i)(w:i<t.ca.length)(A:Ek t i):Jv t i=some (Hi t i):=by
 have C:=hf.name _ (AF f w);unfold Jv Hi;dsimp only;rw[AC f w,bs,Qf (by omega),bs,DT f (by omega),bs,show(fun q=>OJ q (AA t.ca i))=(fun q=>some (q.mr==(AA t.ca i).mr))from rfl,bg,bs,QW f (by omega)];cases DY (AA t.ca i).mr
 .rfl
 .cases mt (fun j=>(AA t.ca j).mr==(AA t.ca i).mr) 0 i
  .by_cases h:(AA t.ca i).x5< -1\/i<=(AA t.ca i).x5
   .rcases h with h|h<;>simp[h]
   .have d:Ek t (i+1):=A.next (by unfold par;omega) (by unfold par;omega)
    have u:(decide ((AA t.ca i).x5< -1)||decide (i<=(AA t.ca i).x5))=false:=by
     rw [Bool.eq_false_iff];simpa using h
    rw [cz hf (k:=i+1) (by omega) d f (by omega),bs];have y:=Gg hf (k:=i+1) (a:=i) (by omega) d (by omega);have z:=WA (t:=t) f;have o:=NR hf (k:=i+1) (a:=i) (by omega) d (by omega);rw[AV (by omega) (by omega),BF (fun k=>nz (LU (Ak t i) k)),CG]
    .simp only[u,h,Bool.not_true,Bool.false_eq_true,if_false];simp only[bs,yf,Bool.or_eq_true,sr,Bool.not_eq_true',decide_eq_false_iff_not,Bool.not_eq_false',Bool.or_eq_false_iff,Bool.and_eq_false_iff,ne_eq]
     repeat' (first|rfl|(exfalso;omega;done)|split)
     all_goals (first|rfl|(exfalso;omega)|omega|simp_all|(simp_all;omega))
    .intro k B x _;rw[AC (by omega) x,bs,DT (by omega) (by omega),bs,bw o (by omega) x,bs,L9]
  .rfl
theorem sP(hf:Ai t)(h:0<=i)(q:i<t.ca.length)(A:Ek t i):Nv t i=some (Hi t i):=by
 have E:=hf.name _ (AF h q);have F:=hf.ea;unfold Nv Hi DR;dsimp only;rw[AC h q,bs,Qg (by omega),bs,BW (fun j=>(AA t.ca j).mr==(AA t.ca i).mr) 5]
 .cases DY (AA t.ca i).mr
  .rfl
  .cases mt (fun j=>(AA t.ca j).mr==(AA t.ca i).mr) 0 i
   .simp only[Bool.not_true,Bool.false_eq_true,if_false,Ba,bs];rw[AV (by omega) (by omega)];by_cases w:(AA t.ca i).x5< -1\/i<=(AA t.ca i).x5
    .rw[ae,az (by decide),ae w];simp;omega
    .have d:Ek t (i+1):=A.next (by unfold par;omega) (by unfold par;omega)
     rw [az (by simp;omega),az (by decide),az w];rw[dI hf (k:=i+1) (by omega) d h (by omega),bs];have x:=Gg hf (k:=i+1) (a:=i) (by omega) d (by omega);have y:=WA (t:=t) h;have f:=NR hf (k:=i+1) (a:=i) (by omega) d (by omega);rw[AV (by omega) (by omega)];rw[BF (fun k=>nz (LU (Ak t i) k)),CG]
     .simp only[bs,yf,Bool.or_eq_true,sr,Bool.not_eq_true',decide_eq_false_iff_not,Bool.not_eq_false',Bool.or_eq_false_iff,Bool.and_eq_false_iff,ne_eq]
      repeat' (first|rfl|(exfalso;omega;done)|split)
      all_goals (first|rfl|(exfalso;omega)|omega|simp_all|(simp_all;omega))
     .intro k u o _;have z:=f _ (AF (show 0<=k by omega) o);have C:=z.name;simp only[AC (show 0<=k by omega) o,bs];rw[Qg (by omega),bs,BW (fun j=>(AA (Ak t i) j).mr==(AA (Ak t i) k).mr) 5]
      .rw[b7 z];simp only[bs,L9];unfold LU;dsimp only;cases DY (AA (Ak t i) k).mr
       .rfl
       .cases mt (fun j=>(AA (Ak t i) j).mr==(AA (Ak t i) k).mr) 0 k<;>rfl
      .intro j B D _;rw[AC B (by omega),bs];split<;>rfl
   .rfl
 .intro j u o _;rw[AC u (by omega),bs];split<;>rfl
def Kr(low high:Int):Bool:=((decide (0<=low))&&(decide (low<=40)))&&((decide (high=(-1)))||((decide (low<=high))&&(decide (high<=40))))
theorem pG(low high:Int):KG low high=some (Kr low high):=by
 unfold KG Kr DR
 grind
def Je(t:eb)(i:Int):Int:=
 let x:=AA t.ci i
 if DY x.mr=false then 2 else if mt (fun j=>(AA t.ci j).mr==x.mr) 0 i=true then 5 else
 if (0<=x.kp/\x.kp<t.ca.length)/\(0<=x.To/\x.To<t.ca.length)/\Kr x.zF x.zh=true/\Kr x.Aab x.zC=true then 0 else 6
theorem ri(hf:Ai t)(d:0<=i)(h:i<t.ci.length):Jt t i=some (Je t i):=by
 have o:=hf.AaS _ (AF d h);unfold Jt Je LQ;dsimp only;rw[AC d h,bs,Qf (by omega),bs,DT d (by omega),bs,show(fun f=>OI f (AA t.ci i))=(fun f=>some (f.mr==(AA t.ci i).mr))from rfl,bf,bs,QW d (by omega)];simp[show∀a b,KA a b=some (Kr a b)from fun _ _=>rfl];generalize DY (AA t.ci i).mr=b1;generalize mt (fun j=>(AA t.ci j).mr==(AA t.ci i).mr) 0 i=b2;generalize Kr (AA t.ci i).zF (AA t.ci i).zh=b3;generalize Kr (AA t.ci i).Aab (AA t.ci i).zC=b4;cases b1
 .rfl
 grind
theorem sI(hf:Ai t)(o:0<=i)(q:i<t.ci.length):Nu t i=some (Je t i):=by
 have w:=hf.AaS _ (AF o q);have x:=hf.ea;unfold Nu Je DR;dsimp only;rw[AC o q,bs,Qg (by omega),bs,BW (fun j=>(AA t.ci j).mr==(AA t.ci i).mr) 5]
 .simp only[AV (show -9223372036854775808<=(t.ca.length:Int)-1 by omega) (by omega),pG,bs];generalize DY (AA t.ci i).mr=b1;generalize mt (fun j=>(AA t.ci j).mr==(AA t.ci i).mr) 0 i=b2;generalize Kr (AA t.ci i).zF (AA t.ci i).zh=b3;generalize Kr (AA t.ci i).Aab (AA t.ci i).zC=b4;cases b1
  .rfl
  .cases b2
   .cases b3<;>cases b4
    all_goals
     by_cases f:0<=(AA t.ci i).kp/\(AA t.ci i).kp<t.ca.length
     .have d:(AA t.ci i).kp<=(t.ca.length:Int)-1:=by omega
      by_cases u:0<=(AA t.ci i).To/\(AA t.ci i).To<t.ca.length
      .have h:(AA t.ci i).To<=(t.ca.length:Int)-1:=by omega
       simp [f,u,d,h,Ba]
      .have:(decide (0<=(AA t.ci i).To)&&decide ((AA t.ci i).To<=(t.ca.length:Int)-1))=false:=by rw[Bool.eq_false_iff];simp;omega
       simp [f,u,d,this,Ba]
     .have:(decide (0<=(AA t.ci i).kp)&&decide ((AA t.ci i).kp<=(t.ca.length:Int)-1))=false:=by rw[Bool.eq_false_iff];simp;omega
      simp [f,this,Ba]
   .rfl
 grind [AC]
def As(t:eb):ByteArray×Int:=
 if t.ca.length=0 then(⟨#[]⟩,7)else if 12<t.ca.length\/20<t.ci.length then(⟨#[]⟩,3)else
 match fst (fun i=>(nz (Hi t i)).map fun e=>((AA t.ca i).mr,e)) 0 t.ca.length with
 |some r=>r|none=>(fst (fun i=>(nz (Je t i)).map fun e=>((AA t.ci i).mr,e)) 0 t.ci.length).getD (⟨#[]⟩,0)
theorem iF(h:Hi t i=0):-1<=par t i/\par t i<i:=by grind[Hi,par,AA]
theorem Kz{α β:Type}{o:Option α}{g:α->β}:o.map g=none↔o=none:=by cases o<;>simp
theorem Vd(h:∀j,0<=j->j<i->Hi t j=0):Ek t i:=fun j d f=>iF (h j d f)
theorem Ut{ρ:Type}(e:Int)(n:ByteArray):(if(!decide (e=0))=true then some (Bf.ret (n,e))else some (Bf.next ()))=some (QV ((nz e).map fun e=>(n,e))):=by grind[nz,QV]
theorem Oc(hf:Ai t):DL t=some (As t):=by
 unfold DL As;rw[BF (fun i=>(nz (Hi t i)).map fun e=>((AA t.ca i).mr,e)),Cx]
 .rw[BF (fun i=>(nz (Je t i)).map fun e=>((AA t.ci i).mr,e)),Cx]
  .cases fst (fun i=>(nz (Hi t i)).map fun e=>((AA t.ca i).mr,e)) 0 t.ca.length<;>cases fst (fun i=>(nz (Je t i)).map fun e=>((AA t.ci i).mr,e)) 0 t.ci.length
   all_goals dsimp only
   all_goals try simp only[Option.getD]
   all_goals
    simp only[bs,yf,Bool.or_eq_true,sr,Bool.not_eq_true',decide_eq_false_iff_not,Bool.not_eq_false',Bool.or_eq_false_iff,Bool.and_eq_false_iff,ne_eq]
    repeat' (first|rfl|(exfalso;omega;done)|split)
    all_goals (first|rfl|(exfalso;omega)|omega|simp_all|(simp_all;omega))
  .intro i d f _;rw[AC d f,bs,ri hf d f,bs];exact Ut (ρ:=Unit) _ _
 .intro i d f q;have u:Ek t i:=Vd fun j h o=>FK.1 (Kz.1 (q j h o));rw[AC d f,bs,rt hf d f u,bs];exact Ut (ρ:=Unit) _ _
theorem QN(hf:Ai t):Es t=some (As t):=by
 unfold Es As;rw[BF (fun i=>(nz (Hi t i)).map fun e=>((AA t.ca i).mr,e)),Cx]
 .rw[BF (fun i=>(nz (Je t i)).map fun e=>((AA t.ci i).mr,e)),Cx]
  .cases fst (fun i=>(nz (Hi t i)).map fun e=>((AA t.ca i).mr,e)) 0 t.ca.length<;>cases fst (fun i=>(nz (Je t i)).map fun e=>((AA t.ci i).mr,e)) 0 t.ci.length
   all_goals dsimp only
   all_goals try simp only[Option.getD]
   all_goals
    simp only[bs,yf,Bool.or_eq_true,sr,Bool.not_eq_true',decide_eq_false_iff_not,Bool.not_eq_false',Bool.or_eq_false_iff,Bool.and_eq_false_iff,ne_eq]
    repeat' (first|rfl|(exfalso;omega;done)|split)
    all_goals (first|rfl|(exfalso;omega)|omega|simp_all|(simp_all;omega))
  .intro i d f _;simp only[sI hf d f,AC d f,bs];exact Ut (ρ:=Unit) _ _
 .intro i d f q;have u:Ek t i:=Vd fun j h o=>FK.1 (Kz.1 (q j h o));simp only[sP hf d f u,AC d f,bs];exact Ut (ρ:=Unit) _ _
end Go.Sf.Sc
namespace Go.Sf.Sc
open Go Go.Sf
theorem JA{α:Type}{c:Bool}{a b:α}:(if c=true then some a else some b)=some (if c=true then a else b):=by cases c<;>rfl
def Me(n:Int):Bool:=(decide (0<=n))&&(decide (n<=99))
def SQ(e:Bn)(n:Int):Bool:=Me e.kl&&(decide (0<=e.kp)&&decide (e.kp<n))&&(decide (0<=e.To)&&decide (e.To<n))
def Bm(g:d3):Int:=
 if 40<g.ca.length\/80<g.ci.length then 3 else if(g.ca.any fun n=>!Me n)=true then 6 else if(g.ci.any fun e=>!SQ e g.ca.length)=true then 6 else 0
structure CQ(g:d3):Prop where
 ea:g.ca.length<=40
 ec:g.ci.length<=80
 kind:∀n∈g.ca,0<=n/\n<=99
 fit:∀e∈g.ci,(0<=e.kl/\e.kl<=99)/\(0<=e.kp/\e.kp<g.ca.length)/\(0<=e.To/\e.To<g.ca.length)
variable{g:d3}
theorem Cr(h:Bm g=0):CQ g:=by
 unfold Bm at h;split at h
 .cases h
 .split at h
  .cases h
  .split at h
   .cases h
   .rename_i o f d;refine⟨by omega,by omega,fun n j=>?_,fun e he=>?_⟩
    .rw[Bool.not_eq_true,List.any_eq_false]at f
     grind [Me]
    .rw[Bool.not_eq_true,List.any_eq_false]at d;have:=d e he;simp[SQ,Me,Bool.not_eq_true',yf]at this;omega
theorem rm{e:Bn}{n:Nat}(h:n<=40):Nd e n=some (SQ e n):=by
 unfold Nd HD SQ Me;simp only[bs,AV (show -9223372036854775808<=(n:Int)-1 by omega) (by omega)];have d:decide (e.kp<=(n:Int)-1)=decide (e.kp<n):=by rw[decide_eq_decide];omega
 have f:decide (e.To<=(n:Int)-1)=decide (e.To<n):=by rw[decide_eq_decide];omega
 rw [d,f];generalize (decide (0<=e.kl)&&decide (e.kl<=99))=b1;generalize (decide (0<=e.kp)&&decide (e.kp<n))=b2;cases b1<;>cases b2<;>simp
theorem Lb(g:d3):Co g=some (Bm g):=by
 unfold Co Bm;by_cases h:40<g.ca.length\/80<g.ci.length
 .grind
 .rw[az (by simp;omega),az h,show Mc=(fun n=>some (!Me n))from rfl,Zh,cR (p:=fun e=>!SQ e g.ca.length) (fun e _=>by
   grind [Md,rm])]
  grind
theorem Lc(g:d3):DK g=some (Bm g):=by
 unfold DK Bm;by_cases h:40<g.ca.length\/80<g.ci.length
 .grind
 .rw[az (by simp;omega),az h,H0,H0,BW (fun i=>!Me (AA g.ca i)) 6]
  .rw[BW (fun i=>!SQ (AA g.ci i) g.ca.length) 6]
   .cases mt (fun i=>!Me (AA g.ca i)) 0 g.ca.length
    .cases mt (fun i=>!SQ (AA g.ci i) g.ca.length) 0 g.ci.length<;>rfl
    .rfl
   .intro i d f _;rw[AC d f,bs];unfold O6 SQ;simp[show∀n,Lg n=some (Me n)from fun _=>rfl]
    grind
  grind [AC,Lg,AA,Me]
def CP(t:eb)(g:d3):Bool:=!(g.ca.any fun n=>decide (t.ca.length<=n))&&!(g.ci.any fun e=>decide (t.ci.length<=e.kl))
variable{t:eb}
theorem Hc(d:CQ g)(h:CP t g=true):(∀n∈g.ca,0<=n/\n<t.ca.length)/\∀e∈g.ci,0<=e.kl/\e.kl<t.ci.length:=by
 unfold CP at h;simp[Bool.not_eq_true',yf]at h;refine⟨fun n f=>?_,fun e he=>?_⟩
 .have:=h.1 n f;have:=d.kind n f;omega
 .have:=h.2 e he;have:=d.fit e he;omega
theorem o8(t:eb)(g:d3):Jm t g=some (CP t g):=by grind[Jm,CP,OC,Zh,OD,Bn,cT]
theorem Xl(h:CQ g):Gu t g=some (CP t g):=by
 unfold Gu CP;rw[H0,H0,BW (fun i=>decide (t.ca.length<=AA g.ca i)) false]
 .rw[BW (fun i=>decide (t.ci.length<=(AA g.ci i).kl)) false]
  .cases mt (fun i=>decide (t.ca.length<=AA g.ca i)) 0 g.ca.length
   .cases mt (fun i=>decide (t.ci.length<=(AA g.ci i).kl)) 0 g.ci.length<;>rfl
   .rfl
  .intro i d f _;have:=(h.fit _ (AF d f)).1.1;simp[AC d f]
   grind
 .intro i d f _;have:=(h.kind _ (AF d f)).1;simp[AC d f]
  grind
structure Fa(t:eb):Prop where
 ea:t.ca.length<=12
 ec:t.ci.length<=20
 node:∀i:Int,0<=i->i<t.ca.length->Hi t i=0
 edge:∀i:Int,0<=i->i<t.ci.length->Je t i=0
theorem C6(h:(As t).2=0):Fa t:=by
 unfold As at h;split at h
 .cases h
 .split at h
  .cases h
  .rename_i u w;have f:∀i:Int,0<=i->i<t.ca.length->Hi t i=0:=by
    grind [C2,nz,FK,Kz,Ay]
   have he:∀i:Int,0<=i->i<t.ci.length->Je t i=0:=by
    split at h
    .rename_i r d;obtain⟨i,o,q,j,_⟩:=C2 d;rw[f i o q]at j;cases j
    .cases d:fst (fun i=>(nz (Je t i)).map fun e=>((AA t.ci i).mr,e)) 0 t.ci.length with
     |some r=>
      grind [C2,nz]
     |none=>
      grind [FK,Kz,Ay]
   exact ⟨by omega,by omega,f,he⟩
theorem Fa.par(h:Fa t):Ek t t.ca.length:=Vd h.node
variable{i:Int}
theorem Fa.ends(h:Fa t)(d:0<=i)(f:i<t.ci.length):(0<=(AA t.ci i).kp/\(AA t.ci i).kp<t.ca.length)/\(0<=(AA t.ci i).To/\(AA t.ci i).To<t.ca.length):=by
 have:=h.edge i d f
 grind [Je]
def Kb(t:eb)(a:Int):Bool:=decide (0<=a)&&decide (a<t.ca.length)
variable{a:Int}
theorem M9:Kb t a=true↔0<=a/\a<t.ca.length:=by unfold Kb;simp
theorem Xf(hf:Ai t)(l:Fp):F8 t l=some (if(As t).2≠0 then(As t).2 else if(l.all (Kb t))=true then 0 else 6):=by
 unfold F8;rw[Oc hf,bs,Tp (p:=fun a=>!Kb t a) (fun a _=>by unfold Mr Kb;rw[show decide (a<0)=!decide (0<=a)from by rw[<-decide_not,decide_eq_decide];omega,show decide ((t.ca.length:Int)<=a)=!decide (a<t.ca.length)from by rw[<-decide_not,decide_eq_decide];omega,Bool.not_and]),bs]
 grind
theorem dL(hf:Ai t)(a b:Int):KH t a b=some (if(As t).2≠0 then(As t).2 else if(Kb t a&&Kb t b)=true then 0 else 6):=by
 have d:=hf.ea;have e:∀a,decide (a<=(t.ca.length:Int)-1)=decide (a<(t.ca.length:Int)):=fun a=>by rw[decide_eq_decide];omega
 unfold KH DR;rw[QN hf,bs]
 grind [AV,As,Kb]
theorem jR{α:Type}[Inhabited α]{l:List α}(d:0<=i)(f:i<l.length):Av l i (AA l i)=l:=by grind[Av,AA,List.getElem?_eq_getElem,List.set_getElem_self]
theorem Bh{α:Type}[Inhabited α]{l:List α}(d:0<=i)(f:i<l.length):l.take (i+1).toNat=l.take i.toNat++[AA l i]:=by
 unfold AA;rw[show(i+1).toNat=i.toNat+1 by omega,List.take_add_one,List.getD_eq_getElem?_getD,List.getElem?_eq_getElem (by omega)];rfl
theorem Ao{α:Type}{l:List α}(h:l.length<=AU):AT [] l=some l:=by grind[AQ]
def Ea(t:eb)(a:Int):List kq×Int:=if(As t).2≠0 then([],(As t).2)else if Kb t a=true then(Ak t a,0)else([],6)
theorem Rx(hf:Ai t)(a:Int):EM t a=some (Ea t a):=by
 unfold EM Ea;rw[Xf hf,bs];by_cases h:(As t).2=0
 .have j:=C6 h;have e:[a].all (Kb t)=Kb t a:=by simp
  rw [e];simp[h];cases hi:Kb t a
  .rfl
  .rw[ae rfl,ae rfl];have o:=M9.1 hi;have D:=Gg hf (Int.le_refl _) j.par o.2;have B:=NR hf (Int.le_refl _) j.par o.2;rw[az (by decide),cz hf (Int.le_refl _) j.par o.1 o.2,bs];obtain⟨s',C,rfl⟩:=Mv (f:=(fun(q:Int)(u:List kq)=>
 (idx u q).bind fun w=>
 (slices_Clone_string w.r0).bind fun x=>
 (idx u q).bind fun d=>
 some (Av u q (kq.mk d.mr d.ze d.yl x)))) (fun _ s=>s=Ak t a) (a:=0) (b:=(Ak t a).length) (s:=Ak t a) (by omega) rfl (fun i s y z A=>by
     subst A;have:=(B _ (AF y z)).names;refine⟨Ak t a,?_,rfl⟩;unfold slices_Clone_string;rw[AC y z,bs,Ao (by unfold AU;omega),bs,bs];congr 1;exact jR y z)
   rw [C];rfl
 .simp[h,not_false_eq_true,decide_false]
theorem NE(hf:Ai t)(a:Int):Dp t a=some (Ea t a):=by
 unfold Dp Ea;rw[dL hf,bs];by_cases h:(As t).2=0
 .have d:=C6 h;rw[Bool.and_self];simp only[h,ne_eq,not_true_eq_false,if_false];cases hi:Kb t a
  .rfl
  .rw[ae rfl,ae rfl];have f:=M9.1 hi;have u:=Gg hf (Int.le_refl _) d.par f.2;have q:=NR hf (Int.le_refl _) d.par f.2;rw[az (by decide),dI hf (Int.le_refl _) d.par f.1 f.2,bs];rw[BY (fun i=>(Ak t a).take i.toNat) (by omega) (by simp)]
   .rw[bs,Int.toNat_natCast,List.take_length]
   .intro i j o;have:=(q _ (AF j o)).names;rw[AC j o,bs,Ao (by unfold AU;omega),bs,AQ (by rw[cE];simp;unfold AU;omega),Bh j o];rfl
 grind
theorem ER(h:CQ g):Bm g=0:=by
 have:=h.ea;have:=h.ec;unfold Bm;rw[az (by omega),az,az]
 .intro k;obtain⟨e,he,k⟩:=List.any_eq_true.1 k;have:=h.fit e he;simp[SQ,Me]at k;omega
 .intro k;obtain⟨n,d,k⟩:=List.any_eq_true.1 k;have:=h.kind n d;simp[Me]at k;omega
end Go.Sf.Sc
namespace Go.Sf.Sc
open Go Go.Sf
def Pw(t:eb):Nat->Int->Fp
 |0,_=>[]|n+1,a=>if a<0 then[]else a::Pw t n (par t a)
theorem df(t:eb):∀(n:Nat)(a:Int),(Pw t n a).length<=n
 |0,_=>by simp[Pw]|n+1,a=>by
  rw [Pw];split
  .simp
  .have:=df t n (par t a);simp;omega
def Hl(t:eb)(a b:Int):Bool:=(Pw t (a+1).toNat a).any fun x=>decide (b=x)
variable{t:eb}
theorem cq(f:t.ca.length<=12)(q:Ek t t.ca.length):∀(n:Nat)(a:Int)(l:Fp),a<t.ca.length->a<n->l.length+n<=1000 ->
  ∃x,L3 (ρ:=Fp) (fun(d:Int×Fp)=>
 if (decide (0<=d.1))=true then
 (AT d.2 [d.1]).bind fun h=>
 (idx t.ca d.1).bind fun j=>
 some (.next (j.x5,h))
 else
 some (.brk (d.1,d.2))) (a,l) (.inl (x,l++Pw t n a))
 |0,a,l,o,u,_=>by
  refine ⟨a,.brk ?_⟩
  grind [Pw]
 |n+1,a,l,o,u,A=>by
  by_cases w:a<0
  .refine⟨a,.brk ?_⟩
   grind [Pw]
  .have y:=q a (by omega) o;obtain⟨x,z⟩:=cq f q n (par t a) (l++[a]) (by omega) (by omega) (by simp;omega);refine⟨x,.next (s':=(par t a,l++[a])) ?_ ?_⟩
   .rw[ae (by simp;omega),AQ (by simp;unfold AU;omega),bs,AC (by omega) o];rfl
   grind [Pw,par]
variable{a b:Int}
theorem lG(h:Fa t)(o:0<=a)(d:a<t.ca.length):Ju t a b=some (Hl t a b):=by
 have f:=h.ea;obtain⟨x,j⟩:=cq f h.par (a+1).toNat a [] d (by omega) (by simp;omega);have q:=df t (a+1).toNat a;unfold Ju Lx;rw[j.eq,Ba]
 grind [slices_Reverse_int,AU,L7,Hl]
theorem Vh(d:Ek t t.ca.length)(j:0<=b):∀(n m:Nat)(a:Int),-1<=a->a<t.ca.length->a+1<n->a<m->FO n t a b=some ((Pw t m a).any fun x=>decide (b=x))
 |0,_,_,_,_,_,_=>by omega|n+1,m,a,q,h,u,w=>by
  rw [FO];by_cases f:a<0
  .rw[az (by simp;omega),az (by simp;omega)];cases m<;>simp[Pw,f]
  .cases m with
   |zero=>omega|succ m=>
    have o:=d a (by omega) h;rw[Pw,az f,List.any_cons,ae (show decide (0<=a)=true by simp;omega),AC (by omega) h];simp;rw[show(AA t.ca a).x5=par t a from rfl,Vh d j n m (par t a) (by omega) (by omega) (by omega) (by omega)]
    grind
theorem Uz(h:Fa t)(j:0<=a)(d:a<t.ca.length)(f:0<=b):E9 t a b=some (Hl t a b):=
 Dy (a+2).toNat fun n o=>Vh h.par f n (a+1).toNat a (by omega) d (by omega) (by omega)
def Ow(t:eb)(e f g:Int):Bool:=
 decide ((As t).2=0)&&(Kb t f&&Kb t g)&&(decide (0<=e)&&decide (e<t.ci.length))&&(Hl t f (AA t.ci e).kp&&Hl t g (AA t.ci e).To)
theorem iM(hf:Ai t)(e f g:Int):IT t e f g=some (Ow t e f g):=by
 unfold IT Ow;rw[Xf hf,bs,show[f,g].all (Kb t)=(Kb t f&&Kb t g)by simp];by_cases h:(As t).2=0
 .simp only[h,ne_eq,not_true_eq_false,if_false];have d:=C6 h;cases hi:(Kb t f&&Kb t g)
  .rfl
  .rw[sr,M9,M9]at hi;by_cases he:0<=e/\e<t.ci.length
   .rw[az (by simp;omega),AC he.1 he.2];simp[lG d hi.1.1 hi.1.2,lG d hi.2.1 hi.2.2,he.1,he.2,decide_true]
    grind
   grind
 .simp[h]
theorem Ww(hf:Ai t)(e f g:Int):IH t e f g=some (Ow t e f g):=by
 have u:=hf.ec;unfold IH Ow DR;rw[dL hf,bs];by_cases h:(As t).2=0
 .simp only[h,ne_eq,not_true_eq_false,if_false];have d:=C6 h;cases hi:(Kb t f&&Kb t g)
  .rfl
  .rw[sr,M9,M9]at hi;rw[AV (by omega) (by omega)];simp only[bs];by_cases he:0<=e/\e<t.ci.length
   .have j:=d.ends he.1 he.2;have o:e<=(t.ci.length:Int)-1:=by omega
    rw [az (by simp),bs,az (by simp[he.1,o]),AC he.1 he.2];simp[Uz d hi.1.1 hi.1.2 j.1.1,Uz d hi.2.1 hi.2.2 j.2.1,he.1,he.2,decide_true];cases Hl t f (AA t.ci e).kp<;>rfl
   .have:(decide (0<=e)&&decide (e<t.ci.length))=false:=by rw[Bool.eq_false_iff];simpa using he
    have q:(decide (0<=e)&&decide (e<=(t.ci.length:Int)-1))=false:=by rw[Bool.eq_false_iff];simp;omega
    rw [this,q];simp
 .simp[h]
def Mq(n:Int)(x:jj):Bool:=(((decide ((-1)<=x.Var))&&(decide (x.Var<n)))&&(decide ((-1000000)<=x.Add)))&&(decide (x.Add<=1000000))
def Jr(n:Int)(x:Test):Int:=if¬x.ll=1/\¬x.ll=2 then 1 else if(Mq n x.j4&&Mq n x.fl)=true then 0 else 6
def IR(n:Int)(l:List Test):Int:=if n<0\/12<n then 6 else if 40<l.length then 3 else(fst (fun i=>nz (Jr n (AA l i))) 0 l.length).getD 0
theorem r7(n:Int)(x:Test):I5 n x=some (Jr n x):=by
 unfold I5 Jr;simp only[show∀n x,H9 n x=some (Mq n x)from fun _ _=>rfl,bs];generalize Mq n x.j4=b1;generalize Mq n x.fl=b2;cases b1<;>cases b2
 all_goals
  simp only[bs,yf,Bool.or_eq_true,sr,Bool.not_eq_true',decide_eq_false_iff_not,Bool.not_eq_false',Bool.or_eq_false_iff,Bool.and_eq_false_iff,ne_eq]
  repeat' (first|rfl|(exfalso;omega;done)|split)
  all_goals (first|rfl|(exfalso;omega)|omega|simp_all|(simp_all;omega))
theorem lr(n:Int)(x:jj):JC n x=some (if Mq n x=true then 0 else 6):=by
 unfold JC Mq;simp only[bs,yf,Bool.or_eq_true,sr,Bool.not_eq_true',decide_eq_false_iff_not,Bool.not_eq_false',Bool.or_eq_false_iff,Bool.and_eq_false_iff,ne_eq]
 repeat' (first|rfl|(exfalso;omega;done)|split)
 all_goals (first|rfl|(exfalso;omega)|omega|simp_all|(simp_all;omega))
theorem sU(n:Int)(x:Test):PY n x=some (Jr n x):=by
 unfold PY Jr;simp only[lr,bs];generalize Mq n x.j4=b1;generalize Mq n x.fl=b2;cases b1<;>cases b2
 all_goals
  simp only[bs,yf,Bool.or_eq_true,sr,Bool.not_eq_true',decide_eq_false_iff_not,Bool.not_eq_false',Bool.or_eq_false_iff,Bool.and_eq_false_iff,ne_eq]
  repeat' (first|rfl|(exfalso;omega;done)|split)
  all_goals (first|rfl|(exfalso;omega)|omega|simp_all|(simp_all;omega))
theorem o7(n:Int)(l:List Test):G8 n l=some (IR n l):=by
 unfold G8 IR;rw[BF (fun i=>nz (Jr n (AA l i))),CG]
 .simp only[bs,yf,Bool.or_eq_true,sr,Bool.not_eq_true',decide_eq_false_iff_not,Bool.not_eq_false',Bool.or_eq_false_iff,Bool.and_eq_false_iff,ne_eq]
  repeat' (first|rfl|(exfalso;omega;done)|split)
  all_goals (first|rfl|(exfalso;omega)|omega|simp_all|(simp_all;omega))
 .intro i d f _;rw[AC d f,bs,r7,bs,L9]
theorem pT(n:Int)(l:List Test):MD n l=some (IR n l):=by
 unfold MD IR;rw[BF (fun i=>nz (Jr n (AA l i))),CG]
 .simp only[bs,yf,Bool.or_eq_true,sr,Bool.not_eq_true',decide_eq_false_iff_not,Bool.not_eq_false',Bool.or_eq_false_iff,Bool.and_eq_false_iff,ne_eq]
  repeat' (first|rfl|(exfalso;omega;done)|split)
  all_goals (first|rfl|(exfalso;omega)|omega|simp_all|(simp_all;omega))
 .intro i d f _;rw[AC d f,bs,sU,bs,L9]
def Qv(t:eb)(p:d7)(node ix:Int):kq×Bool:=
 if node<0\/p.d3.ca.length<=node then(default,false)else
 let l:=(Ea t (AA p.d3.ca node)).1
 if ix<0\/l.length<=ix then(default,false)else(AA l ix,true)
theorem SI(hf:Ai t)(a:Int):(Ea t a).1.length<=600/\((Ea t a).2≠0->(Ea t a).1=[]):=by
 unfold Ea;split
 .simp
 .rename_i h;have d:=C6 (t:=t) (by omega);split
  .rename_i hi;exact⟨Gg hf (Int.le_refl _) d.par (M9.1 hi).2,by simp⟩
  .simp
variable{p:d7}
theorem ol(hf:Ai t)(d:CQ p.d3)(s:Bw):Fc t p s=some (Qv t p s.pc s.kq):=by
 have j:=d.ea;unfold Fc Qv CU;dsimp only;rw[AV (by omega) (by omega),bs];by_cases h:s.pc<0\/p.d3.ca.length<=s.pc
 .rw[ae (by simp;omega),ae h];rfl
 .rw[az (by simp;omega),az h,AC (by omega) (by omega),bs,Rx hf,bs];have o:=(SI hf (AA p.d3.ca s.pc)).1;rw[AV (by omega) (by omega),bs];by_cases f:s.kq<0\/(Ea t (AA p.d3.ca s.pc)).1.length<=s.kq
  .rw[ae (by simp;omega),ae f];rfl
  grind [AC]
theorem pF(hf:Ai t)(node d:Int):N3 t p node d=some (Qv t p node d):=by
 unfold N3 Qv;dsimp only;by_cases h:node<0\/p.d3.ca.length<=node
 .rw[ae (by simp;omega),ae h];rfl
 .rw[az (by simp;omega),az h,AC (by omega) (by omega),bs,NE hf,bs];have j:=(SI hf (AA p.d3.ca node)).2;by_cases f:d<0\/(Ea t (AA p.d3.ca node)).1.length<=d
  .rw[ae (by simp;omega),ae f];rfl
  grind [Ea,AA,AC]
end Go.Sf.Sc
namespace Go.Sf
variable{σ ρ:Type}
def jV(s:σ)(o:Option ρ):Bf σ ρ:=match o with
 |none=>.next s|some r=>.ret r
def nu(s:σ)(o:Option ρ):σ ⊕ ρ:=match o with
 |none=>.inl s|some r=>.inr r
theorem Z4{f:Int->σ->Option (Bf σ ρ)}(g:Int->σ)(c:Int->Option ρ):∀(n:Nat)(a:Int),
  (∀i,a<=i->i<a+n->(∀j,a<=j->j<i->c j=none)->f i (g i)=some (jV (g (i+1)) (c i)))->x9 f n a (g a)=some (nu (g (a+n)) (Em c n a))
 |0,a,_=>by simp[x9,Em,nu]|n+1,a,h=>by
  have q:=h a (Int.le_refl _) (by omega) (fun j d o=>by omega);rw[EP,q,Em];cases y:c a with
  |some r=>rfl|none=>
   simp only[jV];rw[show a+((n+1:Nat):Int)=a+1+n by omega];refine Z4 g c n (a+1) (fun i d o u=>h i (by omega) (by omega) (fun j w x=>?_))
   grind
variable{a b:Int}
theorem Ho{f:Int->σ->Option (Bf σ ρ)}(g:Int->σ)(c:Int->Option ρ){s:σ}(d:a<=b)(o:s=g a)(h:∀i,a<=i->i<b->(∀j,a<=j->j<i->c j=none)->f i (g i)=some (jV (g (i+1)) (c i))):kg f a b s=some (nu (g b) (fst c a b)):=by
 subst o;unfold kg fst;have:=Z4 g c (b-a).toNat a (fun i q w u=>h i q (by omega) u)
 grind
variable{α:Type}
variable{e:Int}
theorem DM{X:a5}{Y:Int}(h:e=0->X=some Y):(if(!decide (e=0))=true then some e else X)=some (if e≠0 then e else Y):=by grind
variable{v:α}{X:Option α}{Y:α}
theorem CN(h:e=0->X=some Y):(if(!decide (e=0))=true then some v else X)=some (if e≠0 then v else Y):=by grind
variable{P:Prop}
theorem GK[Decidable P]{b:Bool}(d:b=true↔P)(h:¬P->X=some Y):(if b=true then some v else X)=some (if P then v else Y):=by grind
theorem WE{b:Bool}(h:b=true->X=some Y):(if(!b)=true then some v else X)=some (if b=false then v else Y):=by grind
theorem Zi{b:Bool}(h:b=false->X=some Y):(if b=true then some v else X)=some (if b=true then v else Y):=by grind
end Go.Sf
namespace Go.Sf.Sc
open Go Go.Sf
def RN(t:eb)(p:d7)(s:Bw):Bool:=!(Qv t p s.pc s.kq).2||decide (s.jj.Var< -1)||decide (p.fd<=s.jj.Var)||(decide (s.jj.Add< -1000000)||decide (1000000<s.jj.Add))
def Gl(p:d7)(v:Int):Bool:=p.ed.any fun s=>decide (s.jj.Var=v)
def EK(t:eb)(p:d7):Int:=
 if (As t).2≠0 then(As t).2 else if Bm p.d3≠0 then Bm p.d3 else if CP t p.d3=false then 13 else
 if p.fd<0\/12<p.fd then 6 else if 10<p.ed.length\/10<p.mh.length then 3 else
 if (p.ed.any (RN t p))=true then 6 else if IR p.fd p.mh≠0 then IR p.fd p.mh else
 if mt (fun v=>!Gl p v) 0 p.fd=true then 9 else 0
def Jw(p:d7)(i:Int):a6:=(List.range p.fd.toNat).map fun(v:Nat)=>(p.ed.take i.toNat).any fun s=>decide (s.jj.Var=(v:Int))
variable{p:d7}
theorem fw:Jw p 0=List.replicate p.fd.toNat false:=by
 unfold Jw;refine List.ext_getElem (by simp) (fun n d f=>by simp)
theorem ju(p:d7)(i:Int):(Jw p i).length=p.fd.toNat:=by simp[Jw]
variable{i:Int}
theorem jv(d:0<=i)(f:i<p.ed.length)(hv:0<=(AA p.ed i).jj.Var):Av (Jw p i) (AA p.ed i).jj.Var true=Jw p (i+1):=by
 unfold Av;refine List.ext_getElem (by simp[Jw]) (fun n h j=>?_);simp[Jw,Bh d f]
 grind
theorem fv(d:0<=i)(f:i<p.ed.length)(hv:(AA p.ed i).jj.Var<0):Jw p i=Jw p (i+1):=by
 refine List.ext_getElem (by simp[Jw]) (fun n h j=>?_);simp[Jw,Bh d f]
 grind
theorem jt(p:d7):((Jw p p.ed.length).any fun x=>false==x)=mt (fun v=>!Gl p v) 0 p.fd:=by
 rw [Bool.eq_iff_iff,List.any_eq_true,CM];simp only[Jw,Int.toNat_natCast,List.take_length,List.mem_map,List.mem_range];constructor
 .rintro⟨x,⟨v,hv,rfl⟩,d⟩;refine⟨v,by omega,by omega,?_⟩
  grind [Gl]
 .rintro⟨v,f,h,d⟩;refine⟨_,⟨v.toNat,by omega,rfl⟩,?_⟩
  grind [Int.toNat_of_nonneg,Gl]
theorem cj{α ρ:Type}[Inhabited α]{l:List α}{q:α->Bool}{v:ρ}:fst (fun i=>if q (AA l i)=true then some v else none) 0 l.length=if l.any q=true then some v else none:=by
 rw [M8,H0]
variable{t:eb}
theorem Wp(hf:Ai t)(p:d7):C9 t p=some (EK t p):=by
 unfold C9 EK;rw[Oc hf,bs,Lb,bs];refine DM fun F=>DM fun D=>?_;have x:=Cr D;have e:((A0 p.d3.ca (fun d=>GY d t)).bind fun o=>
   (if o=true then some true else((BP p.d3.ci (fun d=>GZ d t)).bind fun q=>some (q))))=some (!CP t p.d3):=by
  unfold CP;rw[show(fun d=>GY d t)=(fun(n:Int)=>some (decide (t.ca.length<=n)))from rfl,Zh,show(fun d=>GZ d t)=(fun(e:Bn)=>some (decide (t.ci.length<=e.kl)))from rfl,cT];simp only[bs];cases p.d3.ca.any fun n=>decide (t.ca.length<=n)<;>simp
 rw [<-Option.bind_assoc,e,bs];refine WE fun E=>?_;unfold CU;simp only[bs];refine GK (by simp;try omega) fun hv=>GK (by simp;try omega) fun G=>?_;unfold F9;rw[ae (by omega),bs,<-fw,AV (show -9223372036854775808<=p.fd-1 by omega) (by omega),Ho (Jw p) (fun i=>if RN t p (AA p.ed i)=true then some 6 else none) (by omega) rfl,cj]
 .cases f:p.ed.any (RN t p)
  .simp only[Bool.false_eq_true,if_false,nu,Ba,o7,bs,oI,jt];by_cases h:IR p.fd p.mh=0
   .simp[h];cases mt (fun v=>!Gl p v) 0 p.fd<;>rfl
   .simp[h]
  .rfl
 .intro i u w _;rw[AC u w,bs,ol hf x,bs];unfold RN;by_cases f:(Qv t p (AA p.ed i).pc (AA p.ed i).kq).2=true
  .by_cases C:(AA p.ed i).jj.Var< -1\/p.fd<=(AA p.ed i).jj.Var
   .have y:(decide (-1<=(AA p.ed i).jj.Var)&&decide ((AA p.ed i).jj.Var<=p.fd-1))=false:=by rw[Bool.eq_false_iff];simp;omega
    have z:(decide ((AA p.ed i).jj.Var< -1)||decide (p.fd<=(AA p.ed i).jj.Var))=true:=by simp;omega
    rw [f,y,Bool.or_assoc (!true),z];rfl
   .have y:(decide (-1<=(AA p.ed i).jj.Var)&&decide ((AA p.ed i).jj.Var<=p.fd-1))=true:=by simp;omega
    have z:(decide ((AA p.ed i).jj.Var< -1)||decide (p.fd<=(AA p.ed i).jj.Var))=false:=by rw[Bool.eq_false_iff];simp;omega
    rw [f,y,Bool.or_assoc (!true),z];by_cases H:(AA p.ed i).jj.Add< -1000000\/1000000<(AA p.ed i).jj.Add
    .have A:(decide (-1000000<=(AA p.ed i).jj.Add)&&decide ((AA p.ed i).jj.Add<=1000000))=false:=by rw[Bool.eq_false_iff];simp;omega
     have B:(decide ((AA p.ed i).jj.Add< -1000000)||decide (1000000<(AA p.ed i).jj.Add))=true:=by simp;omega
     rw [A,B];rfl
    .have A:(decide (-1000000<=(AA p.ed i).jj.Add)&&decide ((AA p.ed i).jj.Add<=1000000))=true:=by simp;omega
     have B:(decide ((AA p.ed i).jj.Add< -1000000)||decide (1000000<(AA p.ed i).jj.Add))=false:=by rw[Bool.eq_false_iff];simp;omega
     rw [A,B];by_cases j:0<=(AA p.ed i).jj.Var
     .simp[j,decide_true];rw[AC j (by rw[ju];omega),bs,jv u w j];rfl
     .simp[j,decide_false];rw[fv u w (by omega)];rfl
  .rw[Bool.not_eq_true]at f;rw[f];rfl
theorem nc(p:d7)(v:Int):LA p v=some (Gl p v):=by
 unfold LA Gl;rw[BW (fun i=>decide ((AA p.ed i).jj.Var=v)) true,H0]
 .cases mt (fun i=>decide ((AA p.ed i).jj.Var=v)) 0 p.ed.length<;>rfl
 .intro i d f _;rw[AC d f,bs,JA]
theorem ZM(hf:Ai t)(p:d7):Gw t p=some (EK t p):=by
 unfold Gw EK;rw[QN hf,bs,Lc,bs];refine DM fun u=>DM fun o=>?_;have f:=Cr o;rw[Xl f,bs];refine WE fun q=>GK (by simp;try omega) fun hv=>GK (by simp;try omega) fun w=>?_;rw[BW (fun i=>RN t p (AA p.ed i)) 6,<-H0]
 .cases x:p.ed.any (RN t p)
  .simp only[Bool.false_eq_true,if_false,Ba,pT,bs];by_cases d:IR p.fd p.mh=0
   .simp only[d];rw[BW (fun v=>!Gl p v) 9]
    .cases mt (fun v=>!Gl p v) 0 p.fd<;>rfl
    .intro i h j _;rw[nc,bs,JA]
   .simp[d]
  .rfl
 .intro i h j _;rw[AC h j,bs,pF hf,bs];unfold RN Mg
  grind
def Mn(t:eb)(p:d7)(i:Int):Int:=
 let s:=AA p.ed i
 if s.pc<0\/p.d3.ca.length<=s.pc then 6 else
 let l:=(Ea t (AA p.d3.ca s.pc)).1
 if ((((((decide (s.kq<0))||(decide ((l.length:Int)<=s.kq)))||(decide (s.jj.Var<(-1))))||(decide (p.fd<=s.jj.Var)))||(decide (s.jj.Add<(-1000000))))||(decide (1000000<s.jj.Add)))=true then 6 else
 if mt (fun j=>(decide ((AA p.ed j).pc=s.pc))&&(decide ((AA p.ed j).kq=s.kq))) 0 i=true then 5 else 0
theorem rz(hf:Ai t)(r:f0)(d:0<=i)(f:i<r.fl.ed.length):LJ t r i=some (Mn t r.fl i):=by
 unfold LJ Mn;dsimp only;rw[AC d f,bs];refine GK (by simp) fun h=>?_;rw[AC (by omega) (by omega),bs,Rx hf,bs,DT d (by omega),bs,
  show (fun j=>PF j (AA r.fl.ed i))=(fun y=>some ((decide (y.pc=(AA r.fl.ed i).pc))&&(decide (y.kq=(AA r.fl.ed i).kq))))from rfl,cU,bs,QW d (by omega)]
 grind
theorem sS(hf:Ai t)(p:d7)(d:0<=i)(f:i<p.ed.length):N6 t p i=some (Mn t p i):=by
 unfold N6 Mn;dsimp only;rw[AC d f,bs];refine GK (by simp) fun h=>?_;rw[AC (by omega) (by omega),bs,NE hf,bs,
  BW (fun j=>(decide ((AA p.ed j).pc=(AA p.ed i).pc))&&(decide ((AA p.ed j).kq=(AA p.ed i).kq))) 5]
 .refine Zi fun _=>?_;cases mt (fun j=>(decide ((AA p.ed j).pc=(AA p.ed i).pc))&&(decide ((AA p.ed j).kq=(AA p.ed i).kq))) 0 i<;>rfl
 grind [AC,AA,kq]
def IM(t:eb)(r:f0):Int:=
 if Bm r.fl.d3≠0 then Bm r.fl.d3 else if CP t r.fl.d3=false then 13 else
 if r.fl.fd≠r.j4.fd\/0<r.fl.mh.length then 1 else if 10<r.fl.ed.length then 3 else
 (fst (fun i=>nz (Mn t r.fl i)) 0 r.fl.ed.length).getD 0
theorem o0(hf:Ai t)(r:f0):Jl t r=some (IM t r):=by
 unfold Jl IM;rw[Lb,bs,o8,bs,BF (fun i=>nz (Mn t r.fl i)),CG]
 .grind
 grind [rz,L9]
theorem pP(hf:Ai t)(r:f0):MQ t r=some (IM t r):=by
 unfold MQ IM;rw[Lc,bs];refine DM fun d=>?_;rw[Xl (Cr d),bs,BF (fun i=>nz (Mn t r.fl i)),CG]
 .grind
 grind [sS,L9]
end Go.Sf.Sc
namespace Go.Sf
variable{a b:Int}
theorem eM{ρ:Type}{c d:Int->Option ρ}(h:∀i,c i=d i):fst c a b=fst d a b:=by rw[funext h]
def C3(l:Fp)(v:Int):Int:=(fst (fun i=>if decide (v=AA l i)=true then some i else none) 0 l.length).getD (-1)
variable{l:Fp}
theorem G2{v:Int}(h:v∈l):0<=C3 l v/\C3 l v<l.length/\AA l (C3 l v)=v/\∀j,0<=j->j<C3 l v->AA l j≠v:=by
 unfold C3;cases hf:fst (fun i=>if decide (v=AA l i)=true then some i else none) 0 l.length with
 |none=>
  grind [BR,Ay]
 |some k=>
  grind [C2,AA]
variable{R:Int->Int->Prop}
theorem Gq(h:l.Pairwise R){i j:Int}(d:0<=i)(f:i<j)(o:j<l.length):R (AA l i) (AA l j):=by grind[List.pairwise_iff_getElem,AA,List.getElem?_eq_getElem]
theorem U7(h:∀i j:Int,0<=i->i<j->j<l.length->R (AA l i) (AA l j)):l.Pairwise R:=by
 refine List.pairwise_iff_getElem.2 (fun i j d f o=>?_);have:=h i j (by omega) (by omega) (by omega);unfold AA at this
 grind
theorem VW(u:l.Pairwise (·<·)){v:Int}(h:v∈l):(l.countP (fun x=>decide (x<v)):Int)=C3 l v:=by
 obtain ⟨w,y,o,_⟩:=G2 h;generalize E:C3 l v=k at w y o;have e:l=l.take k.toNat++l.drop k.toNat:=(List.take_append_drop _ _).symm;have z:(l.take k.toNat).countP (fun x=>decide (x<v))=k.toNat:=by
  rw [List.countP_eq_length.2 (fun x d=>?_),cE]
  .omega
  .obtain⟨i,C,D,rfl⟩:=BR d;rw[cE]at D;rw[KE (by omega),yf,<-o];exact Gq u C (by omega) y
 have A:(l.drop k.toNat).countP (fun x=>decide (x<v))=0:=by
  rw [List.countP_eq_zero];intro x d;obtain⟨n,q⟩:=List.getElem?_of_mem d;rw[List.getElem?_drop]at q;have B:=(List.getElem?_eq_some_iff.1 q).1;have f:x=AA l (k+n):=by
   unfold AA;rw[List.getD_eq_getElem?_getD,show(k+(n:Int)).toNat=k.toNat+n by omega,q];rfl
  rw [yf,f,<-o];by_cases j:n=0
  .subst j;simp
  .have:=Gq u w (show k<k+(n:Int)by omega) (by omega);omega
 rw [e,List.countP_append,z,A];omega
end Go.Sf
namespace Go.Sf.Sc
open Go Go.Sf
theorem oU(l:Fp)(n:Int):(ek (kg (ρ:=Int) (fun(h:Int)(_:Unit)=>
 (idx l h).bind fun d=>
 if (decide (d=n))=true then
 some (.ret h)
 else
 some (.next ())) 0 (l.length:Int) ()) (fun _=>
 some (-1)) (fun j=>some j))=some (C3 l n):=by
 have:=Va (l:=l) (f:=fun x=>some (decide (x=n))) (p:=fun x=>decide (x=n)) (fun _ _=>rfl);simp only[bs]at this;rw[this];unfold C3;congr 2;exact eM fun i=>by simp[eq_comm]
theorem sO(l:Fp)(v:Int):Ie l v=some (C3 l v):=oU l v
def hasB(l:Fp)(v:Int):Bool:=l.any fun x=>decide (v=x)
variable{l:Fp}
theorem B3{v:Int}:hasB l v=true↔v∈l:=by
 unfold hasB
 grind
theorem OY(l:Fp)(n:Int):(ek (kg (ρ:=Bool) (fun(f:Int)(_:Unit)=>
 (idx l f).bind fun d=>
 if (decide (d=n))=true then
 some (.ret true)
 else
 some (.next ())) 0 (l.length:Int) ()) (fun _=>
 some false) (fun h=>some h))=some (hasB l n):=by
 unfold hasB;rw[BW (fun i=>decide (n=AA l i)) true,H0]
 .cases mt (fun i=>decide (n=AA l i)) 0 l.length<;>rfl
 .intro i j o _;rw[AC j o,bs,JA];simp[eq_comm]
theorem pL(l:Fp)(v:Int):RC l v=some (hasB l v):=OY l v
theorem pK(l:Fp)(v:Int):Pa l v=some (hasB l v):=OY l v
def OT(l:Fp)(n:Int):Int:=(fst (fun i=>if AA l i<0\/n<=AA l i then some 6 else if 0<i/\AA l i<=AA l (i-1)then some 12 else none) 0 l.length).getD 0
theorem nU(q:l.length<=1000)(n:Int):Hu l n=some (OT l n):=by
 unfold Hu OT;rw[BF (fun i=>if AA l i<0\/n<=AA l i then some 6 else if 0<i/\AA l i<=AA l (i-1)then some 12 else none),CG];intro i j o _;rw[AC j o,bs];by_cases h:AA l i<0\/n<=AA l i
 .rw[ae (by simpa using h),ae h];rfl
 .rw[az (by simpa using h),az h];by_cases d:0<i
  .rw[ae (by simpa using d),AV (by omega) (by omega),AC (by omega) (by omega),bs,bs];by_cases f:AA l i<=AA l (i-1)
   .rw[ae (by simpa using f),ae ⟨d,f⟩];rfl
   .rw[az (by simpa using f),az (fun h=>f h.2)];rfl
  .rw[az (by simpa using d),bs,az (by decide),az (fun h=>d h.1)];rfl
theorem nZ(u:l.length<=1000)(n:Int):GQ l n=some (OT l n):=by
 unfold GQ OT;rw[BF (fun i=>if AA l i<0\/n<=AA l i then some 6 else if 0<i/\AA l i<=AA l (i-1)then some 12 else none),CG];intro i j o _;rw[AC j o];simp only[bs];by_cases h:AA l i<0\/n<=AA l i
 .have:(if decide (AA l i<0)=true then some true else some (decide (n<=AA l i)))=some true:=by
   rcases h with h|h
   .simp[h]
   .by_cases q:AA l i<0<;>simp[h,q]
  rw [this,bs,ae rfl,ae h];rfl
 .have:(if decide (AA l i<0)=true then some true else some (decide (n<=AA l i)))=some false:=by
   rw [az (by simp;omega),decide_eq_false (by omega)]
  rw [this,bs,az (by decide),az h];by_cases d:0<i
  .rw[ae (by simpa using d),AV (by omega) (by omega),AC (by omega) (by omega),bs,bs];by_cases f:AA l i<=AA l (i-1)
   .rw[ae (by simpa using f),ae ⟨d,f⟩];rfl
   .rw[az (by simpa using f),az (fun h=>f h.2)];rfl
  .rw[az (by simpa using d),bs,az (by decide),az (fun h=>d h.1)];rfl
variable{a b:Int}
theorem PP{c:Int->a5}(d:∀i,c i≠some 0)(h:(fst c a b).getD 0=0):∀i,a<=i->i<b->c i=none:=by
 have:fst c a b=none:=by
  cases hf:fst c a b with
  |none=>rfl|some r=>
   grind [Option.getD,C2]
 exact Ay.1 this
variable{n:Int}
theorem Tl(h:OT l n=0):(∀x∈l,0<=x/\x<n)/\l.Pairwise (·<·):=by
 have y:=PP (c:=fun i=>if AA l i<0\/n<=AA l i then some 6 else if 0<i/\AA l i<=AA l (i-1)then some 12 else none) (fun i=>by
  split
  .simp
  .split<;>simp) h
 have f:∀i:Int,0<=i->i<l.length->(0<=AA l i/\AA l i<n)/\(0<i->AA l (i-1)<AA l i):=by
  intro i o w;have:=y i o w;split at this
  .cases this
  .split at this
   .cases this
   .omega
 refine ⟨fun x q=>?_,U7 (fun i j o d u=>?_)⟩
 .obtain⟨i,z,A,rfl⟩:=BR q;exact(f i z A).1
 .obtain⟨k,B⟩:∃k:Nat,j=i+1+k:=⟨(j-i-1).toNat,by omega⟩;subst B;clear d
  induction k with
  |zero=>
   have:=(f (i+1) (by omega) (by omega)).2 (by omega);rw[show i+1-1=i by omega]at this;simpa using this
  |succ k C=>
   have a:=C (by omega);have b:=(f (i+1+((k+1:Nat):Int)) (by omega) u).2 (by omega);rw[show i+1+((k+1:Nat):Int)-1=i+1+k by omega]at b;omega
theorem So(f:l.length<=1000)(d:l.Pairwise (·<·))(v:Int):slices_BinarySearch_int l v=some (((l.countP (fun x=>decide (x<v)):Nat):Int),hasB l v):=by
 unfold slices_BinarySearch_int;rw[ae ⟨by unfold AU;omega,d.imp (fun h=>by omega)⟩];congr 2;rw[Bool.eq_iff_iff,B3,List.contains_iff_mem]
def Mf(g:d3)(p:BN):Int:=
 if OT p.ca g.ca.length≠0 then OT p.ca g.ca.length else if OT p.ci g.ci.length≠0 then OT p.ci g.ci.length else
 (fst (fun i=>if(hasB p.ca (AA g.ci (AA p.ci i)).kp&&hasB p.ca (AA g.ci (AA p.ci i)).To)=true then none else some 14) 0 p.ci.length).getD 0
structure PI(g:d3)(p:BN):Prop where
 ea:(∀x∈p.ca,0<=x/\x<g.ca.length)/\p.ca.Pairwise (·<·)
 ec:(∀x∈p.ci,0<=x/\x<g.ci.length)/\p.ci.Pairwise (·<·)
 ends:∀x∈p.ci,(AA g.ci x).kp∈p.ca/\(AA g.ci x).To∈p.ca
variable{g:d3}
theorem Ws{p:BN}(h:Mf g p=0):PI g p:=by
 unfold Mf at h;split at h
 .omega
 .split at h
  .omega
  .rename_i q u;refine⟨Tl (by omega),Tl (by omega),fun x f=>?_⟩;obtain⟨i,j,o,rfl⟩:=BR f;have:=PP (c:=fun i=>if(hasB p.ca (AA g.ci (AA p.ci i)).kp&&hasB p.ca (AA g.ci (AA p.ci i)).To)=true then none else some 14) (fun i=>by
    split<;>simp) h i j o
   split at this
   .rename_i d;rw[sr,B3,B3]at d;exact d
   .cases this
def Dg(g:d3)(p:BN):Int:=if Bm g≠0 then Bm g else Mf g p
structure RL(p:BN):Prop where
 ea:p.ca.length<=1000
 ec:p.ci.length<=1000
theorem dB{p:BN}(d:RL p):Eh g p=some (Dg g p):=by
 unfold Eh Dg;rw[Lb,bs];refine DM fun o=>?_;have w:=Cr o;unfold Mp Mf;rw[nU d.ea,bs,nU d.ec,bs,Option.bind_fun_some];refine DM fun q=>DM fun u=>?_;obtain⟨a1,a2⟩:=Tl q;obtain⟨x,y⟩:=Tl u;rw[BF (fun i=>if(hasB p.ca (AA g.ci (AA p.ci i)).kp&&hasB p.ca (AA g.ci (AA p.ci i)).To)=true then none else some 14),CG];intro i f h _;have j:=x _ (AF f h);unfold LN;rw[AC f h,bs,AC j.1 j.2];simp[So d.ea a2];cases hasB p.ca (AA g.ci (AA p.ci i)).kp<;>cases hasB p.ca (AA g.ci (AA p.ci i)).To<;>rfl
theorem Xk{p:BN}(d:RL p):Ic g p=some (Dg g p):=by
 unfold Ic Dg;rw[Lc,bs];refine DM fun o=>?_;have u:=Cr o;unfold O7 Mf;rw[nZ d.ea,bs,nZ d.ec,bs,Option.bind_fun_some];refine DM fun x=>DM fun q=>?_;obtain⟨w,y⟩:=Tl q;rw[BF (fun i=>if(hasB p.ca (AA g.ci (AA p.ci i)).kp&&hasB p.ca (AA g.ci (AA p.ci i)).To)=true then none else some 14),CG];intro i f h _;have j:=w _ (AF f h);rw[AC f h,bs,AC j.1 j.2];simp[pK];cases hasB p.ca (AA g.ci (AA p.ci i)).kp<;>cases hasB p.ca (AA g.ci (AA p.ci i)).To<;>rfl
def Cg(g:d3)(p:BN):d3:=⟨p.ca.map (AA g.ca),p.ci.map fun x=>⟨(AA g.ci x).kl,C3 p.ca (AA g.ci x).kp,C3 p.ca (AA g.ci x).To⟩⟩
variable{i:Int}
theorem Hp{α:Type}{f:Int->α}(d:0<=i)(h:i<l.length):(l.take (i+1).toNat).map f=(l.take i.toNat).map f++[f (AA l i)]:=by grind[Bh]
theorem SU(z:l.length<=1000)(h:∀x∈l,0<=x/\x<g.ca.length)(es:List Bn):(nd (fun(y:Int)(u:d3)=>
 (idx l y).bind fun d=>
 (idx g.ca d).bind fun f=>
 (AT u.ca [f]).bind fun j=>
 some (d3.mk j u.ci)) 0 (l.length:Int) (d3.mk [] es))=some (d3.mk (l.map (AA g.ca)) es):=by
 rw [BY (fun i=>d3.mk ((l.take i.toNat).map (AA g.ca)) es) (by omega) (by simp)]
 .rw[Int.toNat_natCast,List.take_length]
 .intro i o q;have w:=h _ (AF o q);rw[AC o q,bs,AC w.1 w.2,bs,AQ (by simp;unfold AU;omega),bs,Hp o q]
theorem WU(B:l.length<=1000)(h:∀x∈l,0<=x/\x<g.ci.length)(o:Fp)(F:Bn->Bn){f:Bn->List Bn->Option (List Bn)}(hf:∀x∈l,∀s,s.length<=1000->f (AA g.ci x) s=some (s++[F (AA g.ci x)])):(nd (fun(A:Int)(y:d3)=>
 (idx l A).bind fun q=>
 (idx g.ci q).bind fun u=>
 (f u y.ci).bind fun w=>
 some (d3.mk y.ca w)) 0 (l.length:Int) (d3.mk o []))=some (d3.mk o (l.map fun x=>F (AA g.ci x))):=by
 rw [BY (fun i=>d3.mk o ((l.take i.toNat).map fun x=>F (AA g.ci x))) (by omega) (by simp)]
 .rw[Int.toNat_natCast,List.take_length]
 .intro i d j;have z:=h _ (AF d j);rw[AC d j,bs,AC z.1 z.2,bs,hf _ (AF d j) _ (by simp;omega),bs,Hp d j]
theorem iL{p:BN}(d:RL p):EX g p=some (if Dg g p≠0 then(⟨[],[]⟩,⟨[],[]⟩,Dg g p)else(Cg g p,⟨p.ca,p.ci⟩,0)):=by
 unfold EX;rw[dB d,bs];refine CN fun h=>?_;have w:Bm g=0/\Mf g p=0:=by
  grind [Dg]
 have ho:=Ws w.2;rw[SU d.ea ho.ea.1,bs];have:=WU (g:=g) (l:=p.ci) d.ec ho.ec.1 (p.ca.map (AA g.ca)) (fun x=>⟨x.kl,C3 p.ca x.kp,C3 p.ca x.To⟩) (f:=fun j s=>
  (slices_BinarySearch_int p.ca j.kp).bind fun o=>
  (slices_BinarySearch_int p.ca j.To).bind fun q=>
  AT s [Bn.mk j.kl o.1 q.1]) (fun x u s y=>by
   have he:=ho.ends x u;rw[So d.ea ho.ea.2,bs,So d.ea ho.ea.2,bs,AQ (by simp;unfold AU;omega),VW ho.ea.2 he.1,VW ho.ea.2 he.2])
 simp [Option.bind_assoc]at this;rw[this,bs];unfold slices_Clone_int;have z:=d.ea;have A:=d.ec;rw[Ao (by unfold AU;omega),bs,Ao (by unfold AU;omega)];rfl
theorem UP{p:BN}(j:RL p):GV g p=some (if Dg g p≠0 then(⟨[],[]⟩,⟨[],[]⟩,Dg g p)else(Cg g p,⟨p.ca,p.ci⟩,0)):=by
 unfold GV;rw[Xk j,bs];refine CN fun h=>?_;have u:Bm g=0/\Mf g p=0:=by
  grind [Dg]
 have ho:=Ws u.2;rw[SU j.ea ho.ea.1,bs];have:=WU (g:=g) (l:=p.ci) j.ec ho.ec.1 (p.ca.map (AA g.ca)) (fun x=>⟨x.kl,C3 p.ca x.kp,C3 p.ca x.To⟩) (f:=fun d s=>
  (Ie p.ca d.kp).bind fun o=>
  (Ie p.ca d.To).bind fun q=>
  AT s [Bn.mk d.kl o q]) (fun x w s y=>by
   grind [sO,AQ,AU])
 simp [Option.bind_assoc]at this;rw[this,bs];have z:=j.ea;have A:=j.ec;rw[Ao (by unfold AU;omega),bs,Ao (by unfold AU;omega)];rfl
end Go.Sf.Sc
namespace Go.Sf.Sc
open Go Go.Sf
def Ky(a b:d3)(m:d4)(i:Int):a5:=
 if AA m.ca i<0\/b.ca.length<=AA m.ca i then some 6 else if AA b.ca (AA m.ca i)≠AA a.ca i then some 13 else none
def FY(a b:d3)(m:d4)(i:Int):a5:=
 if AA m.ci i<0\/b.ci.length<=AA m.ci i then some 6 else
 if (AA a.ci i).kl≠(AA b.ci (AA m.ci i)).kl then some 13 else
 if AA m.ca (AA a.ci i).kp≠(AA b.ci (AA m.ci i)).kp\/AA m.ca (AA a.ci i).To≠(AA b.ci (AA m.ci i)).To then some 11 else none
def HH(a b:d3)(m:d4):Int:=
 if Bm a≠0 then Bm a else if Bm b≠0 then Bm b else if m.ca.length≠a.ca.length\/m.ci.length≠a.ci.length then 20 else
 match fst (Ky a b m) 0 m.ca.length with
 |some e=>e|none=>(fst (FY a b m) 0 m.ci.length).getD 0
structure SE(a b:d3)(m:d4):Prop where
 ga:CQ a
 gb:CQ b
 yW:m.ca.length=a.ca.length
 zb:m.ci.length=a.ci.length
 node:∀i:Int,0<=i->i<m.ca.length->(0<=AA m.ca i/\AA m.ca i<b.ca.length)/\AA b.ca (AA m.ca i)=AA a.ca i
 edge:∀i:Int,0<=i->i<m.ci.length->(0<=AA m.ci i/\AA m.ci i<b.ci.length)/\(AA a.ci i).kl=(AA b.ci (AA m.ci i)).kl/\
  AA m.ca (AA a.ci i).kp=(AA b.ci (AA m.ci i)).kp/\AA m.ca (AA a.ci i).To=(AA b.ci (AA m.ci i)).To
variable{m:d4}
theorem Ur{a b:d3}(h:HH a b m=0):SE a b m:=by
 unfold HH at h;split at h
 .omega
 split at h
 .omega
 split at h
 .cases h
 rename_i o q u;have j:fst (Ky a b m) 0 m.ca.length=none:=by
  grind [C2,Ky]
 rw [j]at h;have he:=PP (fun i=>by
  grind [FY]) h
 refine ⟨Cr (by omega),Cr (by omega),by omega,by omega,fun i d f=>?_,fun i d f=>?_⟩
 .grind[Ay,Ky]
 grind [FY]
theorem ZD(a b:d3)(m:d4):DJ a b m=some (HH a b m):=by
 unfold DJ HH;rw[Lb,bs,Lb,bs];refine DM fun u=>DM fun w=>GK (by simp;try omega) fun z=>?_;have ga:=Cr u;have gb:=Cr w;rw[BF (Ky a b m),Cx]
 .cases x:fst (Ky a b m) 0 m.ca.length with
  |some e=>rfl|none=>
   have y:=Ay.1 x;dsimp only;rw[BF (FY a b m),CG];intro i h q _;unfold FY;rw[AC h q,bs];by_cases d:AA m.ci i<0\/b.ci.length<=AA m.ci i
   .rw[ae (by simpa using d),ae d];rfl
   .have hf:=ga.fit _ (AF (l:=a.ci) h (by omega));rw[az (by simpa using d),az d,AC h (by omega),bs,AC (by omega) (by omega),bs];by_cases f:(AA a.ci i).kl=(AA b.ci (AA m.ci i)).kl
    .rw[az (by simpa using f),az (by simpa using f),AC (by omega) (by omega),bs];by_cases j:AA m.ca (AA a.ci i).kp=(AA b.ci (AA m.ci i)).kp
     .rw[az (by simpa using j),AC (by omega) (by omega),bs,bs];by_cases o:AA m.ca (AA a.ci i).To=(AA b.ci (AA m.ci i)).To
      .rw[az (by simpa using o),az (by simp[j,o])];rfl
      .rw[ae (by simpa using o),ae (.inr o)];rfl
     .rw[ae (by simpa using j),bs,ae rfl,ae (.inl j)];rfl
    .rw[ae (by simpa using f),ae f];rfl
 .intro i h q _;unfold Ky;rw[AC h q,bs];by_cases d:AA m.ca i<0\/b.ca.length<=AA m.ca i
  .rw[ae (by simpa using d),ae d];rfl
  .rw[az (by simpa using d),az d,AC (by omega) (by omega),bs,AC h (by omega),bs];by_cases f:AA b.ca (AA m.ca i)=AA a.ca i
   .rw[az (by simpa using f),az (by simpa using f)];rfl
   .rw[ae (by simpa using f),ae f];rfl
theorem UK{x y:Prop}[Decidable x][Decidable y]:(if decide x=true then some true else some (decide y))=some (decide (x\/y)):=by grind
theorem ZL(a b:d3)(m:d4):Gs a b m=some (HH a b m):=by
 unfold Gs HH;rw[Lc,bs,Lc,bs];refine DM fun u=>DM fun w=>GK (by simp;try omega) fun z=>?_;have ga:=Cr u;have gb:=Cr w;rw[show(a.ca.length:Int)=m.ca.length by omega,show(a.ci.length:Int)=m.ci.length by omega,BF (Ky a b m),Cx]
 .cases x:fst (Ky a b m) 0 m.ca.length with
  |some e=>rfl|none=>
   have y:=Ay.1 x;dsimp only;rw[BF (FY a b m),CG];intro i h q _;unfold FY;rw[AC h q];simp only[bs,UK];by_cases d:AA m.ci i<0\/b.ci.length<=AA m.ci i
   .rw[ae (by simpa using d),ae d];rfl
   .have hf:=ga.fit _ (AF (l:=a.ci) h (by omega));rw[az (by simpa using d),az d,AC h (by omega),bs,AC (by omega) (by omega),bs];by_cases f:(AA a.ci i).kl=(AA b.ci (AA m.ci i)).kl
    .rw[az (by simpa using f),az (by simpa using f),AC (by omega) (by omega),bs];by_cases j:AA m.ca (AA a.ci i).kp=(AA b.ci (AA m.ci i)).kp
     .rw[az (by simpa using j),AC (by omega) (by omega),bs,bs];by_cases o:AA m.ca (AA a.ci i).To=(AA b.ci (AA m.ci i)).To
      .rw[az (by simpa using o),az (by simp[j,o])];rfl
      .rw[ae (by simpa using o),ae (.inr o)];rfl
     .rw[ae (by simpa using j),bs,ae rfl,ae (.inl j)];rfl
    .rw[ae (by simpa using f),ae f];rfl
 .intro i h q _;unfold Ky;rw[AC h q];simp only[bs,UK];by_cases d:AA m.ca i<0\/b.ca.length<=AA m.ca i
  .rw[ae (by simpa using d),ae d];rfl
  .rw[az (by simpa using d),az d,AC (by omega) (by omega),bs,AC h (by omega),bs];by_cases f:AA b.ca (AA m.ca i)=AA a.ca i
   .rw[az (by simpa using f),az (by simpa using f)];rfl
   .rw[ae (by simpa using f),ae f];rfl
def I6(l:Fp):Bool:=!mt (fun i=>mt (fun j=>decide (AA l i=AA l j)) 0 i) 0 l.length
variable{l:Fp}
theorem Jd:I6 l=true↔l.Nodup:=by grind[I6,Bool.not_eq_true',Bt,U7,Gq]
theorem ZK(l:Fp):Ef l=some (I6 l):=by
 unfold Ef I6;rw[BW (fun i=>mt (fun j=>decide (AA l i=AA l j)) 0 i) false]
 .cases mt (fun i=>mt (fun j=>decide (AA l i=AA l j)) 0 i) 0 l.length<;>rfl
 .intro i d f _;rw[BW (fun j=>decide (AA l i=AA l j)) false]
  .cases mt (fun j=>decide (AA l i=AA l j)) 0 i<;>rfl
  .intro j h o _;rw[AC d f,bs,AC h (by omega),bs,JA]
theorem aS(f:l.length<=1000):∃k,GO l=some k/\decide (k=(l.length:Int))=I6 l:=by
 have d:(Q4 l).length=l.length:=(P7 l).length_eq;refine⟨((Go.Lib.compact (Q4 l)).length:Int),?_,?_⟩
 .grind[GO,slices_Clone_int,slices_Sort_int,slices_Compact_int,Ao,AU]
 .rw[Bool.eq_iff_iff,Jd,yf,<-(P7 l).nodup_iff,<-TS (Qc l),d];omega
def HF(m:d4):Bool:=I6 m.ca&&I6 m.ci
theorem nV{a b:d3}(h:HH a b m=0):DD a b m=some (HF m):=by
 have ho:=Ur h;have:=ho.ga.ea;have:=ho.ga.ec;have:=ho.yW;have:=ho.zb;obtain⟨k,d,f⟩:=aS (l:=m.ca) (by omega);obtain⟨j,o,q⟩:=aS (l:=m.ci) (by omega);unfold DD HF;rw[ZD,h,bs,ae (decide_eq_true rfl),d];simp[o,f,q];cases I6 m.ca<;>rfl
theorem vj{a b:d3}(h:HH a b m=0):IJ a b m=some (HF m):=by grind[IJ,HF,ZL,ZK,I6]
def Ox(r:f0):Int:=
 if Dg r.j4.d3 r.qo≠0 then Dg r.j4.d3 r.qo else
 if HH (Cg r.j4.d3 r.qo) r.fl.d3 r.o4≠0 then HH (Cg r.j4.d3 r.qo) r.fl.d3 r.o4 else if HF r.o4=false then 11 else 0
variable{r:f0}
theorem rq(d:RL r.qo):LI r=some (Ox r):=by
 unfold LI Ox;rw[iL d,bs];by_cases h:Dg r.j4.d3 r.qo=0
 .simp only[h,ne_eq,not_true_eq_false,if_false,decide_true,Bool.not_true,Bool.false_eq_true];rw[ZD,bs];refine DM fun f=>?_;rw[nV f,bs];exact WE fun _=>rfl
 .simp[h]
def U1(r:f0):Int:=if Dg r.j4.d3 r.qo≠0 then Dg r.j4.d3 r.qo else HH (Cg r.j4.d3 r.qo) r.fl.d3 r.o4
theorem sT(d:RL r.qo):N7 r=some (U1 r):=by
 unfold N7 U1;rw[Xk d,bs];refine DM fun h=>?_
 grind [UP,ZL]
theorem oW(h:Ox r=0):Dg r.j4.d3 r.qo=0/\HH (Cg r.j4.d3 r.qo) r.fl.d3 r.o4=0/\HF r.o4=true:=by grind[Ox]
def A2(l:Fp)(n:Int):Fp:=((List.range n.toNat).map Int.ofNat).filter fun i=>!hasB l i
variable{i:Int}
theorem N9(l:Fp)(h:0<=i):A2 l (i+1)=A2 l i++if(!hasB l i)=true then[i]else[]:=by
 unfold A2;rw[show(i+1).toNat=i.toNat+1 by omega,List.range_succ,List.map_append,List.filter_append]
 grind
theorem Gx{n x:Int}(h:x∈A2 l n):0<=x/\x<n:=by
 unfold A2 at h
 grind
theorem RF(l:Fp)(n:Int):(A2 l n).length<=n.toNat:=by
 unfold A2
 grind
variable{n:Int}
theorem UU(q:0<=n)(w:n<=1000){f:Int->K1}(hf:∀i,f i=some (hasB l i)):(nd (fun(j:Int)(o:Fp)=>
 (f j).bind fun d=>
 if (!d)=true then
 (AT o [j]).bind fun h=>
 some h
 else
 some o) 0 n [])=some (A2 l n):=by
 refine BY (A2 l) q (by simp[A2]) (fun i u x=>?_);have:=RF l i;rw[hf,bs,N9 l u];cases hasB l i
 .rw[ae (by decide),ae (by decide),AQ (by simp;unfold AU;omega)];rfl
 .rw[az (by decide),az (by decide),List.append_nil]
theorem aU(d:0<=n)(f:n<=1000):KV l n=some (A2 l n):=by
 unfold KV;rw[UU d f (fun i=>L7 l i)];rfl
theorem jD(d:0<=n)(f:n<=1000):Ln n l=some (A2 l n):=by
 unfold Ln;rw[UU d f (fun i=>pL l i)];rfl
def IY(r:f0):Fp:=A2 r.o4.ca r.fl.d3.ca.length
def OW(r:f0):Fp:=A2 r.o4.ci r.fl.d3.ci.length
theorem iP(d:CQ r.fl.d3):LH r=some (IY r,OW r):=by
 have:=d.ea;have:=d.ec;unfold LH;rw[aU (by omega) (by omega),bs,aU (by omega) (by omega)];rfl
theorem iq(d:CQ r.fl.d3):J7 r=some (IY r,OW r):=by
 have:=d.ea;have:=d.ec;unfold J7;rw[jD (by omega) (by omega),bs,jD (by omega) (by omega)];rfl
def Jf(t:eb)(g:d3)(i:Int):Bool:=Ow t (AA g.ci i).kl (AA g.ca (AA g.ci i).kp) (AA g.ca (AA g.ci i).To)
def UC(t:eb)(g:d3)(ea ec:Fp):Bool:=!(ea.any fun i=>(AA t.ca (AA g.ca i)).tc)&&!(ec.any fun i=>!Jf t g i)
variable{t:eb}{g:d3}
theorem vf(hf:Ai t)(o:CQ g)(q:CP t g=true){ea ec:Fp}(u:∀x∈ea,0<=x/\x<g.ca.length)(he:∀x∈ec,0<=x/\x<g.ci.length):HP t g ea ec=some (UC t g ea ec):=by
 have h:=Hc o q;unfold HP UC;rw[Tp (p:=fun i=>(AA t.ca (AA g.ca i)).tc) (fun x f=>by
  have d:=u x f;have j:=h.1 _ (AF d.1 d.2);unfold Lr;rw[AC d.1 d.2,bs,AC j.1 j.2];rfl),bs,Tp (p:=fun i=>!Jf t g i) (fun x f=>by
  have d:=he x f;have j:=o.fit _ (AF d.1 d.2);unfold G5;rw[AC d.1 d.2,bs,AC (by omega) (by omega),bs,AC (by omega) (by omega),bs,iM hf];rfl)]
 grind
theorem vl(hf:Ai t)(q:CQ g)(u:CP t g=true){ea ec:Fp}(w:∀x∈ea,0<=x/\x<g.ca.length)(he:∀x∈ec,0<=x/\x<g.ci.length):LD t g ea ec=some (UC t g ea ec):=by
 have j:=Hc q u;unfold LD UC;rw[H0,H0,BW (fun i=>(AA t.ca (AA g.ca (AA ea i))).tc) false]
 .rw[BW (fun i=>!Jf t g (AA ec i)) false]
  .cases mt (fun i=>(AA t.ca (AA g.ca (AA ea i))).tc) 0 ea.length
   .cases mt (fun i=>!Jf t g (AA ec i)) 0 ec.length<;>rfl
   .rfl
  .intro i f h _;have d:=he _ (AF f h);have o:=q.fit _ (AF d.1 d.2);rw[AC f h,bs,AC d.1 d.2,bs,AC (by omega) (by omega),bs,AC (by omega) (by omega),bs,Ww hf,bs,JA];rfl
 .intro i f h _;have d:=w _ (AF f h);have o:=j.1 _ (AF d.1 d.2);rw[AC f h,bs,AC d.1 d.2,bs,AC o.1 o.2,bs,JA]
end Go.Sf.Sc
namespace Go.Sf.Sc
open Go Go.Sf
structure OR(p:d7):Prop where
 ea:p.d3.ca.length<=45
 ec:p.d3.ci.length<=90
 slots:p.ed.length<=15
 tests:p.mh.length<=15
structure dm(m:d4):Prop where
 ea:m.ca.length<=140
 ec:m.ci.length<=140
inductive Db:d5->Prop where
 |mk (c:d5) (hq:OR c.d7) (hm:dm c.Map) (hk:∀k∈c.fu,Db k):Db c
variable{c:d5}
theorem Db.q(h:Db c):OR c.d7:=by cases h;assumption
theorem Db.m(h:Db c):dm c.Map:=by cases h;assumption
theorem Db.k(h:Db c):∀k∈c.fu,Db k:=by cases h;assumption
theorem D7{c k:d5}(h:k∈c.fu):SizeOf.sizeOf k<SizeOf.sizeOf c:=by
 have:=List.sizeOf_lt_of_mem h;cases c
 grind
theorem DO(c:d5):0<SizeOf.sizeOf c:=by
 cases c
 grind
def P4(c:d5):Bool:=decide (c.Map.ca.length=0/\c.Map.ci.length=0/\c.d7.d3.ca.length=0/\c.d7.d3.ci.length=0/\c.d7.ed.length=0/\c.d7.mh.length=0/\c.d7.fd=0)
theorem rg(hf:Db c):Eb c=some (P4 c):=by
 have d:=hf.q;have f:=hf.m;have:=d.ea;have:=d.ec;have:=d.slots;have:=d.tests;have:=f.ea;have:=f.ec;unfold Eb P4;rw[AV (n:=(c.Map.ca.length:Int)+c.Map.ci.length) (by omega) (by omega),AV (n:=(c.Map.ca.length:Int)+c.Map.ci.length+c.d7.d3.ca.length) (by omega) (by omega),
  AV (n:=(c.Map.ca.length:Int)+c.Map.ci.length+c.d7.d3.ca.length+c.d7.d3.ci.length) (by omega) (by omega),
  AV (n:=(c.Map.ca.length:Int)+c.Map.ci.length+c.d7.d3.ca.length+c.d7.d3.ci.length+c.d7.ed.length) (by omega) (by omega),
  AV (n:=(c.Map.ca.length:Int)+c.Map.ci.length+c.d7.d3.ca.length+c.d7.d3.ci.length+c.d7.ed.length+c.d7.mh.length) (by omega) (by omega)]
 congr 1
 grind
theorem lq(hf:Db c):HM c=some (P4 c):=by
 have d:=hf.q;have f:=hf.m;have:=d.ea;have:=d.ec;have:=d.slots;have:=d.tests;have:=f.ea;have:=f.ec;unfold HM P4;rw[AV (n:=(c.Map.ca.length:Int)+c.Map.ci.length) (by omega) (by omega),AV (n:=(c.Map.ca.length:Int)+c.Map.ci.length+c.d7.d3.ca.length) (by omega) (by omega),
  AV (n:=(c.Map.ca.length:Int)+c.Map.ci.length+c.d7.d3.ca.length+c.d7.d3.ci.length) (by omega) (by omega),
  AV (n:=(c.d7.ed.length:Int)+c.d7.mh.length) (by omega) (by omega)]
 congr 1
 grind
def SW(c:d5):Bool:=
 if c.ll=1 then decide (c.fu.length=0)&&P4 c else if c.ll=2 then decide (c.fu.length=1)&&P4 c else
 if c.ll=3\/c.ll=4 then decide (1<=c.fu.length)&&P4 c else if c.ll=5 then decide (c.fu.length=1)else false
def SB:Nat->d5->Bool
 |0,_=>false|n+1,c=>SW c&&c.fu.all (SB n)
theorem r9:∀(N:Nat)(c:d5),SizeOf.sizeOf c<=N->Db c->∀n,2*N<=n->BJ n c=some (SB N c)
 |0,c,h,_,_,_=>by have:=DO c;omega|N+1,c,h,hf,n,B=>by
  obtain ⟨n,rfl⟩:∃m,n=m+2:=⟨n-2,by omega⟩;rw[BJ,SB,rg hf];have f:Bq c.fu (BV (n+1))=some (!c.fu.all (SB N)):=by
   rw [Zg (p:=fun k=>!SB N k) (fun k f=>by
    have:=D7 f;rw[BV,r9 N k (by omega) (hf.k k f) n (by omega)];rfl),List.all_eq_not_any_not,Bool.not_not]
  rw [f];unfold SW;simp only[bs,yf];generalize P4 c=b;generalize c.fu.all (SB N)=w;have y:decide ((c.fu.length:Int)=0)=decide (c.fu.length=0):=by rw[decide_eq_decide];omega
  have z:decide ((c.fu.length:Int)=1)=decide (c.fu.length=1):=by rw[decide_eq_decide];omega
  have A:decide (1<=(c.fu.length:Int))=decide (1<=c.fu.length):=by rw[decide_eq_decide];omega
  simp only[show((c.fu.length:Int)=0)↔c.fu.length=0 by omega,show((c.fu.length:Int)=1)↔c.fu.length=1 by omega,show(1<=(c.fu.length:Int))↔1<=c.fu.length by omega];by_cases j:c.ll=1
  .rw[ae j,ae j];by_cases d:c.fu.length=0<;>cases b<;>cases w<;>simp[d]
  .rw[az j,az j];by_cases o:c.ll=2
   .rw[ae o,ae o];by_cases d:c.fu.length=1<;>cases b<;>cases w<;>simp[d]
   .rw[az o,az o];by_cases u:c.ll=3
    .simp[u,true_or];by_cases d:1<=c.fu.length<;>cases b<;>cases w<;>simp[d]
    .by_cases x:c.ll=4
     .simp[x,or_true,show¬(4:Int)=3 by decide];by_cases d:1<=c.fu.length<;>cases b<;>cases w<;>simp[d]
     .simp only[u,x,if_false,or_false];by_cases q:c.ll=5
      .rw[ae q,ae q];by_cases d:c.fu.length=1<;>cases w<;>simp[d]
      .rw[az q,az q];cases w<;>rfl
theorem sM(hf:Db c):MO c=some (SW c):=by
 unfold MO SW;rw[lq hf];simp[yf];generalize P4 c=b;simp[show((c.fu.length:Int)=0)↔c.fu.length=0 by omega,show((c.fu.length:Int)=1)↔c.fu.length=1 by omega,show(0<(c.fu.length:Int))↔1<=c.fu.length by omega]
 grind
theorem qj{α:Type}[Inhabited α]{l:List α}{p:α->Bool}:l.all p=!mt (fun i=>!p (AA l i)) 0 l.length:=by
 rw [List.all_eq_not_any_not,H0]
theorem nY:∀(N:Nat)(c:d5),SizeOf.sizeOf c<=N->Db c->∀n,N<=n->ED n c=some (SB N c)
 |0,c,h,_,_,_=>by have:=DO c;omega|N+1,c,h,hf,n,o=>by
  obtain ⟨n,rfl⟩:∃m,n=m+1:=⟨n-1,by omega⟩;rw[ED,SB,sM hf,bs,qj,BW (fun i=>!SB N (AA c.fu i)) false]
  .cases SW c
   .rfl
   .cases mt (fun i=>!SB N (AA c.fu i)) 0 c.fu.length<;>rfl
  .intro i d f _;have j:=AF (l:=c.fu) d f;have:=D7 j;rw[AC d f,bs,nY N _ (by omega) (hf.k _ j) n (by omega),bs,JA]
noncomputable def dg(c:d5):Bool:=SB (SizeOf.sizeOf c) c
theorem vg(hf:Db c):Gi c=some (dg c):=Dy (2*SizeOf.sizeOf c) fun n d=>r9 _ c (b6 _) hf n d
theorem vq(hf:Db c):Of c=some (dg c):=Dy (SizeOf.sizeOf c) fun n d=>nY _ c (b6 _) hf n d
def Ni:Nat->d5->Int×Int
 |0,_=>(0,0)|n+1,c=>
  let s:=c.fu.foldl (fun s k=>(AG (s.1+(Ni n k).1),max s.2 (Ni n k).2)) ((1,0):Int×Int)
  (s.1,if c.ll=5 then AG (s.2+1)else s.2)
theorem YT{α σ:Type}[Inhabited α]{l:List α}{g:σ->α->σ}{s:σ}{f:Int->σ->Option σ}(h:∀(i:Int)s,0<=i->i<l.length->f i s=some (g s (AA l i))):nd f 0 l.length s=some (l.foldl g s):=by
 rw [BY (fun i=>(l.take i.toNat).foldl g s) (by omega) (by simp)]
 .rw[Int.toNat_natCast,List.take_length]
 grind [Bh]
theorem iS:∀(N:Nat)(c:d5),SizeOf.sizeOf c<=N->∀n,N<=n->CC n c=some (Ni N c)
 |0,c,h,_,_=>by have:=DO c;omega|N+1,c,h,n,j=>by
  obtain ⟨n,rfl⟩:∃m,n=m+1:=⟨n-1,by omega⟩;rw[CC,Ni,YT (g:=fun s k=>(AG (s.1+(Ni N k).1),max s.2 (Ni N k).2))]
  .grind
  .intro i s d f;have:=D7 (AF (l:=c.fu) d f);rw[AC d f,bs,iS N _ (by omega) n (by omega)];rfl
theorem iy:∀(N:Nat)(c:d5),SizeOf.sizeOf c<=N->∀n,N<=n->Eg n c=some (Ni N c)
 |0,c,h,_,_=>by have:=DO c;omega|N+1,c,h,n,j=>by
  obtain ⟨n,rfl⟩:∃m,n=m+1:=⟨n-1,by omega⟩;rw[Eg,Ni,YT (g:=fun s k=>(AG (s.1+(Ni N k).1),max s.2 (Ni N k).2))]
  .grind
  .intro i s d f;have:=D7 (AF (l:=c.fu) d f);rw[AC d f,bs,iy N _ (by omega) n (by omega)];rfl
noncomputable def Uq(c:d5):Int×Int:=Ni (SizeOf.sizeOf c) c
noncomputable def LK(c:d5):Int:=if dg c=false then 1 else if 12<(Uq c).1\/3<(Uq c).2 then 3 else 0
theorem o5(hf:Db c):E2 c=some (LK c):=by
 unfold E2 LK;rw[vg hf,bs,show Is c=some (Uq c)from Dy (SizeOf.sizeOf c) fun n d=>iS _ c (b6 _) n d,bs]
 grind
theorem pR(hf:Db c):MM c=some (LK c):=by
 unfold MM LK;rw[vq hf,bs,show Pr c=some (Uq c)from Dy (SizeOf.sizeOf c) fun n d=>iy _ c (b6 _) n d,bs]
 grind
theorem WT(g:d3):Bm g≠9:=by grind[Bm]
variable{t:eb}{p:d7}
theorem Ve(d:(As t).2=0)(h:EK t p=0\/EK t p=9):0<=p.fd/\p.fd<=12:=by grind[WT,EK]
def RS(t:eb)(q:d7)(v:Int):Int:=if EK t q≠9 then EK t q else if mt (fun i=>!Gl q i) v q.fd=true then 9 else 0
variable{P:Prop}
theorem wd{α:Type}[Decidable P]{v:α}{X:Option α}{Y:α}(h:P->X=some Y):(if(!decide P)=true then some v else X)=some (if¬P then v else Y):=by grind
theorem ve(hf:Ai t)(f:(As t).2=0){q:d7}{v:Int}(u:0<=v)(h:v<=q.fd):D4 t q v=some (RS t q v):=by
 unfold D4 RS;rw[Wp hf,bs];refine wd fun d=>?_;have hv:=Ve f (.inr d);rw[NM (c:=fun i=>(if(!Gl q i)=true then some ()else none).map fun _=>.inr 9) (a:=v) (b:=q.fd) h]
 .rw[QJ,M8];cases mt (fun i=>!Gl q i) v q.fd<;>rfl
 .intro i w o _;rw[ae (by simpa using o),show(fun j=>Hg j i)=(fun y=>some (decide (y.jj.Var=i)))from rfl,cU,bs,show(q.ed.any fun y=>decide (y.jj.Var=i))=Gl q i from rfl,d,AV (by omega) (by omega)];cases Gl q i<;>rfl
 .rw[az (by simp)]
theorem pO(p:d7)(v:Int):N4 p v=some (Gl p v):=nc p v
theorem vk(hf:Ai t)(q:d7)(v:Int):MN t v q=some (if q.fd<v then 20 else RS t q v):=by
 unfold MN RS;refine GK (by simp) fun _=>?_;rw[ZM hf,bs];refine wd fun d=>?_;rw[d,BW (fun i=>!Gl q i) 9]
 .cases mt (fun i=>!Gl q i) v q.fd<;>rfl
 .intro i f h _;rw[pO,bs,JA]
def Hj:Nat->eb->d7->d5->Int
 |0,_,_,_=>0|N+1,t,p,c=>
  if c.ll=5 then
   if c.d7.fd<p.fd then 20 else if RS t c.d7 p.fd≠0 then RS t c.d7 p.fd else
   if HH p.d3 c.d7.d3 c.Map≠0 then HH p.d3 c.d7.d3 c.Map else if HF c.Map=false then 1 else
   (fst (fun i=>nz (Hj N t c.d7 (AA c.fu i))) 0 c.fu.length).getD 0
  else (fst (fun i=>nz (Hj N t p (AA c.fu i))) 0 c.fu.length).getD 0
theorem iV(hf:Ai t)(o:(As t).2=0):∀(N:Nat)(c:d5)(p:d7),0<=p.fd->SizeOf.sizeOf c<=N->∀n,N<=n->Bz n t p c=some (Hj N t p c)
 |0,c,p,_,h,_,_=>by have:=DO c;omega|N+1,c,p,C,h,n,D=>by
  obtain ⟨n,rfl⟩:∃m,n=m+1:=⟨n-1,by omega⟩;rw[Bz,Hj];have j:∀q:d7,0<=q.fd->(ek (kg (ρ:=Int) (fun(y:Int)(_:Unit)=>
    (idx c.fu y).bind fun f=>
    (Bz n t q f).bind fun d=>
    if (!decide (d=0))=true then
    some (.ret d)
    else
    some (.next ())) 0 (c.fu.length:Int) ()) (fun _=>
    some 0) (fun z=>some z))=some ((fst (fun i=>nz (Hj N t q (AA c.fu i))) 0 c.fu.length).getD 0):=by
   intro q B;rw[BF (fun i=>nz (Hj N t q (AA c.fu i))),CG];intro i u w _;have:=D7 (AF (l:=c.fu) u w);rw[AC u w,bs,iV hf o N _ q B (by omega) n (by omega),bs,L9]
  by_cases x:c.ll=5
  .rw[ae (by simpa using x),ae x];refine GK (by simp) fun hv=>?_;rw[ve hf o C (by omega),bs];refine DM fun hi=>?_;rw[ZD,bs];refine DM fun A=>?_;rw[nV A,bs]
   grind
  grind
theorem jA(hf:Ai t):∀(N:Nat)(c:d5)(p:d7),SizeOf.sizeOf c<=N->∀n,N<=n->Et n t p c=some (Hj N t p c)
 |0,c,p,h,_,_=>by have:=DO c;omega|N+1,c,p,h,n,A=>by
  obtain ⟨n,rfl⟩:∃m,n=m+1:=⟨n-1,by omega⟩;rw[Et,Hj];have d:∀q:d7,(ek (kg (ρ:=Int) (fun(x:Int)(_:Unit)=>
    (idx c.fu x).bind fun o=>
    (Et n t q o).bind fun f=>
    if (!decide (f=0))=true then
    some (.ret f)
    else
    some (.next ())) 0 (c.fu.length:Int) ()) (fun _=>
    some 0) (fun y=>some y))=some ((fst (fun i=>nz (Hj N t q (AA c.fu i))) 0 c.fu.length).getD 0):=by
   intro q;rw[BF (fun i=>nz (Hj N t q (AA c.fu i))),CG];intro i u w _;have:=D7 (AF (l:=c.fu) u w);rw[AC u w,bs,jA hf N _ q (by omega) n (by omega),bs,L9]
  by_cases j:c.ll=5
  .rw[ae (by simpa using j),ae j,vk hf,bs];by_cases hv:c.d7.fd<p.fd
   .simp[hv]
   .simp only[az hv];refine DM fun hi=>?_;rw[ZL,bs];refine DM fun z=>?_;rw[vj z,bs];exact WE fun _=>d _
  .rw[az (by simpa using j),az j];exact d p
noncomputable def H8(t:eb)(p:d7)(c:d5):Int:=if EK t p≠0 then EK t p else if LK c≠0 then LK c else Hj (SizeOf.sizeOf c) t p c
theorem iO(hf:Ai t)(d:(As t).2=0)(p:d7)(f:Db c):DA t p c=some (H8 t p c):=by
 unfold DA H8;rw[Wp hf,bs];refine DM fun h=>?_;rw[o5 f,bs,Option.bind_fun_some];exact DM fun _=>Dy (SizeOf.sizeOf c) fun n j=>iV hf d _ c p (Ve d (.inl h)).1 (b6 _) n j
theorem ip(hf:Ai t)(p:d7)(d:Db c):KM t p c=some (H8 t p c):=by
 unfold KM H8;rw[ZM hf,bs];refine DM fun h=>?_;rw[pR d,bs,Option.bind_fun_some];exact DM fun _=>Dy (SizeOf.sizeOf c) fun n f=>jA hf _ c p (b6 _) n f
end Go.Sf.Sc
namespace Go.Sf.Sc
open Go Go.Sf
structure Ph(r:f0):Prop where
 name:(r.mr.size:Int)<=60
 left:OR r.j4
 right:OR r.fl
 fm:RL r.qo
 into:dm r.o4
 cond:Db r.d5
noncomputable def DZ(t:eb)(r:f0):Int:=
 if (As t).2≠0 then(As t).2 else if DY r.mr=false then 2 else if EK t r.j4≠0 then EK t r.j4 else
 if IM t r≠0 then IM t r else if Ox r≠0 then Ox r else if UC t r.fl.d3 (IY r) (OW r)=false then 13 else H8 t r.j4 r.d5
variable{t:eb}{r:f0}
theorem Vk(h:IM t r=0):CQ r.fl.d3/\CP t r.fl.d3=true:=by grind[IM,Cr]
theorem iX(hf:Ai t)(d:Ph r):IN t r=some (DZ t r):=by
 have q:=d.name;unfold IN DZ;rw[Oc hf,bs];refine DM fun j=>?_;rw[Qf (by omega),bs];refine WE fun _=>?_;rw[Wp hf,bs];refine DM fun _=>?_;rw[o0 hf,bs];refine DM fun f=>?_;have ho:=Vk f;rw[rq d.fm,bs];refine DM fun o=>?_;rw[iP ho.1,bs];dsimp only;rw[vf (ea:=IY r) (ec:=OW r) hf ho.1 ho.2 (fun x h=>Gx h) (fun x h=>Gx h),bs];refine WE fun _=>?_;rw[iO hf j _ d.cond,bs]
theorem av(hf:Ai t)(d:Ph r):KN t r=some (DZ t r):=by
 have u:=d.name;unfold KN DZ;rw[QN hf,bs];refine DM fun q=>?_;rw[Qg (by omega),bs];refine WE fun _=>?_;rw[ZM hf,bs];refine DM fun _=>?_;rw[pP hf,bs];refine DM fun f=>?_;have ho:=Vk f;rw[sT d.fm,bs,ZK,bs];simp only[ZK,bs];have e:(if(!I6 r.o4.ca)=true then some true else some (!I6 r.o4.ci))=some (!HF r.o4):=by
  grind [HF,I6]
 rw [e,bs];have o:Ox r=if U1 r≠0 then U1 r else if HF r.o4=false then 11 else 0:=by
  grind [Ox,U1,Dg]
 rw [o];by_cases j:U1 r=0
 .simp only[j,ne_eq,not_true_eq_false,if_false,decide_true,Bool.not_true,Bool.false_eq_true];cases hi:HF r.o4
  .simp
  .simp only[Bool.not_true,Bool.false_eq_true,if_false,not_true_eq_false,Bool.true_eq_false];rw[iq ho.1,bs];dsimp only;rw[vl (ea:=IY r) (ec:=OW r) hf ho.1 ho.2 (fun x h=>Gx h) (fun x h=>Gx h),bs];refine WE fun _=>?_;rw[ip hf _ d.cond,bs]
 .simp[j]
def zw(t:eb)(l:Fp):Bool:=!(l.any fun k=>t.ca.any fun n=>decide (n.x5=k))
structure gI(t:eb)(r:f0):Prop where
 left:CQ r.j4.d3
 ltyped:CP t r.j4.d3=true
 right:CQ r.fl.d3
 Aar:CP t r.fl.d3=true
 rtests:r.fl.mh.length=0
 part:PI r.j4.d3 r.qo
 mor:SE (Cg r.j4.d3 r.qo) r.fl.d3 r.o4
 inj:r.o4.ca.Nodup/\r.o4.ci.Nodup
variable{p:d7}
theorem aZ(h:EK t p=0):CQ p.d3/\CP t p.d3=true:=by grind[EK,Cr]
theorem dQ(h:DZ t r=0):(As t).2=0/\gI t r:=by
 unfold DZ at h;split at h
 .omega
 split at h
 .cases h
 split at h
 .omega
 split at h
 .omega
 split at h
 .omega
 rename_i o q u w x;have d:=aZ (t:=t) (p:=r.j4) (by omega);have f:=Vk (t:=t) (r:=r) (by omega);have j:=oW (r:=r) (by omega);have hi:I6 r.o4.ca=true/\I6 r.o4.ci=true:=by
  grind [HF]
 refine ⟨by omega,d.1,d.2,f.1,f.2,?_,?_,Ur j.2.1,Jd.1 hi.1,Jd.1 hi.2⟩
 .grind[IM]
 grind [Dg,Ws]
variable{l:Fp}
theorem cP{n:Nat}(h:∀x∈l,0<=x/\x<n)(f:l.Pairwise (·<·)):l.length<=n:=by
 have key:∀i:Int,0<=i->i<l.length->i<=AA l i:=by
  intro i d j;obtain⟨k,rfl⟩:=Int.eq_ofNat_of_zero_le d;clear d
  induction k with
  |zero=>exact(h _ (AF (by omega) (by omega))).1|succ k o=>
   grind [Gq]
 by_cases d:l.length=0
 .omega
 .have a:=key ((l.length:Int)-1) (by omega) (by omega)
  grind [AF]
end Go.Sf.Sc
namespace Go.Sf
variable{a b:Int}
theorem U5{ρ:Type}{f:Int->Option (Bf Int ρ)}(p:Int->Bool)(v:ρ)(d:a<=b)(h:∀i,a<=i->i<b->f i=some (if p i=true then .ret v else .next (i+1)))(j:f b=some (.brk b)):Ca f a=some (if mt p a b=true then .inr v else .inl b):=by
 rw [NM (c:=fun i=>(if p i=true then some ()else none).map fun _=>.inr v) d]
 .grind[QJ,M8,mt]
 .intro i o q _;rw[h i o q];cases p i<;>rfl
 .exact j
theorem NB{α:Type}{e:α->TV}{n:Nat}{l:List α}(h:TV.Sm (.list n (l.map e))):(l.length:Int)<=140737488351232/\∀x∈l,(e x).Sm:=by
 simp [TV.Sm]at h;refine⟨by have:=h.1;unfold reachBytes at this;omega,fun x d=>KW.1 h.2 _ (List.mem_map.2 ⟨x,d,rfl⟩)⟩
end Go.Sf
namespace Go.Sf.Sc
open Go Go.Sf
def Ze(a:kq):Bool:=(decide (40<(a.mr.size:Int))||decide (25<(a.r0.length:Int)))||mt (fun i=>decide (40<((AA a.r0 i).size:Int))) 0 a.r0.length
theorem kI{a:kq}(h:Ze a=false):SD a:=by
 unfold Ze at h;simp[decide_eq_false_iff_not,Bt]at h;refine⟨by omega,by omega,fun x d=>?_⟩
 grind [BR]
variable{t:eb}
theorem Tz(T:(AJ t).Sm):∃b,K7 t=some b/\(b=true->Ai t):=by
 have K:TV.zy [_,_]:=T;obtain⟨w,N⟩:=NB (e:=Gn) K.1;unfold K7;by_cases hl:20<t.ca.length\/30<t.ci.length
 .rw[ae (by simp;omega)]
  grind
 rw [az (by simp;omega)];rcases SR (f:=(fun(A:Int)(Q:Int)=>
 (idx t.ca A).bind fun y=>
 (if(decide (30<(AG (Q+(y.pr.length:Int)))))=true then some true else((idx t.ca A).bind fun E=>
 some (decide (40<(E.mr.size:Int))))).bind fun F=>
 if F=true then
 some (Bf.ret false)
 else
 ek (Ca (ρ:=Bool) (fun(s2:Int)=>
 (idx t.ca A).bind fun G=>
 if (decide (s2<(G.pr.length:Int)))=true then
 (idx t.ca A).bind fun H=>
 (idx H.pr s2).bind fun q=>
 if ((decide (40<(q.mr.size:Int)))||(decide (25<(q.r0.length:Int))))=true then
 some (.ret false)
 else
 ek (Ca (ρ:=Bool) (fun(x:Int)=>
 if (decide (x<(q.r0.length:Int)))=true then
 (idx q.r0 x).bind fun I=>
 if (decide (40<(I.size:Int)))=true then
 some (.ret false)
 else
 some (.next (AG (x+1)))
 else
 some (.brk x)) 0) (fun x=>
 some (.next (AG (s2+1)))) (fun U=>some (.ret U))
 else
 some (.brk s2)) 0) (fun s2=>
 some (.next (AG (Q+(y.pr.length:Int))))) (fun V=>some (.ret V))))
  (fun i s=>0<=s/\s<=30/\∀j,0<=j->j<i->((AA t.ca j).mr.size:Int)<=40/\(AA t.ca j).pr.length<=30/\∀a∈(AA t.ca j).pr,SD a) (fun _=>False) (fun r=>r=false) (a:=0) (b:=t.ca.length) (s:=0) (by omega) ⟨by omega,by omega,fun j z d=>by omega⟩ (fun i s B C W=>by
   have Z:=N _ (AF (l:=t.ca) B C);have L:TV.zy [_,_,_,_]:=Z;obtain⟨ha,O⟩:=NB (e:=IA) L.2.2.2.1;obtain⟨hI1,hI2,hI3⟩:=W;have hw:AG (s+(AA t.ca i).pr.length)=s+(AA t.ca i).pr.length:=AV (by omega) (by omega);simp only[AC B C,bs,hw,UK];by_cases hc:30<s+(AA t.ca i).pr.length\/40<((AA t.ca i).mr.size:Int)
   .grind
   rw [az (by simpa using hc)];rw[U5 (fun j=>Ze (AA (AA t.ca i).pr j)) false (b:=(AA t.ca i).pr.length) (by omega)]
   .cases S:mt (fun j=>Ze (AA (AA t.ca i).pr j)) 0 (AA t.ca i).pr.length
    .refine .inl ⟨_,rfl,by omega,by omega,fun j J D=>?_⟩
     grind [BR,kI,Bt]
    .exact .inr (.inr ⟨_,rfl,rfl⟩)
   .intro j J D;rw[ae (by simpa using D),AC J D,bs];have hy:=O _ (AF (l:=(AA t.ca i).pr) J D);have M:TV.zy [_,_,_,_]:=hy;obtain⟨hm,_⟩:=NB (e:=eS) M.2.2.2.1;unfold Ze;cases z:(decide (40<((AA (AA t.ca i).pr j).mr.size:Int))||decide (25<((AA (AA t.ca i).pr j).r0.length:Int)))
    .rw[az (by decide),U5 (fun k=>decide (40<((AA (AA (AA t.ca i).pr j).r0 k).size:Int))) false (b:=(AA (AA t.ca i).pr j).r0.length) (by omega)]
     .cases mt (fun k=>decide (40<((AA (AA (AA t.ca i).pr j).r0 k).size:Int))) 0 (AA (AA t.ca i).pr j).r0.length
      .rw[Bool.or_false,AV (show -9223372036854775808<=j+1 by omega) (by omega)];rfl
      .rfl
     .intro k u o;rw[ae (by simpa using o),AC u o,bs,AV (show -9223372036854775808<=k+1 by omega) (by omega),JA]
     .rw[az (by simp)]
    .rfl
   .rw[az (by simp)])with⟨s',z,d⟩|⟨r,z,d⟩
 .rw[z];rcases d with d|d
  .rw[Ba,BW (fun i=>decide (40<((AA t.ci i).mr.size:Int))) false]
   .cases S:mt (fun i=>decide (40<((AA t.ci i).mr.size:Int))) 0 t.ci.length
    .refine⟨true,rfl,fun _=>⟨by omega,by omega,fun n w=>?_,fun n w=>?_,fun n w=>?_,fun e he=>?_⟩⟩
     .obtain⟨k,u,o,rfl⟩:=BR w;exact(d.2.2 k u o).1
     .obtain⟨k,u,o,rfl⟩:=BR w;exact(d.2.2 k u o).2.1
     .obtain⟨k,u,o,rfl⟩:=BR w;exact(d.2.2 k u o).2.2
     .obtain⟨k,u,o,rfl⟩:=BR he;have:=Bt.1 S k u o;simpa using this
    .exact⟨false,rfl,fun h=>by cases h⟩
   .intro i B C _;rw[AC B C,bs,JA]
  .exact d.elim
 .rw[z];subst d;exact⟨false,rfl,fun h=>by cases h⟩
theorem Rp(p:d7):∃b,JT p=some b/\(b=true->OR p):=by
 refine ⟨_,rfl,fun h=>?_⟩;simp[yf]at h;exact⟨by omega,by omega,by omega,by omega⟩
variable{a b:Int}
theorem ce(h:0<=a)(d:a<=140737488351232)(j:0<=b)(f:b<=140737488351232):AG (a+b)=a+b:=AV (by omega) (by omega)
variable{m:d4}
theorem XU(f:(Aq m).Sm):∃b,PZ m 140=some b/\(b=true->dm m):=by
 have d:TV.zy [_,_]:=f;have j:=(NB (e:=eI) d.1).1;have o:=(NB (e:=eI) d.2.1).1;refine⟨_,rfl,fun h=>?_⟩;rw[ce (by omega) j (by omega) o]at h;simp[yf]at h;exact⟨by omega,by omega⟩
theorem kO{m:BN}(f:(Hh m).Sm):∃b,RB m 140=some b/\(b=true->RL m):=by
 have d:TV.zy [_,_]:=f;have j:=(NB (e:=eI) d.1).1;have o:=(NB (e:=eI) d.2.1).1;refine⟨_,rfl,fun h=>?_⟩;rw[ce (by omega) j (by omega) o]at h;simp[yf]at h;exact⟨by omega,by omega⟩
variable{c:d5}
theorem cX(h:(AI c).Sm):(Aq c.Map).Sm/\(c.fu.length:Int)<=140737488351232/\∀k∈c.fu,(AI k).Sm:=by
 have f:TV.zy [_,_,_,_,_,_,_,_,_]:=h;obtain⟨_,d,j,o,_⟩:=f;rw[Qw]at d;obtain⟨q,u⟩:=NB d;exact⟨⟨j,o,trivial⟩,q,u⟩
theorem Zu:∀(N:Nat)(c:d5),SizeOf.sizeOf c<=N->(AI c).Sm->∀sx:Int,0<=sx->sx<=1000->∃r,(∀n,N<=n->Cc n c sx=some r)/\-1<=r/\r<=sx-1/\(0<=r->Db c)
 |0,c,h,_,_,_,_=>by have:=DO c;omega|N+1,c,h,hs,sx,m0,m1=>by
  obtain ⟨L,M,B⟩:=cX hs;obtain⟨O,E,Q⟩:=Rp c.d7;obtain⟨S,H,T⟩:=XU L;have step:∀n,N+1<=n->∃m,n=m+1/\N<=m:=fun n d=>⟨n-1,by omega,by omega⟩;cases O
  .refine⟨-1,fun n d=>?_,by omega,by omega,fun h=>by omega⟩;obtain⟨n,rfl,_⟩:=step n d;rw[Cc,E];rfl
  cases S
  .refine⟨-1,fun n d=>?_,by omega,by omega,fun h=>by omega⟩;obtain⟨n,rfl,_⟩:=step n d;rw[Cc,E,bs,H];rfl
  have loop:∀(m:Nat)(k left:Int),0<=k->k+m=c.fu.length->-1<=left->left<=1000->∃f u,(∀n,N<=n->L3 (ρ:=Int) (fun(q:Int×Int)=>
    if ((decide (q.2<(c.fu.length:Int)))&&(decide (0<=q.1)))=true then
    (idx c.fu q.2).bind fun x=>
    (Cc n x q.1).bind fun y=>
    some (.next (y,AG (q.2+1)))
    else
    some (.brk (q.1,q.2))) (left,k) (.inl (f,u)))/\-1<=f/\f<=left/\(0<=f->∀j,k<=j->j<c.fu.length->Db (AA c.fu j)):=by
   intro m
   induction m with
   |zero=>
    intro k left C I D l1;refine⟨left,k,fun n d=>.brk ?_,D,by omega,fun _ j z w=>by omega⟩;rw[az (by simp;omega)]
   |succ m Z=>
    intro k left C I D l1;by_cases J:0<=left
    .have o:=AF (l:=c.fu) C (by omega);have:=D7 o;obtain⟨r,U,V,r3,W⟩:=Zu N _ (by omega) (B _ o) left J l1;obtain⟨f,u,a1,a2,a3,F⟩:=Z (k+1) r (by omega) (by omega) V (by omega);refine⟨f,u,fun n d=>.next (s':=(r,k+1)) ?_ (a1 n d),a2,by omega,fun A j z w=>?_⟩
     .rw[ae (by simp;omega),AC C (by omega),bs,U n d,bs,AV (by omega) (by omega)]
     .by_cases K:j=k
      .subst K;exact W (by omega)
      .exact F A j (by omega) w
    .refine⟨left,k,fun n d=>.brk ?_,D,by omega,fun h=>by omega⟩;rw[az (by simp;omega)]
  obtain ⟨f,u,a1,a2,a3,F⟩:=loop c.fu.length 0 (sx-1) (by omega) (by omega) (by omega) (by omega);refine⟨f,fun n d=>?_,a2,a3,fun A=>.mk c (Q rfl) (T rfl) (fun k B=>?_)⟩
  .obtain⟨n,rfl,G⟩:=step n d;rw[Cc,E,bs,H];simp only[bs,Bool.not_true,Bool.false_eq_true,if_false];rw[AV (n:=sx-1) (by omega) (by omega),(a1 n G).eq,Ba]
  .obtain⟨j,z,w,rfl⟩:=BR B;exact F A j z w
theorem kN(d:(AI c).Sm):∃b,JU c=some b/\(b=true->Db c):=by
 obtain ⟨r,f,_,_,j⟩:=Zu (SizeOf.sizeOf c) c (b6 _) d 40 (by omega) (by omega);have e:QB c 40=some r:=Dy (SizeOf.sizeOf c) f;unfold JU;rw[e];exact⟨_,rfl,fun h=>j (by simpa using h)⟩
theorem Ko{b:Bool}{o:K1}{c:Bool}(h:o=some c):(if b=true then o.bind fun x=>some x else some false)=some (b&&c):=by
 subst h;cases b<;>rfl
variable{r:f0}
theorem kP(d:(BX r).Sm):∃b,Pc r=some b/\(b=true->Ph r):=by
 have f:TV.zy [_,_,_,_,_,_,_,_,_,_,_,_,_,_,_,_,_,_,_,_,_,_,_,_,_]:=d;obtain⟨_,_,_,_,_,_,_,_,_,_,_,j,o,q,u,_,w,x,y,c4,c5,z,A,B,C,_⟩:=f;obtain⟨N,D,E⟩:=Rp r.j4;obtain⟨O,F,G⟩:=Rp r.fl;obtain⟨Q,H,I⟩:=kO (m:=r.qo) ⟨j,o,trivial⟩;obtain⟨S,J,K⟩:=XU (m:=r.o4) ⟨q,u,trivial⟩;obtain⟨T,L,M⟩:=kN (c:=r.d5) ⟨w,x,y,c4,c5,z,A,B,C,trivial⟩;unfold Pc;rw[Ko D,bs,Ko F,bs,Ko H,bs,Ko J,bs,Ko L,bs];refine⟨_,rfl,fun h=>?_⟩;simp[yf]at h;exact⟨h.1.1.1.1.1,E h.1.1.1.1.2,G h.1.1.1.2,I h.1.1.2,K h.1.2,M h.2⟩
end Go.Sf.Sc
