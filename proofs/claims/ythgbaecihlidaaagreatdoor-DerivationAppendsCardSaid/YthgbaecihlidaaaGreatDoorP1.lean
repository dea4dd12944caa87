/- Plain lemmas: what the functions of the program and of the reference compute. -/
import Derived.Test.YthgbaecihlidaaaGreatDoorSfRead
import Derived.Test.YthgbaecihlidaaaGreatDoorFns
import Derived.Test.YthgbaecihlidaaaGreatDoorSfPl
set_option linter.all false
set_option maxRecDepth 100000
namespace Go.Sf
theorem WK{ρ τ:Type}{d:Int->Option ρ}{g:ρ->τ}:∀(n:Nat)(a:Int),Ei (fun i=>(d i).map g) n a=(Ei d n a).map g
 |0,_=>rfl|n+1,a=>by
  rw [Ei,Ei];cases d a with
  |some r=>rfl|none=>exact WK n (a+1)
variable{a b:Int}
theorem S6{ρ τ:Type}{d:Int->Option ρ}{g:ρ->τ}:fst (fun i=>(d i).map g) a b=(fst d a b).map g:=WK _ _
theorem Ug{ρ:Type}{d:Int->Option ρ}{r:ρ}:∀{n:Nat}{a:Int},Ei d n a=some r->∃i,a<=i/\i<a+n/\d i=some r/\∀j,a<=j->j<i->d j=none
 |0,_,h=>by cases h
 |n+1,a,h=>by
  rw [Ei]at h;cases hd:d a with
  |some w=>
   grind
  |none=>
   rw [hd]at h;obtain⟨i,f,o,q,u⟩:=Ug h
   grind
theorem DT{ρ:Type}{d:Int->Option ρ}{r:ρ}(h:fst d a b=some r):∃i,a<=i/\i<b/\d i=some r/\∀j,a<=j->j<i->d j=none:=by
 obtain ⟨i,f,o,q,u⟩:=Ug h
 grind
def Kn(p:Int->Bool)(s:ByteArray):Int:=(fst (fun i=>if p (bt s i)then none else some i) 0 s.size).getD s.size
theorem Sl(p:Int->Bool)(s:ByteArray):0<=Kn p s/\Kn p s<=s.size/\(∀j,0<=j->j<Kn p s->p (bt s j)=true)/\(Kn p s<s.size->p (bt s (Kn p s))=false):=by
 unfold Kn;cases h:fst (fun i=>if p (bt s i)then none else some i) 0 s.size with
 |none=>
  rw [A5]at h
  grind
 |some r=>
  grind [DT,bt,Option.getD]
variable{s:ByteArray}
theorem Y1(h:s≠⟨#[]⟩):0<s.size:=by
 rcases Nat.eq_zero_or_pos s.size with f|f
 .exfalso;apply h;cases s with|mk d=>congr 1;exact Array.eq_empty_of_size_eq_zero f
 .exact f
end Go.Sf
namespace Go.Sf.Sc
open Go Go.Sf
def Fe(c:Int):Bool:=((decide (97<=c))&&(decide (c<=122)))||((decide (65<=c))&&(decide (c<=90)))
def Aap(c:Int):Bool:=(decide (48<=c))&&(decide (c<=57))
def Pg(c:Int):Bool:=Fe c||Aap c||decide (c=95)
theorem YX(c:Int):KJ c=some (Fe c):=rfl
theorem Vi(c:Int):JY c=some (Aap c):=rfl
theorem Yk(c:Int):J4 c=some (Fe c):=rfl
theorem aX(c:Int):Hx c=some (Aap c):=rfl
theorem pX(c:Int):Mn c=some (Pg c):=by
 unfold Mn Pg;rw[YX,bs,Vi]
 grind
variable{s:ByteArray}
theorem cM(d:(s.size:Int)<=4611686018427387904){ok:Int->K1}{p:Int->Bool}(h:∀c,ok c=some (p c)):Gl s ok=some (Kn p s):=by
 unfold Gl;rw[Lw (c:=fun i=>(if p (bt s i)then none else some i).map .inl) (a:=0) (b:=s.size) (by omega)]
 .rw[S6];unfold Kn;cases fst (fun i=>if p (bt s i)=true then none else some i) 0 s.size<;>rfl
 .grind[Oo,bt,EO,AV]
 .simp
def DY(s:ByteArray):Bool:=decide (0<s.size)&&Fe (bt s 0)&&decide (s.size<=20)&&decide (Kn Pg s=s.size)
theorem Vg(l:List ByteArray)(v:ByteArray):∃k,slices_Index_string l v=some k/\(0<=k↔v∈l):=by
 unfold slices_Index_string;rw[Bb (fun i=>if(v==AA l i)=true then some i else none)]
 .cases h:fst (fun i=>if(v==AA l i)=true then some i else none) 0 l.length with
  |none=>
   rw [A5]at h;refine⟨-1,rfl,by omega,fun o=>?_⟩
   grind [Bh]
  |some k=>
   obtain ⟨i,d,f,q,_⟩:=DT h;have j:(v==AA l i)=true/\i=k:=by
    grind
   obtain ⟨j,rfl⟩:=j;refine⟨i,rfl,fun _=>?_,fun _=>d⟩
   grind [AF]
 .intro i d f _;simp only[AC d f,bs];split<;>rfl
theorem OL(l:List ByteArray)(v:ByteArray):slices_Contains_string l v=some (l.contains v):=by
 unfold slices_Contains_string;obtain⟨k,d,f⟩:=Vg l v
 grind
theorem pU(z:0<s.size)(w:(s.size:Int)<=4611686018427387904):∃k n e,I3 s=some (k,n,e)/\(((decide (e=0))&&(decide (k=1)))&&(decide (n=(s.size:Int))))=DY s:=by
 have F:=Sl Pg s;unfold I3 DY;simp only[Oo (Int.le_refl 0) (show(0:Int)<s.size by omega),bs,YX,Vi,cM w pX,cM w Vi,z,decide_true,Bool.true_and];by_cases d:Fe (bt s 0)=true
 .rw[az d];by_cases f:20<Kn Pg s
  .refine⟨0,0,3,by simp[f],?_⟩;simp[d];intro E h;omega
  .refine⟨1,_,0,by rw[b6 (by simpa using f)],?_⟩;simp only[d,decide_true,Bool.true_and];rw[Bool.eq_iff_iff];simp only[zzX,tg];omega
 .rw[b6 d];have j:Fe (bt s 0)=false:=by simpa using d
  rw [j,Bool.false_and,Bool.false_and];by_cases hd:Aap (bt s 0)=true
  .rw[az hd];by_cases x:9<Kn Aap s
   .exact⟨0,0,3,by simp[x],by simp⟩
   .exact⟨2,_,0,by rw[b6 (by simpa using x)],by simp⟩
  .rw[b6 hd];by_cases y:bt s 0=34
   .have A:=XE (s:=s) (a:=1) (b:=s.size) (by omega) (by omega) (by omega);have o:∀c,Ke c=some (((decide (32<=c))&&(decide (c<=126)))&&(!decide (c=34))):=fun _=>rfl;have B:=Sl (fun c=>((decide (32<=c))&&(decide (c<=126)))&&(!decide (c=34))) (s.extract (1:Int).toNat (s.size:Int).toNat);have q:∃n e,Gz s=some (n,e):=by
     unfold Gz;rw[Hm (by omega) (by omega) (by omega),bs,cM (by omega) o,bs];rw[AV (by omega) (by omega)];by_cases he:1+Kn (fun c=>((decide (32<=c))&&(decide (c<=126)))&&(!decide (c=34))) (s.extract (1:Int).toNat (s.size:Int).toNat)=s.size
     .refine⟨0,2,?_⟩;simp only[he,decide_true,if_true,bs]
     .simp only[he,decide_false,Bool.false_eq_true,if_false];rw[Oo (by omega) (by omega)];simp only[bs];split
      .exact⟨_,_,rfl⟩
      .split
       .exact⟨_,_,rfl⟩
       .exact⟨_,_,rfl⟩
    obtain ⟨n,e,u⟩:=q;refine⟨3,n,e,by rw[az (by simpa using y),u];rfl,by simp⟩
   .rw[b6 (by simpa using y)];have C:∃b,Mm s=some b:=by
     unfold Mm;by_cases h:2<=(s.size:Int)
     .rw[az (by simpa using h),Hm (by omega) (by omega) h];simp only[bs,OL];exact⟨_,rfl⟩
     .rw[b6 (by simpa using h)];exact⟨_,rfl⟩
    obtain ⟨b,D⟩:=C;rw[D,bs];cases b
    .simp only[Bool.false_eq_true,if_false,strings_IndexByte,bs];split
     .exact⟨_,_,_,rfl,rfl⟩
     .exact⟨_,_,_,rfl,rfl⟩
    .exact⟨_,_,_,rfl,rfl⟩
theorem O6(d:(s.size:Int)<=4611686018427387904):Dn s=some (DY s):=by
 unfold Dn JZ;simp only[show decide ((1:Int)=3)=false from rfl,Bool.false_eq_true,if_false,bs];by_cases he:s=⟨#[]⟩
 .subst he;rfl
 grind [pU,Y1]
theorem pz(q:(s.size:Int)<=4611686018427387904)(d:Bool):∃n,N4 s 0 d=some n/\0<=n/\n<=s.size/\(d=false->n=Kn Pg s):=by
 have h:=Sl (fun c=>Aap c||(!d&&(Fe c||decide (c=95)))) s;refine⟨Kn (fun c=>Aap c||(!d&&(Fe c||decide (c=95)))) s,?_,h.1,h.2.1,fun hd=>?_⟩
 .unfold N4;rw[Lw (c:=fun i=>(if(Aap (bt s i)||(!d&&(Fe (bt s i)||decide (bt s i=95))))then none else some i).map .inl) (a:=0) (b:=s.size) (by omega)]
  .rw[S6];unfold Kn;cases fst (fun i=>if(Aap (bt s i)||(!d&&(Fe (bt s i)||decide (bt s i=95))))=true then none else some i) 0 s.size<;>rfl
  .intro i o f _;have j:AK (0+i)=i:=by rw[AV (by omega) (by omega)];omega
   simp only[j,f,decide_true,if_true,Oo o f,bs,aX,Yk]
   grind [Aap,bt,Fe,EO,AV]
  .have j:AK (0+(s.size:Int))=s.size:=by rw[AV (by omega) (by omega)];omega
   grind
 .subst hd;congr 1
  grind [Pg,Fe,Aap]
theorem jH(q:0<s.size)(u:(s.size:Int)<=4611686018427387904):∃n,J5 s 0=some n/\(n=0\/(2<=n/\n<=s.size)):=by
 unfold J5;rw[Lw (c:=fun i=>if decide (bt s i=34)=true then some (Sum.inr (i+1):Int ⊕ Int)else if(decide (bt s i<32)||decide (126<bt s i))=true then some (Sum.inr 0)else none) (a:=1) (b:=s.size) (by omega)]
 .cases h:fst (fun i=>if decide (bt s i=34)=true then some (Sum.inr (i+1):Int ⊕ Int)else if(decide (bt s i<32)||decide (126<bt s i))=true then some (Sum.inr 0)else none) 1 s.size with
  |none=>exact⟨0,rfl,.inl rfl⟩|some r=>
   obtain ⟨i,o,f,d,_⟩:=DT h;split at d
   .cases d;exact⟨_,rfl,.inr (by omega)⟩
   .split at d
    .cases d;exact⟨_,rfl,.inl rfl⟩
    .cases d
 .intro i o f _;have j:AK (0+i)=i:=by rw[AV (by omega) (by omega)];omega
  simp only[j,f,decide_true,if_true,Oo (show 0<=i by omega) f,bs,AV (show -9223372036854775808<=i+1 by omega) (by omega)];split
  .rfl
  .split<;>rfl
 .have j:AK (0+(s.size:Int))=s.size:=by rw[AV (by omega) (by omega)];omega
  grind
theorem su(O:0<s.size)(Q:(s.size:Int)<=4611686018427387904):∃t n e,N3 s 0=some (t,n,e)/\(((decide (e=0))&&(decide (n=(s.size:Int))))&&(decide (t.o3=1)))=DY s:=by
 obtain ⟨m,M,u,w,N⟩:=pz Q (Aap (bt s 0));unfold N3 DY;simp only[Oo (Int.le_refl 0) (show(0:Int)<s.size by omega),bs,Yk,aX,O,decide_true,Bool.true_and,M];have S:AK (0+m)=m:=by rw[AV (by omega) (by omega)];omega
 by_cases F:Fe (bt s 0)=true
 .have hd:Aap (bt s 0)=false:=by
   unfold Fe at F;unfold Aap
   grind
  have W:=N hd;subst W;simp only[F,if_true,hd,Bool.false_eq_true,if_false,bs,S];by_cases q:20<Kn Pg s
  .refine⟨_,_,_,by rw[az (by simpa using q)],?_⟩
   grind
  .rw[b6 (by simpa using q),Hm (Int.le_refl _) u w];refine⟨_,_,_,rfl,?_⟩
   grind
 .have G:Fe (bt s 0)=false:=by simpa using F
  simp only[G,Bool.false_eq_true,if_false,bs,Bool.false_and,S];by_cases hd:Aap (bt s 0)=true
  .simp only[hd,if_true,bs];by_cases T:9<m
   .exact⟨_,_,_,by rw[az (by simpa using T)],by simp⟩
   .rw[b6 (by simpa using T),Hm (Int.le_refl _) u w];exact⟨_,_,_,rfl,by simp⟩
  .have H:Aap (bt s 0)=false:=by simpa using hd
   simp only[H,Bool.false_eq_true,if_false,bs];by_cases U:bt s 0=34
   .obtain⟨n,hn,y⟩:=jH O Q;rw[az (by simpa using U),hn,bs];rcases y with rfl|y
    .grind
    .rw[b6 (by simp;omega)];split
     .grind
     .have Z:AK (0+1)=1:=by decide
      have e2:AK (0+n)=n:=by rw[AV (by omega) (by omega)];omega
      rw [Z,e2,AV (show -9223372036854775808<=n-1 by omega) (by omega),Hm (by omega) (by omega) (by omega)];exact⟨_,_,_,rfl,by simp⟩
   .rw[b6 (by simpa using U)];unfold Na;rw[bs];generalize hL:([(⟨#[45,62]⟩:ByteArray),(⟨#[60,61]⟩:ByteArray),(⟨#[62,61]⟩:ByteArray),(⟨#[61,61]⟩:ByteArray),(⟨#[33,61]⟩:ByteArray),(⟨#[123]⟩:ByteArray),(⟨#[125]⟩:ByteArray),(⟨#[40]⟩:ByteArray),(⟨#[41]⟩:ByteArray),(⟨#[91]⟩:ByteArray),(⟨#[93]⟩:ByteArray),(⟨#[44]⟩:ByteArray),(⟨#[59]⟩:ByteArray),(⟨#[58]⟩:ByteArray),(⟨#[61]⟩:ByteArray),(⟨#[43]⟩:ByteArray),(⟨#[45]⟩:ByteArray),(⟨#[42]⟩:ByteArray),(⟨#[60]⟩:ByteArray),(⟨#[62]⟩:ByteArray),(⟨#[33]⟩:ByteArray),(⟨#[38]⟩:ByteArray),(⟨#[124]⟩:ByteArray),(⟨#[46]⟩:ByteArray),(⟨#[63]⟩:ByteArray)]:List ByteArray)=L;have I:∀x∈L,x.size<=2:=by subst hL;decide
    rcases O1 (f:=(fun(h:Int)(V:Eg)=>
      (idx L h).bind fun A=>
      (if(decide ((AK (0+(A.size:Int)))<=(s.size:Int)))=true then((idx L h).bind fun B=>
      (Aas s 0 (AK (0+(B.size:Int)))).bind fun C=>
      (idx L h).bind fun D=>
      some (C==D))else some false).bind fun E=>
      if E=true then
      (idx L h).bind fun j=>
      (idx L h).bind fun o=>
      some (Bu.ret (Eg.mk 4 j 0,(o.size:Int),(0:Int)))
      else
      some (Bu.next V))) (fun _ s=>True) (fun _=>True) (fun r=>r.1.o3=4) (a:=0) (b:=L.length) (s:=Eg.mk 0 (⟨#[]⟩:ByteArray) 0) (by omega) trivial (fun i t d z _=>by
      have hx:=I _ (AF d z);have J:AK (0+((AA L i).size:Int))=(AA L i).size:=by rw[AV (by omega) (by omega)];omega
      simp only[AC d z,bs,J];by_cases K:((AA L i).size:Int)<=s.size
      .rw[az (by simpa using K),Hm (by omega) (by omega) K];simp only[bs];split
       .exact .inr (.inr ⟨_,rfl,rfl⟩)
       .exact .inl ⟨_,rfl,trivial⟩
      .rw[b6 (by simpa using K)];simp only[bs];exact .inl ⟨_,rfl,trivial⟩)with⟨s',d,_⟩|⟨r,d,z⟩
    .rw[d];exact⟨_,_,_,rfl,by simp⟩
    .rw[d];exact⟨_,_,_,rfl,by simp[z]⟩
theorem O7(d:(s.size:Int)<=4611686018427387904):Ez s=some (DY s):=by
 unfold Ez NZ OX;simp only[show decide ((1:Int)=3)=false from rfl,Bool.false_eq_true,if_false,bs];by_cases he:s=⟨#[]⟩
 .subst he;rfl
 grind [su,Y1]
end Go.Sf.Sc
namespace Go.Sf
variable{ρ β:Type}
def nz(e:Int):a6:=if e=0 then none else some e
theorem Kw(e:Int):(if(!decide (e=0))=true then some (Bu.ret e)else some (Bu.next ()))=some (Pr (nz e)):=by grind[nz,Pr]
theorem oU(b:Bool)(r:ρ):(if b=true then some (Bu.ret r)else some (Bu.next ()))=some (Pr (if b=true then some r else none)):=by
 cases b<;>rfl
variable{kr:ρ->Option β}
theorem B6{σ:Type}{s:σ}{k:σ->Option β}:fl (some (.inl s)) k kr=k s:=rfl
theorem N9{σ:Type}{r:ρ}{k:σ->Option β}:fl (some (.inr r)) k kr=kr r:=rfl
theorem DN(o:Option ρ)(k:Unit->Option β)(kr:ρ->Option β):fl (some (kf o)) k kr=match o with|none=>k ()|some r=>kr r:=by
 cases o<;>rfl
theorem Cc(o:a6):fl (some (kf o)) (fun _=>some 0) (fun v=>some v)=some (o.getD 0):=by
 cases o<;>rfl
variable{a b:Int}
theorem SJ{c:Int->Int}(h:(fst (fun i=>nz (c i)) a b).getD 0=0):∀i,a<=i->i<b->c i=0:=by
 have:fst (fun i=>nz (c i)) a b=none:=by
  cases hf:fst (fun i=>nz (c i)) a b with
  |none=>rfl|some r=>
   grind [Option.getD,DT,nz]
 grind [A5,nz]
variable{e:Int}
theorem Fg:nz e=none↔e=0:=by grind[nz]
theorem Tt{α:Type}[Inhabited α]{l:List α}{f:α->K1}{p:α->Bool}(h:∀x∈l,f x=some (p x)):
  (fl (kq (ρ:=Int) (fun(o:Int)(_:Unit)=>(idx l o).bind fun d=>(f d).bind fun j=>if j=true then some (.ret o)else some (.next ())) 0 (l.length:Int) ()) (fun _=>some (-1)) (fun w=>some w))=
   some ((fst (fun i=>if p (AA l i)=true then some i else none) 0 l.length).getD (-1)):=by
 rw [Bb (fun i=>if p (AA l i)=true then some i else none)]
 .rw[DN];cases fst (fun i=>if p (AA l i)=true then some i else none) 0 l.length<;>rfl
 .intro i q u _;rw[AC q u,bs,h _ (AF q u),bs,oU]
theorem WS{α:Type}[Inhabited α]{l:List α}{p:α->Bool}:decide (0<=(fst (fun i=>if p (AA l i)=true then some i else none) 0 l.length).getD (-1))=l.any p:=by
 rw [IF,n8];cases h:fst (fun i=>if p (AA l i)=true then some i else none) 0 l.length with
 |none=>
  grind [A5,Option.isSome,Option.isSome_eq_false_iff,Option.isNone_iff_eq_none,AA]
 |some k=>
  grind [DT,AA,Option.getD,Option.isSome,Option.isSome_iff_ne_none,A5]
theorem Ej{α:Type}[Inhabited α]{l:List α}{f:α->K1}{p:α->Bool}(h:∀x∈l,f x=some (p x)):
  ((fl (kq (ρ:=Int) (fun(o:Int)(_:Unit)=>(idx l o).bind fun d=>(f d).bind fun j=>if j=true then some (.ret o)else some (.next ())) 0 (l.length:Int) ()) (fun _=>some (-1)) (fun q=>some q)).bind fun u=>some (decide (0<=u)))=some (l.any p):=by
 rw [Tt h,bs,WS]
end Go.Sf
namespace Go.Sf.Sc
open Go Go.Sf
instance:Inhabited mh:=⟨⟨⟨#[]⟩,0,0,[]⟩⟩
instance:Inhabited BL:=⟨⟨⟨#[]⟩,0,false,[]⟩⟩
instance:Inhabited CA:=⟨⟨⟨#[]⟩,0,0,0,0,0,0⟩⟩
instance:Inhabited Bc:=⟨⟨0,0,0⟩⟩
instance:Inhabited Bv:=⟨⟨0,0,⟨0,0⟩⟩⟩
instance:Inhabited Test:=⟨⟨0,⟨0,0⟩,⟨0,0⟩⟩⟩
instance:Inhabited ea:=⟨⟨0,[],⟨[],[]⟩,⟨⟨[],[]⟩,[],0,[]⟩⟩⟩
variable{l:Fp}
theorem R6{f:Int->K1}{p:Int->Bool}(h:∀x∈l,f x=some (p x)):Ay l f=some (l.any p):=Ej h
theorem Zv{l:List Bc}{f:Bc->K1}{p:Bc->Bool}(h:∀x∈l,f x=some (p x)):BV l f=some (l.any p):=Ej h
theorem Xn{l:List ea}{f:ea->K1}{p:ea->Bool}(h:∀x∈l,f x=some (p x)):Bs l f=some (l.any p):=Ej h
theorem ZQ{l:List BL}{p:BL->Bool}:CD l (fun x=>some (p x))=some (l.any p):=Ej (fun _ _=>rfl)
theorem ZP{l:List CA}{p:CA->Bool}:CC l (fun x=>some (p x))=some (l.any p):=Ej (fun _ _=>rfl)
theorem lq{l:List mh}{p:mh->Bool}:Ca l (fun x=>some (p x))=some (l.any p):=Ej (fun _ _=>rfl)
theorem Xo{p:Int->Bool}:Ay l (fun x=>some (p x))=some (l.any p):=Ej (fun _ _=>rfl)
theorem Zw{l:List Bc}{p:Bc->Bool}:BV l (fun x=>some (p x))=some (l.any p):=Ej (fun _ _=>rfl)
theorem Zx{l:List Bv}{p:Bv->Bool}:CI l (fun x=>some (p x))=some (l.any p):=Ej (fun _ _=>rfl)
theorem ot(l:Fp)(v:Int):slices_Index_int l v=some ((fst (fun i=>if decide (v=AA l i)=true then some i else none) 0 l.length).getD (-1)):=by
 have:=Tt (l:=l) (f:=fun x=>some (decide (v=x))) (p:=fun x=>decide (v=x)) (fun _ _=>rfl);unfold slices_Index_int
 grind
theorem Kr(l:Fp)(v:Int):slices_Contains_int l v=some (l.any fun x=>decide (v=x)):=by grind[slices_Contains_int,ot,WS]
theorem ls(l:ae)(v:Bool):E5 l v=some (l.any fun x=>v==x):=by
 have:=Ej (l:=l) (f:=fun x=>some (v==x)) (p:=fun x=>v==x) (fun _ _=>rfl);unfold E5 H9
 grind
structure Qy(a:mh):Prop where
 name:(a.mr.size:Int)<=40
 names:a.sx.length<=25
 each:∀x∈a.sx,(x.size:Int)<=40
structure A6(t:ej):Prop where
 ek:t.d5.length<=20
 em:t.d7.length<=30
 name:∀n∈t.d5,(n.mr.size:Int)<=40
 Abn:∀n∈t.d5,n.r0.length<=30
 each:∀n∈t.d5,∀a∈n.r0,Qy a
 AbZ:∀e∈t.d7,(e.mr.size:Int)<=40
def par(t:ej)(i:Int):Int:=(AA t.d5 i).x9
def D8(t:ej)(k:Int):Prop:=∀i,0<=i->i<k->-1<=par t i/\par t i<i
def Be(t:ej):Nat->Int->List mh
 |0,_=>[]|n+1,a=>if a<0 then[]else Be t n (par t a)++(AA t.d5 a).r0
def At(t:ej)(a:Int):List mh:=Be t (a+1).toNat a
variable{t:ej}{a:Int}
theorem Ik{n:Nat}(h:a<0):Be t n a=[]:=by
 cases n with
 |zero=>rfl|succ n=>rw[Be,az h]
variable{k:Int}
theorem Ll(d:D8 t k):∀(n m:Nat)(a:Int),a<k->a<n->a<m->Be t n a=Be t m a
 |n,m,a,h,j,o=>by
  by_cases f:a<0
  .grind[Ik]
  .cases n with
   |zero=>omega|succ n=>
    cases m with
    |zero=>omega|succ m=>
     rw [Be,Be,b6 f,b6 f];have:=d a (by omega) h;rw[Ll d n m (par t a) (by omega) (by omega) (by omega)]
theorem L4(hf:A6 t)(f:k<=t.d5.length)(d:D8 t k):∀(n:Nat)(a:Int),a<k->((Be t n a).length:Int)<=30*n
 |0,_,_=>by simp[Be]|n+1,a,h=>by
  rw [Be];split
  .simp;omega
  .rename_i j;have o:=d a (by omega) h;have q:=L4 hf f d n (par t a) (by omega);have u:=hf.Abn _ (AF (l:=t.d5) (show 0<=a by omega) (by omega))
   grind
theorem UQ(hf:A6 t)(h:k<=t.d5.length)(f:D8 t k):∀(n:Nat)(a:Int),a<k->∀x∈Be t n a,Qy x
 |0,_,_=>by simp[Be]|n+1,a,j=>by
  rw [Be];split
  .simp
  .rename_i o;have q:=f a (by omega) j;intro x d;rcases List.mem_append.1 d with d|d
   .exact UQ hf h f n (par t a) (by omega) x d
   .exact hf.each _ (AF (l:=t.d5) (show 0<=a by omega) (by omega)) x d
theorem HM(hf:A6 t)(d:k<=t.d5.length)(f:D8 t k)(h:a<k):(At t a).length<=600:=by
 have:=L4 hf d f (a+1).toNat a h;have:=hf.ek;unfold At;omega
theorem L5(hf:A6 t)(d:k<=t.d5.length)(f:D8 t k)(h:a<k):∀x∈At t a,Qy x:=UQ hf d f _ a h
theorem YT(hf:A6 t)(j:k<=t.d5.length)(h:D8 t k):∀(n:Nat)(a:Int),0<=a->a<k->a<n->C1 n t a=some (Be t n a)
 |0,_,_,_,_=>by omega|n+1,a,q,z,D=>by
  have A:=h a (by omega) z;have u:=L4 hf j h n (par t a) (by omega);have B:=hf.Abn _ (AF (l:=t.d5) q (by omega));have C:=hf.ek;rw[C1,Be,b6 (by omega),AC q (by omega)];simp only[bs];show((if decide (0<=par t a)=true then(C1 n t (par t a)).bind fun f=>some f else some []).bind _)=_;have e:(if decide (0<=par t a)=true then(C1 n t (par t a)).bind fun f=>some f else some [])=some (Be t n (par t a)):=by
   by_cases o:0<=par t a
   .rw[az (by simpa using o),YT hf j h n (par t a) o (by omega) (by omega)];rfl
   .rw[b6 (by simpa using o),Ik (by omega)]
  have w:(Be t n (par t a)).length+(AA t.d5 a).r0.length<=AZ:=by
   unfold AZ;have:((Be t n (par t a)).length:Int)<=30*n:=u;have x:Be t n (par t a)=Be t 20 (par t a):=by
    by_cases d:par t a<0
    .rw[Ik d,Ik d]
    .exact Ll h n 20 (par t a) (by omega) (by omega) (by omega)
   have y:=L4 hf j h 20 (par t a) (by omega);rw[<-x]at y;omega
  rw [e,bs,AY w];rfl
theorem aK(hf:A6 t)(d:k<=t.d5.length)(f:D8 t k)(h:0<=a)(j:a<k):LK t a=some (At t a):=
 Ey (a+1).toNat fun n o=>by
  grind [YT,At,Ll]
theorem Yh(hf:A6 t)(h:k<=t.d5.length)(f:D8 t k):∀(n:Nat)(a:Int),-1<=a->a<k->a+1<n->F3 n t a=some (Be t n a)
 |0,_,_,_,_=>by omega|n+1,a,z,u,A=>by
  rw [F3,Be];by_cases d:a<0
  .grind
  .have w:=f a (by omega) u;have x:=hf.Abn _ (AF (l:=t.d5) (show 0<=a by omega) (by omega));have y:=hf.ek;rw[b6 (by simpa using d),b6 d,AC (by omega) (by omega)];simp only[bs];have j:Be t n (par t a)=Be t 20 (par t a):=by
    by_cases d:par t a<0
    .rw[Ik d,Ik d]
    .exact Ll f n 20 (par t a) (by omega) (by omega) (by omega)
   have o:=L4 hf h f 20 (par t a) (by omega);rw[<-j]at o;have q:(Be t n (par t a)).length+(AA t.d5 a).r0.length<=AZ:=by unfold AZ;omega
   rw [show(AA t.d5 a).x9=par t a from rfl,Yh hf h f n (par t a) (by omega) (by omega) (by omega),bs,AY (by simp;unfold AZ;omega)];simp only[bs,List.nil_append];rw[AY q];rfl
theorem aV(hf:A6 t)(d:k<=t.d5.length)(f:D8 t k)(h:0<=a)(j:a<k):Nb t a=some (At t a):=
 Ey (a+2).toNat fun n o=>by
  grind [Yh,At,Ll]
end Go.Sf.Sc
namespace Go.Sf.Sc
open Go Go.Sf
def J2(l:List ByteArray):Int:=
 if (20:Int)<l.length then 3 else(fst (fun i=>if DY (AA l i)=false then some 2 else if n8 (fun j=>AA l j==AA l i) 0 i=true then some 5 else none) 0 l.length).getD 0
variable{b:Int}
theorem Xr{l:List ByteArray}{x:ByteArray}(d:0<=b)(f:b<=l.length):(l.take b.toNat).contains x=n8 (fun j=>AA l j==x) 0 b:=by
 rw [List.contains_eq_any_beq,Ow d f]
 grind
theorem mb{l:List ByteArray}(o:∀x∈l,(x.size:Int)<=40):H4 l=some (J2 l):=by
 unfold H4 J2;by_cases d:(20:Int)<l.length
 .grind
 .rw[b6 (by simpa using d),b6 d];rw[Bb (fun i=>if DY (AA l i)=false then some 2 else if n8 (fun j=>AA l j==AA l i) 0 i=true then some 5 else none),Cc];intro i f h _;have q:=o _ (AF f h);rw[AC f h,bs,O6 (by omega),bs,Fm f (by omega)];simp only[bs,OL,Xr f (show i<=l.length by omega)];cases DY (AA l i)<;>cases n8 (fun j=>AA l j==AA l i) 0 i<;>rfl
theorem m8{l:List ByteArray}(o:∀x∈l,(x.size:Int)<=40):Kz l=some (J2 l):=by
 unfold Kz J2;by_cases d:(20:Int)<l.length
 .grind
 .rw[b6 (by simpa using d),b6 d];rw[Bb (fun i=>if DY (AA l i)=false then some 2 else if n8 (fun j=>AA l j==AA l i) 0 i=true then some 5 else none),Cc];intro i f h _;have q:=o _ (AF f h);rw[AC f h,bs,O7 (by omega),bs,Br (fun j=>AA l j==AA l i) 5]
  .cases DY (AA l i)<;>cases n8 (fun j=>AA l j==AA l i) 0 i<;>rfl
  grind [AC]
def KO(all:List mh)(k:Int):Int:=
 let x:=AA all k
 if DY x.mr=false then 2 else if n8 (fun j=>(AA all j).mr==x.mr) 0 k=true then 5 else
 if x.sx.length=0 then(if -1000000<=x.Low/\x.Low<=x.Aam/\x.Aam<=1000000 then 0 else 6)else
 if J2 x.sx≠0 then J2 x.sx else if x.Low=0/\x.Aam=x.sx.length-1 then 0 else 6
variable{k:Int}
theorem Zc{d:List mh}(q:∀x∈d,Qy x)(o:0<=k)(u:k<d.length):E7 (AA d k) (d.take k.toNat)=some (KO d k):=by
 have j:=q _ (AF o u);have A:=j.name;unfold E7 KO;dsimp only;rw[O6 (by omega),bs,show(fun f=>IB f (AA d k))=(fun f=>some (f.mr==(AA d k).mr))from rfl,lq,bs,Ow o (by omega),mb j.each,bs];have w:=j.names;have y:AK ((AA d k).sx.length-1)=(AA d k).sx.length-1:=AV (by omega) (by omega);rw[y];have z:(AA d k).sx.length=0->J2 (AA d k).sx=0:=fun h=>by rw[List.eq_nil_of_length_eq_zero h];rfl
 generalize J2 (AA d k).sx=e at z|-;simp only[bs,zzX,Bool.or_eq_true,tg,Bool.not_eq_true',decide_eq_false_iff_not,Bool.not_eq_false',Bool.or_eq_false_iff,Bool.and_eq_false_iff,ne_eq]
 repeat' (first|rfl|(exfalso;omega;done)|split)
 all_goals (first|rfl|(exfalso;omega)|omega|simp_all|(simp_all;omega))
theorem Ze{x:mh}(d:Qy x):Hf x=some (
 if x.sx.length=0 then(if -1000000<=x.Low/\x.Low<=x.Aam/\x.Aam<=1000000 then 0 else 6)else
 if J2 x.sx≠0 then J2 x.sx else if x.Low=0/\x.Aam=x.sx.length-1 then 0 else 6):=by
 have f:=d.names;have h:AK (x.sx.length-1)=x.sx.length-1:=AV (by omega) (by omega);unfold Hf DV;simp only[bs,h,m8 d.each];generalize J2 x.sx=e;simp only[bs,zzX,Bool.or_eq_true,tg,Bool.not_eq_true',decide_eq_false_iff_not,Bool.not_eq_false',Bool.or_eq_false_iff,Bool.and_eq_false_iff,ne_eq]
 repeat' (first|rfl|(exfalso;omega;done)|split)
 all_goals (first|rfl|(exfalso;omega)|omega|simp_all|(simp_all;omega))
def G5(t:ej)(i:Int):Int:=
 let n:=AA t.d5 i
 if DY n.mr=false then 2 else if n8 (fun j=>(AA t.d5 j).mr==n.mr) 0 i=true then 5 else
 if n.x9< -1\/i<=n.x9 then 6 else if 4<n.r0.length\/8<(At t i).length then 3 else
 (fst (fun k=>nz (KO (At t i) k)) ((At t i).length-n.r0.length) (At t i).length).getD 0
variable{t:ej}{i:Int}
theorem US(d:0<=i):(AA t.d5 i).r0.length<=(At t i).length:=by
 unfold At;rw[show(i+1).toNat=i.toNat+1 by omega,Be,b6 (by omega),cE];omega
theorem D8.next(h:D8 t i)(f:-1<=par t i)(o:par t i<i):D8 t (i+1):=by
 intro j d q;by_cases u:j=i
 .grind
 .exact h j d (by omega)
theorem pV(hf:A6 t)(f:0<=i)(w:i<t.d5.length)(A:D8 t i):I6 t i=some (G5 t i):=by
 have C:=hf.name _ (AF f w);unfold I6 G5;dsimp only;rw[AC f w,bs,O6 (by omega),bs,Fm f (by omega),bs,show(fun q=>Mq q (AA t.d5 i))=(fun q=>some (q.mr==(AA t.d5 i).mr))from rfl,ZQ,bs,Ow f (by omega)];cases DY (AA t.d5 i).mr
 .rfl
 .cases n8 (fun j=>(AA t.d5 j).mr==(AA t.d5 i).mr) 0 i
  .by_cases h:(AA t.d5 i).x9< -1\/i<=(AA t.d5 i).x9
   .rcases h with h|h<;>simp[h]
   .have d:D8 t (i+1):=A.next (by unfold par;omega) (by unfold par;omega)
    have u:(decide ((AA t.d5 i).x9< -1)||decide (i<=(AA t.d5 i).x9))=false:=by
     rw [Bool.eq_false_iff];simpa using h
    rw [aK hf (k:=i+1) (by omega) d f (by omega),bs];have y:=HM hf (k:=i+1) (a:=i) (by omega) d (by omega);have z:=US (t:=t) f;have o:=L5 hf (k:=i+1) (a:=i) (by omega) d (by omega);rw[AV (by omega) (by omega),Bb (fun k=>nz (KO (At t i) k)),Cc]
    .simp only[u,h,Bool.not_true,Bool.false_eq_true,if_false];simp only[bs,zzX,Bool.or_eq_true,tg,Bool.not_eq_true',decide_eq_false_iff_not,Bool.not_eq_false',Bool.or_eq_false_iff,Bool.and_eq_false_iff,ne_eq]
     repeat' (first|rfl|(exfalso;omega;done)|split)
     all_goals (first|rfl|(exfalso;omega)|omega|simp_all|(simp_all;omega))
    .intro k B x _;rw[AC (by omega) x,bs,Fm (by omega) (by omega),bs,Zc o (by omega) x,bs,Kw]
  .rfl
theorem px(hf:A6 t)(h:0<=i)(q:i<t.d5.length)(A:D8 t i):MR t i=some (G5 t i):=by
 have E:=hf.name _ (AF h q);have F:=hf.ek;unfold MR G5 DV;dsimp only;rw[AC h q,bs,O7 (by omega),bs,Br (fun j=>(AA t.d5 j).mr==(AA t.d5 i).mr) 5]
 .cases DY (AA t.d5 i).mr
  .rfl
  .cases n8 (fun j=>(AA t.d5 j).mr==(AA t.d5 i).mr) 0 i
   .simp only[Bool.not_true,Bool.false_eq_true,if_false,B6,bs];rw[AV (by omega) (by omega)];by_cases w:(AA t.d5 i).x9< -1\/i<=(AA t.d5 i).x9
    .rw[az,b6 (by decide),az w];simp;omega
    .have d:D8 t (i+1):=A.next (by unfold par;omega) (by unfold par;omega)
     rw [b6 (by simp;omega),b6 (by decide),b6 w];rw[aV hf (k:=i+1) (by omega) d h (by omega),bs];have x:=HM hf (k:=i+1) (a:=i) (by omega) d (by omega);have y:=US (t:=t) h;have f:=L5 hf (k:=i+1) (a:=i) (by omega) d (by omega);rw[AV (by omega) (by omega)];rw[Bb (fun k=>nz (KO (At t i) k)),Cc]
     .simp only[bs,zzX,Bool.or_eq_true,tg,Bool.not_eq_true',decide_eq_false_iff_not,Bool.not_eq_false',Bool.or_eq_false_iff,Bool.and_eq_false_iff,ne_eq]
      repeat' (first|rfl|(exfalso;omega;done)|split)
      all_goals (first|rfl|(exfalso;omega)|omega|simp_all|(simp_all;omega))
     .intro k u o _;have z:=f _ (AF (show 0<=k by omega) o);have C:=z.name;simp only[AC (show 0<=k by omega) o,bs];rw[O7 (by omega),bs,Br (fun j=>(AA (At t i) j).mr==(AA (At t i) k).mr) 5]
      .rw[Ze z];simp only[bs,Kw];unfold KO;dsimp only;cases DY (AA (At t i) k).mr
       .rfl
       .cases n8 (fun j=>(AA (At t i) j).mr==(AA (At t i) k).mr) 0 k<;>rfl
      .intro j B D _;rw[AC B (by omega),bs];split<;>rfl
   .rfl
 .intro j u o _;rw[AC u (by omega),bs];split<;>rfl
def Ju(low high:Int):Bool:=((decide (0<=low))&&(decide (low<=40)))&&((decide (high=(-1)))||((decide (low<=high))&&(decide (high<=40))))
theorem mu(low high:Int):JQ low high=some (Ju low high):=by
 unfold JQ Ju DV
 grind
def Iq(t:ej)(i:Int):Int:=
 let x:=AA t.d7 i
 if DY x.mr=false then 2 else if n8 (fun j=>(AA t.d7 j).mr==x.mr) 0 i=true then 5 else
 if (0<=x.nd/\x.nd<t.d5.length)/\(0<=x.To/\x.To<t.d5.length)/\Ju x.AaX x.AaK=true/\Ju x.Abs x.AaY=true then 0 else 6
theorem pO(hf:A6 t)(d:0<=i)(h:i<t.d7.length):I4 t i=some (Iq t i):=by
 have o:=hf.AbZ _ (AF d h);unfold I4 Iq KK;dsimp only;rw[AC d h,bs,O6 (by omega),bs,Fm d (by omega),bs,show(fun f=>Mp f (AA t.d7 i))=(fun f=>some (f.mr==(AA t.d7 i).mr))from rfl,ZP,bs,Ow d (by omega)];simp[show∀a b,JL a b=some (Ju a b)from fun _ _=>rfl];generalize DY (AA t.d7 i).mr=b1;generalize n8 (fun j=>(AA t.d7 j).mr==(AA t.d7 i).mr) 0 i=b2;generalize Ju (AA t.d7 i).AaX (AA t.d7 i).AaK=b3;generalize Ju (AA t.d7 i).Abs (AA t.d7 i).AaY=b4;cases b1
 .rfl
 grind
theorem pk(hf:A6 t)(o:0<=i)(q:i<t.d7.length):MQ t i=some (Iq t i):=by
 have w:=hf.AbZ _ (AF o q);have x:=hf.ek;unfold MQ Iq DV;dsimp only;rw[AC o q,bs,O7 (by omega),bs,Br (fun j=>(AA t.d7 j).mr==(AA t.d7 i).mr) 5]
 .simp only[AV (show -9223372036854775808<=(t.d5.length:Int)-1 by omega) (by omega),mu,bs];generalize DY (AA t.d7 i).mr=b1;generalize n8 (fun j=>(AA t.d7 j).mr==(AA t.d7 i).mr) 0 i=b2;generalize Ju (AA t.d7 i).AaX (AA t.d7 i).AaK=b3;generalize Ju (AA t.d7 i).Abs (AA t.d7 i).AaY=b4;cases b1
  .rfl
  .cases b2
   .cases b3<;>cases b4
    all_goals
     by_cases f:0<=(AA t.d7 i).nd/\(AA t.d7 i).nd<t.d5.length
     .have d:(AA t.d7 i).nd<=(t.d5.length:Int)-1:=by omega
      by_cases u:0<=(AA t.d7 i).To/\(AA t.d7 i).To<t.d5.length
      .have h:(AA t.d7 i).To<=(t.d5.length:Int)-1:=by omega
       simp [f,u,d,h,B6]
      .have:(decide (0<=(AA t.d7 i).To)&&decide ((AA t.d7 i).To<=(t.d5.length:Int)-1))=false:=by rw[Bool.eq_false_iff];simp;omega
       simp [f,u,d,this,B6]
     .have:(decide (0<=(AA t.d7 i).nd)&&decide ((AA t.d7 i).nd<=(t.d5.length:Int)-1))=false:=by rw[Bool.eq_false_iff];simp;omega
      simp [f,this,B6]
   .rfl
 grind [AC]
def A1(t:ej):ByteArray×Int:=
 if t.d5.length=0 then(⟨#[]⟩,7)else if 12<t.d5.length\/20<t.d7.length then(⟨#[]⟩,3)else
 match fst (fun i=>(nz (G5 t i)).map fun e=>((AA t.d5 i).mr,e)) 0 t.d5.length with
 |some r=>r|none=>(fst (fun i=>(nz (Iq t i)).map fun e=>((AA t.d7 i).mr,e)) 0 t.d7.length).getD (⟨#[]⟩,0)
theorem eT(h:G5 t i=0):-1<=par t i/\par t i<i:=by grind[G5,par,AA]
theorem Ld{α β:Type}{o:Option α}{g:α->β}:o.map g=none↔o=none:=by cases o<;>simp
theorem T1(h:∀j,0<=j->j<i->G5 t j=0):D8 t i:=fun j d f=>eT (h j d f)
theorem TB{ρ:Type}(e:Int)(n:ByteArray):(if(!decide (e=0))=true then some (Bu.ret (n,e))else some (Bu.next ()))=some (Pr ((nz e).map fun e=>(n,e))):=by grind[nz,Pr]
theorem Lu(hf:A6 t):DJ t=some (A1 t):=by
 unfold DJ A1;rw[Bb (fun i=>(nz (G5 t i)).map fun e=>((AA t.d5 i).mr,e)),DN]
 .rw[Bb (fun i=>(nz (Iq t i)).map fun e=>((AA t.d7 i).mr,e)),DN]
  .cases fst (fun i=>(nz (G5 t i)).map fun e=>((AA t.d5 i).mr,e)) 0 t.d5.length<;>cases fst (fun i=>(nz (Iq t i)).map fun e=>((AA t.d7 i).mr,e)) 0 t.d7.length
   all_goals dsimp only
   all_goals try simp only[Option.getD]
   all_goals
    simp only[bs,zzX,Bool.or_eq_true,tg,Bool.not_eq_true',decide_eq_false_iff_not,Bool.not_eq_false',Bool.or_eq_false_iff,Bool.and_eq_false_iff,ne_eq]
    repeat' (first|rfl|(exfalso;omega;done)|split)
    all_goals (first|rfl|(exfalso;omega)|omega|simp_all|(simp_all;omega))
  .intro i d f _;rw[AC d f,bs,pO hf d f,bs];exact TB (ρ:=Unit) _ _
 .intro i d f q;have u:D8 t i:=T1 fun j h o=>Fg.1 (Ld.1 (q j h o));rw[AC d f,bs,pV hf d f u,bs];exact TB (ρ:=Unit) _ _
theorem On(hf:A6 t):Em t=some (A1 t):=by
 unfold Em A1;rw[Bb (fun i=>(nz (G5 t i)).map fun e=>((AA t.d5 i).mr,e)),DN]
 .rw[Bb (fun i=>(nz (Iq t i)).map fun e=>((AA t.d7 i).mr,e)),DN]
  .cases fst (fun i=>(nz (G5 t i)).map fun e=>((AA t.d5 i).mr,e)) 0 t.d5.length<;>cases fst (fun i=>(nz (Iq t i)).map fun e=>((AA t.d7 i).mr,e)) 0 t.d7.length
   all_goals dsimp only
   all_goals try simp only[Option.getD]
   all_goals
    simp only[bs,zzX,Bool.or_eq_true,tg,Bool.not_eq_true',decide_eq_false_iff_not,Bool.not_eq_false',Bool.or_eq_false_iff,Bool.and_eq_false_iff,ne_eq]
    repeat' (first|rfl|(exfalso;omega;done)|split)
    all_goals (first|rfl|(exfalso;omega)|omega|simp_all|(simp_all;omega))
  .intro i d f _;simp only[pk hf d f,AC d f,bs];exact TB (ρ:=Unit) _ _
 .intro i d f q;have u:D8 t i:=T1 fun j h o=>Fg.1 (Ld.1 (q j h o));simp only[px hf d f u,AC d f,bs];exact TB (ρ:=Unit) _ _
end Go.Sf.Sc
namespace Go.Sf.Sc
open Go Go.Sf
theorem Kl{α:Type}{c:Bool}{a b:α}:(if c=true then some a else some b)=some (if c=true then a else b):=by cases c<;>rfl
def LR(n:Int):Bool:=(decide (0<=n))&&(decide (n<=99))
def RE(e:Bc)(n:Int):Bool:=LR e.mt&&(decide (0<=e.nd)&&decide (e.nd<n))&&(decide (0<=e.To)&&decide (e.To<n))
def Bn(g:d6):Int:=
 if 40<g.d5.length\/80<g.d7.length then 3 else if(g.d5.any fun n=>!LR n)=true then 6 else if(g.d7.any fun e=>!RE e g.d5.length)=true then 6 else 0
structure CN(g:d6):Prop where
 ek:g.d5.length<=40
 em:g.d7.length<=80
 kind:∀n∈g.d5,0<=n/\n<=99
 fit:∀e∈g.d7,(0<=e.mt/\e.mt<=99)/\(0<=e.nd/\e.nd<g.d5.length)/\(0<=e.To/\e.To<g.d5.length)
variable{g:d6}
theorem Cp(h:Bn g=0):CN g:=by
 unfold Bn at h;split at h
 .cases h
 .split at h
  .cases h
  .split at h
   .cases h
   .rename_i o f d;refine⟨by omega,by omega,fun n j=>?_,fun e he=>?_⟩
    .rw[Bool.not_eq_true,List.any_eq_false]at f
     grind [LR]
    .rw[Bool.not_eq_true,List.any_eq_false]at d;have:=d e he;simp[RE,LR,Bool.not_eq_true',zzX]at this;omega
theorem pR{e:Bc}{n:Nat}(h:n<=40):ME e n=some (RE e n):=by
 unfold ME Gs RE LR;simp only[bs,AV (show -9223372036854775808<=(n:Int)-1 by omega) (by omega)];have d:decide (e.nd<=(n:Int)-1)=decide (e.nd<n):=by rw[decide_eq_decide];omega
 have f:decide (e.To<=(n:Int)-1)=decide (e.To<n):=by rw[decide_eq_decide];omega
 rw [d,f];generalize (decide (0<=e.mt)&&decide (e.mt<=99))=b1;generalize (decide (0<=e.nd)&&decide (e.nd<n))=b2;cases b1<;>cases b2<;>simp
theorem KW(g:d6):Cm g=some (Bn g):=by
 unfold Cm Bn;by_cases h:40<g.d5.length\/80<g.d7.length
 .grind
 .rw[b6 (by simp;omega),b6 h,show LP=(fun n=>some (!LR n))from rfl,Xo,Zv (p:=fun e=>!RE e g.d5.length) (fun e _=>by
   grind [LQ,pR])]
  grind
theorem KX(g:d6):DI g=some (Bn g):=by
 unfold DI Bn;by_cases h:40<g.d5.length\/80<g.d7.length
 .grind
 .rw[b6 (by simp;omega),b6 h,IF,IF,Br (fun i=>!LR (AA g.d5 i)) 6]
  .rw[Br (fun i=>!RE (AA g.d7 i) g.d5.length) 6]
   .cases n8 (fun i=>!LR (AA g.d5 i)) 0 g.d5.length
    .cases n8 (fun i=>!RE (AA g.d7 i) g.d5.length) 0 g.d7.length<;>rfl
    .rfl
   .intro i d f _;rw[AC d f,bs];unfold Nc RE;simp[show∀n,KY n=some (LR n)from fun _=>rfl]
    grind
  grind [AC,KY,AA,LR]
def CW(t:ej)(g:d6):Bool:=!(g.d5.any fun n=>decide (t.d5.length<=n))&&!(g.d7.any fun e=>decide (t.d7.length<=e.mt))
variable{t:ej}
theorem GK(d:CN g)(h:CW t g=true):(∀n∈g.d5,0<=n/\n<t.d5.length)/\∀e∈g.d7,0<=e.mt/\e.mt<t.d7.length:=by
 unfold CW at h;simp[Bool.not_eq_true',zzX]at h;refine⟨fun n f=>?_,fun e he=>?_⟩
 .have:=h.1 n f;have:=d.kind n f;omega
 .have:=h.2 e he;have:=d.fit e he;omega
theorem mf(t:ej)(g:d6):Iy t g=some (CW t g):=by grind[Iy,CW,Mi,Xo,Mj,Bc,Zw]
theorem Vm(h:CN g):Gi t g=some (CW t g):=by
 unfold Gi CW;rw[IF,IF,Br (fun i=>decide (t.d5.length<=AA g.d5 i)) false]
 .rw[Br (fun i=>decide (t.d7.length<=(AA g.d7 i).mt)) false]
  .cases n8 (fun i=>decide (t.d5.length<=AA g.d5 i)) 0 g.d5.length
   .cases n8 (fun i=>decide (t.d7.length<=(AA g.d7 i).mt)) 0 g.d7.length<;>rfl
   .rfl
  .intro i d f _;have:=(h.fit _ (AF d f)).1.1;simp[AC d f]
   grind
 .intro i d f _;have:=(h.kind _ (AF d f)).1;simp[AC d f]
  grind
structure E8(t:ej):Prop where
 ek:t.d5.length<=12
 em:t.d7.length<=20
 node:∀i:Int,0<=i->i<t.d5.length->G5 t i=0
 edge:∀i:Int,0<=i->i<t.d7.length->Iq t i=0
theorem C8(h:(A1 t).2=0):E8 t:=by
 unfold A1 at h;split at h
 .cases h
 .split at h
  .cases h
  .rename_i u w;have f:∀i:Int,0<=i->i<t.d5.length->G5 t i=0:=by
    grind [DT,nz,Fg,Ld,A5]
   have he:∀i:Int,0<=i->i<t.d7.length->Iq t i=0:=by
    split at h
    .rename_i r d;obtain⟨i,o,q,j,_⟩:=DT d;rw[f i o q]at j;cases j
    .cases d:fst (fun i=>(nz (Iq t i)).map fun e=>((AA t.d7 i).mr,e)) 0 t.d7.length with
     |some r=>
      grind [DT,nz]
     |none=>
      grind [Fg,Ld,A5]
   exact ⟨by omega,by omega,f,he⟩
theorem E8.par(h:E8 t):D8 t t.d5.length:=T1 h.node
variable{i:Int}
theorem E8.ends(h:E8 t)(d:0<=i)(f:i<t.d7.length):(0<=(AA t.d7 i).nd/\(AA t.d7 i).nd<t.d5.length)/\(0<=(AA t.d7 i).To/\(AA t.d7 i).To<t.d5.length):=by
 have:=h.edge i d f
 grind [Iq]
def Je(t:ej)(a:Int):Bool:=decide (0<=a)&&decide (a<t.d5.length)
variable{a:Int}
theorem KV:Je t a=true↔0<=a/\a<t.d5.length:=by unfold Je;simp
theorem Vj(hf:A6 t)(l:Fp):F1 t l=some (if(A1 t).2≠0 then(A1 t).2 else if(l.all (Je t))=true then 0 else 6):=by
 unfold F1;rw[Lu hf,bs,R6 (p:=fun a=>!Je t a) (fun a _=>by unfold La Je;rw[show decide (a<0)=!decide (0<=a)from by rw[<-decide_not,decide_eq_decide];omega,show decide ((t.d5.length:Int)<=a)=!decide (a<t.d5.length)from by rw[<-decide_not,decide_eq_decide];omega,Bool.not_and]),bs]
 grind
theorem aY(hf:A6 t)(a b:Int):JR t a b=some (if(A1 t).2≠0 then(A1 t).2 else if(Je t a&&Je t b)=true then 0 else 6):=by
 have d:=hf.ek;have e:∀a,decide (a<=(t.d5.length:Int)-1)=decide (a<(t.d5.length:Int)):=fun a=>by rw[decide_eq_decide];omega
 unfold JR DV;rw[On hf,bs]
 grind [AV,A1,Je]
theorem fb{α:Type}[Inhabited α]{l:List α}(d:0<=i)(f:i<l.length):BN l i (AA l i)=l:=by grind[BN,AA,List.getElem?_eq_getElem,List.set_getElem_self]
theorem B3{α:Type}[Inhabited α]{l:List α}(d:0<=i)(f:i<l.length):l.take (i+1).toNat=l.take i.toNat++[AA l i]:=by
 unfold AA;rw[show(i+1).toNat=i.toNat+1 by omega,List.take_add_one,List.getD_eq_getElem?_getD,List.getElem?_eq_getElem (by omega)];rfl
theorem Bq{α:Type}{l:List α}(h:l.length<=AZ):Au [] l=some l:=by grind[AY]
def EU(t:ej)(a:Int):List mh×Int:=if(A1 t).2≠0 then([],(A1 t).2)else if Je t a=true then(At t a,0)else([],6)
theorem Qq(hf:A6 t)(a:Int):EK t a=some (EU t a):=by
 unfold EK EU;rw[Vj hf,bs];by_cases h:(A1 t).2=0
 .have j:=C8 h;have e:[a].all (Je t)=Je t a:=by simp
  rw [e];simp[h];cases hi:Je t a
  .rfl
  .rw[az rfl,az rfl];have o:=KV.1 hi;have D:=HM hf (Int.le_refl _) j.par o.2;have B:=L5 hf (Int.le_refl _) j.par o.2;rw[b6 (by decide),aK hf (Int.le_refl _) j.par o.1 o.2,bs];obtain⟨s',C,rfl⟩:=M6 (f:=(fun(q:Int)(u:List mh)=>
 (idx u q).bind fun w=>
 (slices_Clone_string w.sx).bind fun x=>
 (idx u q).bind fun d=>
 some (BN u q (mh.mk d.mr d.Low d.Aam x)))) (fun _ s=>s=At t a) (a:=0) (b:=(At t a).length) (s:=At t a) (by omega) rfl (fun i s y z A=>by
     subst A;have:=(B _ (AF y z)).names;refine⟨At t a,?_,rfl⟩;unfold slices_Clone_string;rw[AC y z,bs,Bq (by unfold AZ;omega),bs,bs];congr 1;exact fb y z)
   rw [C];rfl
 .simp[h,not_false_eq_true,decide_false]
theorem Om(hf:A6 t)(a:Int):El t a=some (EU t a):=by
 unfold El EU;rw[aY hf,bs];by_cases h:(A1 t).2=0
 .have d:=C8 h;rw[Bool.and_self];simp only[h,ne_eq,not_true_eq_false,if_false];cases hi:Je t a
  .rfl
  .rw[az rfl,az rfl];have f:=KV.1 hi;have u:=HM hf (Int.le_refl _) d.par f.2;have q:=L5 hf (Int.le_refl _) d.par f.2;rw[b6 (by decide),aV hf (Int.le_refl _) d.par f.1 f.2,bs];rw[Bz (fun i=>(At t a).take i.toNat) (by omega) (by simp)]
   .rw[bs,Int.toNat_natCast,List.take_length]
   .intro i j o;have:=(q _ (AF j o)).names;rw[AC j o,bs,Bq (by unfold AZ;omega),bs,AY (by rw[ca];simp;unfold AZ;omega),B3 j o];rfl
 grind
end Go.Sf.Sc
namespace Go.Sf.Sc
open Go Go.Sf
def IX(t:ej):Nat->Int->Fp
 |0,_=>[]|n+1,a=>if a<0 then[]else a::IX t n (par t a)
variable{t:ej}{k:Int}
theorem gI(f:D8 t k):∀(n m:Nat)(a:Int),a<k->a<n->a<m->IX t n a=IX t m a
 |n,m,a,h,j,o=>by
  by_cases d:a<0
  .cases n<;>cases m<;>simp[IX,d]
  .cases n with
   |zero=>omega|succ n=>
    cases m with
    |zero=>omega|succ m=>
     rw [IX,IX,b6 d,b6 d];have:=f a (by omega) h;rw[gI f n m (par t a) (by omega) (by omega) (by omega)]
theorem ay(t:ej):∀(n:Nat)(a:Int),(IX t n a).length<=n
 |0,_=>by simp[IX]|n+1,a=>by
  rw [IX];split
  .simp
  .have:=ay t n (par t a);simp;omega
def Gt(t:ej)(a b:Int):Bool:=(IX t (a+1).toNat a).any fun x=>decide (b=x)
theorem aB(f:t.d5.length<=12)(q:D8 t t.d5.length):∀(n:Nat)(a:Int)(l:Fp),a<t.d5.length->a<n->l.length+n<=1000 ->
  ∃x,Kj (ρ:=Fp) (fun(d:Int×Fp)=>
 if (decide (0<=d.1))=true then
 (Au d.2 [d.1]).bind fun h=>
 (idx t.d5 d.1).bind fun j=>
 some (.next (j.x9,h))
 else
 some (.brk (d.1,d.2))) (a,l) (.inl (x,l++IX t n a))
 |0,a,l,o,u,_=>by
  refine ⟨a,.brk ?_⟩
  grind [IX]
 |n+1,a,l,o,u,A=>by
  by_cases w:a<0
  .refine⟨a,.brk ?_⟩
   grind [IX]
  .have y:=q a (by omega) o;obtain⟨x,z⟩:=aB f q n (par t a) (l++[a]) (by omega) (by omega) (by simp;omega);refine⟨x,.next (s':=(par t a,l++[a])) ?_ ?_⟩
   .rw[az (by simp;omega),AY (by simp;unfold AZ;omega),bs,AC (by omega) o];rfl
   grind [IX,par]
variable{a b:Int}
theorem io(h:E8 t)(o:0<=a)(d:a<t.d5.length):I5 t a b=some (Gt t a b):=by
 have f:=h.ek;obtain⟨x,j⟩:=aB f h.par (a+1).toNat a [] d (by omega) (by simp;omega);have q:=ay t (a+1).toNat a;unfold I5 Kf;rw[j.eq,B6]
 grind [slices_Reverse_int,AZ,Kr,Gt]
theorem T6(d:D8 t t.d5.length)(j:0<=b):∀(n m:Nat)(a:Int),-1<=a->a<t.d5.length->a+1<n->a<m->FE n t a b=some ((IX t m a).any fun x=>decide (b=x))
 |0,_,_,_,_,_,_=>by omega|n+1,m,a,q,h,u,w=>by
  rw [FE];by_cases f:a<0
  .rw[b6 (by simp;omega),b6 (by simp;omega)];cases m<;>simp[IX,f]
  .cases m with
   |zero=>omega|succ m=>
    have o:=d a (by omega) h;rw[IX,b6 f,List.any_cons,az (show decide (0<=a)=true by simp;omega),AC (by omega) h];simp;rw[show(AA t.d5 a).x9=par t a from rfl,T6 d j n m (par t a) (by omega) (by omega) (by omega) (by omega)]
    grind
theorem aW(h:E8 t)(j:0<=a)(d:a<t.d5.length)(f:0<=b):IR t a b=some (Gt t a b):=
 Ey (a+2).toNat fun n o=>T6 h.par f n (a+1).toNat a (by omega) d (by omega) (by omega)
def Is(t:ej)(e f g:Int):Bool:=
 decide ((A1 t).2=0)&&(Je t f&&Je t g)&&(decide (0<=e)&&decide (e<t.d7.length))&&(Gt t f (AA t.d7 e).nd&&Gt t g (AA t.d7 e).To)
theorem eY(hf:A6 t)(e f g:Int):Hq t e f g=some (Is t e f g):=by
 unfold Hq Is;rw[Vj hf,bs,show[f,g].all (Je t)=(Je t f&&Je t g)by simp];by_cases h:(A1 t).2=0
 .simp only[h,ne_eq,not_true_eq_false,if_false];have d:=C8 h;cases hi:(Je t f&&Je t g)
  .rfl
  .rw[tg,KV,KV]at hi;by_cases he:0<=e/\e<t.d7.length
   .rw[b6 (by simp;omega),AC he.1 he.2];simp[io d hi.1.1 hi.1.2,io d hi.2.1 hi.2.2,he.1,he.2,decide_true]
    grind
   grind
 .simp[h]
theorem VC(hf:A6 t)(e f g:Int):He t e f g=some (Is t e f g):=by
 have u:=hf.em;unfold He Is DV;rw[aY hf,bs];by_cases h:(A1 t).2=0
 .simp only[h,ne_eq,not_true_eq_false,if_false];have d:=C8 h;cases hi:(Je t f&&Je t g)
  .rfl
  .rw[tg,KV,KV]at hi;rw[AV (by omega) (by omega)];simp only[bs];by_cases he:0<=e/\e<t.d7.length
   .have j:=d.ends he.1 he.2;have o:e<=(t.d7.length:Int)-1:=by omega
    rw [b6 (by simp),bs,b6 (by simp[he.1,o]),AC he.1 he.2];simp[aW d hi.1.1 hi.1.2 j.1.1,aW d hi.2.1 hi.2.2 j.2.1,he.1,he.2,decide_true];cases Gt t f (AA t.d7 e).nd<;>rfl
   .have:(decide (0<=e)&&decide (e<t.d7.length))=false:=by rw[Bool.eq_false_iff];simpa using he
    have q:(decide (0<=e)&&decide (e<=(t.d7.length:Int)-1))=false:=by rw[Bool.eq_false_iff];simp;omega
    rw [this,q];simp
 .simp[h]
def LZ(n:Int)(x:kg):Bool:=(((decide ((-1)<=x.Var))&&(decide (x.Var<n)))&&(decide ((-1000000)<=x.Add)))&&(decide (x.Add<=1000000))
def I2(n:Int)(x:Test):Int:=if¬x.o3=1/\¬x.o3=2 then 1 else if(LZ n x.kl&&LZ n x.gn)=true then 0 else 6
def Hp(n:Int)(l:List Test):Int:=if n<0\/12<n then 6 else if 40<l.length then 3 else(fst (fun i=>nz (I2 n (AA l i))) 0 l.length).getD 0
theorem pf(n:Int)(x:Test):II n x=some (I2 n x):=by
 unfold II I2;simp only[show∀n x,HQ n x=some (LZ n x)from fun _ _=>rfl,bs];generalize LZ n x.kl=b1;generalize LZ n x.gn=b2;cases b1<;>cases b2
 all_goals
  simp only[bs,zzX,Bool.or_eq_true,tg,Bool.not_eq_true',decide_eq_false_iff_not,Bool.not_eq_false',Bool.or_eq_false_iff,Bool.and_eq_false_iff,ne_eq]
  repeat' (first|rfl|(exfalso;omega;done)|split)
  all_goals (first|rfl|(exfalso;omega)|omega|simp_all|(simp_all;omega))
theorem jK(n:Int)(x:kg):IQ n x=some (if LZ n x=true then 0 else 6):=by
 unfold IQ LZ;simp only[bs,zzX,Bool.or_eq_true,tg,Bool.not_eq_true',decide_eq_false_iff_not,Bool.not_eq_false',Bool.or_eq_false_iff,Bool.and_eq_false_iff,ne_eq]
 repeat' (first|rfl|(exfalso;omega;done)|split)
 all_goals (first|rfl|(exfalso;omega)|omega|simp_all|(simp_all;omega))
theorem p7(n:Int)(x:Test):N5 n x=some (I2 n x):=by
 unfold N5 I2;simp only[jK,bs];generalize LZ n x.kl=b1;generalize LZ n x.gn=b2;cases b1<;>cases b2
 all_goals
  simp only[bs,zzX,Bool.or_eq_true,tg,Bool.not_eq_true',decide_eq_false_iff_not,Bool.not_eq_false',Bool.or_eq_false_iff,Bool.and_eq_false_iff,ne_eq]
  repeat' (first|rfl|(exfalso;omega;done)|split)
  all_goals (first|rfl|(exfalso;omega)|omega|simp_all|(simp_all;omega))
theorem me(n:Int)(l:List Test):Gq n l=some (Hp n l):=by
 unfold Gq Hp;rw[Bb (fun i=>nz (I2 n (AA l i))),Cc]
 .simp only[bs,zzX,Bool.or_eq_true,tg,Bool.not_eq_true',decide_eq_false_iff_not,Bool.not_eq_false',Bool.or_eq_false_iff,Bool.and_eq_false_iff,ne_eq]
  repeat' (first|rfl|(exfalso;omega;done)|split)
  all_goals (first|rfl|(exfalso;omega)|omega|simp_all|(simp_all;omega))
 .intro i d f _;rw[AC d f,bs,pf,bs,Kw]
theorem nD(n:Int)(l:List Test):Ky n l=some (Hp n l):=by
 unfold Ky Hp;rw[Bb (fun i=>nz (I2 n (AA l i))),Cc]
 .simp only[bs,zzX,Bool.or_eq_true,tg,Bool.not_eq_true',decide_eq_false_iff_not,Bool.not_eq_false',Bool.or_eq_false_iff,Bool.and_eq_false_iff,ne_eq]
  repeat' (first|rfl|(exfalso;omega;done)|split)
  all_goals (first|rfl|(exfalso;omega)|omega|simp_all|(simp_all;omega))
 .intro i d f _;rw[AC d f,bs,p7,bs,Kw]
def PQ(t:ej)(p:ed)(node ix:Int):mh×Bool:=
 if node<0\/p.d6.d5.length<=node then(default,false)else
 let l:=(EU t (AA p.d6.d5 node)).1
 if ix<0\/l.length<=ix then(default,false)else(AA l ix,true)
theorem Q4(hf:A6 t)(a:Int):(EU t a).1.length<=600/\((EU t a).2≠0->(EU t a).1=[]):=by
 unfold EU;split
 .simp
 .rename_i h;have d:=C8 (t:=t) (by omega);split
  .rename_i hi;exact⟨HM hf (Int.le_refl _) d.par (KV.1 hi).2,by simp⟩
  .simp
variable{p:ed}
theorem mV(hf:A6 t)(d:CN p.d6)(s:Bv):FW t p s=some (PQ t p s.p0 s.mh):=by
 have j:=d.ek;unfold FW PQ CZ;dsimp only;rw[AV (by omega) (by omega),bs];by_cases h:s.p0<0\/p.d6.d5.length<=s.p0
 .rw[az (by simp;omega),az h];rfl
 .rw[b6 (by simp;omega),b6 h,AC (by omega) (by omega),bs,Qq hf,bs];have o:=(Q4 hf (AA p.d6.d5 s.p0)).1;rw[AV (by omega) (by omega),bs];by_cases f:s.mh<0\/(EU t (AA p.d6.d5 s.p0)).1.length<=s.mh
  .rw[az (by simp;omega),az f];rfl
  grind [AC]
theorem mq(hf:A6 t)(node d:Int):Ma t p node d=some (PQ t p node d):=by
 unfold Ma PQ;dsimp only;by_cases h:node<0\/p.d6.d5.length<=node
 .rw[az (by simp;omega),az h];rfl
 .rw[b6 (by simp;omega),b6 h,AC (by omega) (by omega),bs,Om hf,bs];have j:=(Q4 hf (AA p.d6.d5 node)).2;by_cases f:d<0\/(EU t (AA p.d6.d5 node)).1.length<=d
  .rw[az (by simp;omega),az f];rfl
  grind [EU,AA,AC]
end Go.Sf.Sc
namespace Go.Sf
variable{σ ρ:Type}
def qM(s:σ)(o:Option ρ):Bu σ ρ:=match o with
 |none=>.next s|some r=>.ret r
def ak(s:σ)(o:Option ρ):σ ⊕ ρ:=match o with
 |none=>.inl s|some r=>.inr r
theorem X5{f:Int->σ->Option (Bu σ ρ)}(g:Int->σ)(c:Int->Option ρ):∀(n:Nat)(a:Int),
  (∀i,a<=i->i<a+n->(∀j,a<=j->j<i->c j=none)->f i (g i)=some (qM (g (i+1)) (c i)))->Aaa f n a (g a)=some (ak (g (a+n)) (Ei c n a))
 |0,a,_=>by simp[Aaa,Ei,ak]|n+1,a,h=>by
  have q:=h a (Int.le_refl _) (by omega) (fun j d o=>by omega);rw[EN,q,Ei];cases y:c a with
  |some r=>rfl|none=>
   simp only[qM];rw[show a+((n+1:Nat):Int)=a+1+n by omega];refine X5 g c n (a+1) (fun i d o u=>h i (by omega) (by omega) (fun j w x=>?_))
   grind
variable{a b:Int}
theorem M7{f:Int->σ->Option (Bu σ ρ)}(g:Int->σ)(c:Int->Option ρ){s:σ}(d:a<=b)(o:s=g a)(h:∀i,a<=i->i<b->(∀j,a<=j->j<i->c j=none)->f i (g i)=some (qM (g (i+1)) (c i))):kq f a b s=some (ak (g b) (fst c a b)):=by
 subst o;unfold kq fst;have:=X5 g c (b-a).toNat a (fun i q w u=>h i q (by omega) u)
 grind
variable{α:Type}
variable{e:Int}
theorem Dp{X:a6}{Y:Int}(h:e=0->X=some Y):(if(!decide (e=0))=true then some e else X)=some (if e≠0 then e else Y):=by grind
variable{v:α}{X:Option α}{Y:α}
theorem FK(h:e=0->X=some Y):(if(!decide (e=0))=true then some v else X)=some (if e≠0 then v else Y):=by grind
variable{P:Prop}
theorem Nu[Decidable P]{b:Bool}(d:b=true↔P)(h:¬P->X=some Y):(if b=true then some v else X)=some (if P then v else Y):=by grind
theorem UV{b:Bool}(h:b=true->X=some Y):(if(!b)=true then some v else X)=some (if b=false then v else Y):=by grind
theorem dg{b:Bool}(h:b=false->X=some Y):(if b=true then some v else X)=some (if b=true then v else Y):=by grind
end Go.Sf
namespace Go.Sf.Sc
open Go Go.Sf
def Pt(t:ej)(p:ed)(s:Bv):Bool:=!(PQ t p s.p0 s.mh).2||decide (s.kg.Var< -1)||decide (p.fq<=s.kg.Var)||(decide (s.kg.Add< -1000000)||decide (1000000<s.kg.Add))
def Gc(p:ed)(v:Int):Bool:=p.ff.any fun s=>decide (s.kg.Var=v)
def EG(t:ej)(p:ed):Int:=
 if (A1 t).2≠0 then(A1 t).2 else if Bn p.d6≠0 then Bn p.d6 else if CW t p.d6=false then 13 else
 if p.fq<0\/12<p.fq then 6 else if 10<p.ff.length\/10<p.ns.length then 3 else
 if (p.ff.any (Pt t p))=true then 6 else if Hp p.fq p.ns≠0 then Hp p.fq p.ns else
 if n8 (fun v=>!Gc p v) 0 p.fq=true then 9 else 0
def I8(p:ed)(i:Int):ae:=(List.range p.fq.toNat).map fun(v:Nat)=>(p.ff.take i.toNat).any fun s=>decide (s.kg.Var=(v:Int))
variable{p:ed}
theorem dE:I8 p 0=List.replicate p.fq.toNat false:=by
 unfold I8;refine List.ext_getElem (by simp) (fun n d f=>by simp)
theorem gK(p:ed)(i:Int):(I8 p i).length=p.fq.toNat:=by simp[I8]
variable{i:Int}
theorem gL(d:0<=i)(f:i<p.ff.length)(hv:0<=(AA p.ff i).kg.Var):BN (I8 p i) (AA p.ff i).kg.Var true=I8 p (i+1):=by
 unfold BN;refine List.ext_getElem (by simp[I8]) (fun n h j=>?_);simp[I8,B3 d f]
 grind
theorem dB(d:0<=i)(f:i<p.ff.length)(hv:(AA p.ff i).kg.Var<0):I8 p i=I8 p (i+1):=by
 refine List.ext_getElem (by simp[I8]) (fun n h j=>?_);simp[I8,B3 d f]
 grind
theorem gJ(p:ed):((I8 p p.ff.length).any fun x=>false==x)=n8 (fun v=>!Gc p v) 0 p.fq:=by
 rw [Bool.eq_iff_iff,List.any_eq_true,Cf];simp only[I8,Int.toNat_natCast,List.take_length,List.mem_map,List.mem_range];constructor
 .rintro⟨x,⟨v,hv,rfl⟩,d⟩;refine⟨v,by omega,by omega,?_⟩
  grind [Gc]
 .rintro⟨v,f,h,d⟩;refine⟨_,⟨v.toNat,by omega,rfl⟩,?_⟩
  grind [Int.toNat_of_nonneg,Gc]
theorem l6{α ρ:Type}[Inhabited α]{l:List α}{q:α->Bool}{v:ρ}:fst (fun i=>if q (AA l i)=true then some v else none) 0 l.length=if l.any q=true then some v else none:=by
 rw [Nx,IF]
variable{t:ej}
theorem U6(hf:A6 t)(p:ed):C2 t p=some (EG t p):=by
 unfold C2 EG;rw[Lu hf,bs,KW,bs];refine Dp fun F=>Dp fun D=>?_;have x:=Cp D;have e:((Ay p.d6.d5 (fun d=>GN d t)).bind fun o=>
   (if o=true then some true else((BV p.d6.d7 (fun d=>GO d t)).bind fun q=>some (q))))=some (!CW t p.d6):=by
  unfold CW;rw[show(fun d=>GN d t)=(fun(n:Int)=>some (decide (t.d5.length<=n)))from rfl,Xo,show(fun d=>GO d t)=(fun(e:Bc)=>some (decide (t.d7.length<=e.mt)))from rfl,Zw];simp only[bs];cases p.d6.d5.any fun n=>decide (t.d5.length<=n)<;>simp
 rw [<-Option.bind_assoc,e,bs];refine UV fun E=>?_;unfold CZ;simp only[bs];refine Nu (by simp;try omega) fun hv=>Nu (by simp;try omega) fun G=>?_;unfold J1;rw[az (by omega),bs,<-dE,AV (show -9223372036854775808<=p.fq-1 by omega) (by omega),M7 (I8 p) (fun i=>if Pt t p (AA p.ff i)=true then some 6 else none) (by omega) rfl,l6]
 .cases f:p.ff.any (Pt t p)
  .simp only[Bool.false_eq_true,if_false,ak,B6,me,bs,ls,gJ];by_cases h:Hp p.fq p.ns=0
   .simp[h];cases n8 (fun v=>!Gc p v) 0 p.fq<;>rfl
   .simp[h]
  .rfl
 .intro i u w _;rw[AC u w,bs,mV hf x,bs];unfold Pt;by_cases f:(PQ t p (AA p.ff i).p0 (AA p.ff i).mh).2=true
  .by_cases C:(AA p.ff i).kg.Var< -1\/p.fq<=(AA p.ff i).kg.Var
   .have y:(decide (-1<=(AA p.ff i).kg.Var)&&decide ((AA p.ff i).kg.Var<=p.fq-1))=false:=by rw[Bool.eq_false_iff];simp;omega
    have z:(decide ((AA p.ff i).kg.Var< -1)||decide (p.fq<=(AA p.ff i).kg.Var))=true:=by simp;omega
    rw [f,y,Bool.or_assoc (!true),z];rfl
   .have y:(decide (-1<=(AA p.ff i).kg.Var)&&decide ((AA p.ff i).kg.Var<=p.fq-1))=true:=by simp;omega
    have z:(decide ((AA p.ff i).kg.Var< -1)||decide (p.fq<=(AA p.ff i).kg.Var))=false:=by rw[Bool.eq_false_iff];simp;omega
    rw [f,y,Bool.or_assoc (!true),z];by_cases H:(AA p.ff i).kg.Add< -1000000\/1000000<(AA p.ff i).kg.Add
    .have A:(decide (-1000000<=(AA p.ff i).kg.Add)&&decide ((AA p.ff i).kg.Add<=1000000))=false:=by rw[Bool.eq_false_iff];simp;omega
     have B:(decide ((AA p.ff i).kg.Add< -1000000)||decide (1000000<(AA p.ff i).kg.Add))=true:=by simp;omega
     rw [A,B];rfl
    .have A:(decide (-1000000<=(AA p.ff i).kg.Add)&&decide ((AA p.ff i).kg.Add<=1000000))=true:=by simp;omega
     have B:(decide ((AA p.ff i).kg.Add< -1000000)||decide (1000000<(AA p.ff i).kg.Add))=false:=by rw[Bool.eq_false_iff];simp;omega
     rw [A,B];by_cases j:0<=(AA p.ff i).kg.Var
     .simp[j,decide_true];rw[AC j (by rw[gK];omega),bs,gL u w j];rfl
     .simp[j,decide_false];rw[dB u w (by omega)];rfl
  .rw[Bool.not_eq_true]at f;rw[f];rfl
theorem lJ(p:ed)(v:Int):J8 p v=some (Gc p v):=by
 unfold J8 Gc;rw[Br (fun i=>decide ((AA p.ff i).kg.Var=v)) true,IF]
 .cases n8 (fun i=>decide ((AA p.ff i).kg.Var=v)) 0 p.ff.length<;>rfl
 .intro i d f _;rw[AC d f,bs,Kl]
theorem cU(hf:A6 t)(p:ed):H2 t p=some (EG t p):=by
 unfold H2 EG;rw[On hf,bs,KX,bs];refine Dp fun u=>Dp fun o=>?_;have f:=Cp o;rw[Vm f,bs];refine UV fun q=>Nu (by simp;try omega) fun hv=>Nu (by simp;try omega) fun w=>?_;rw[Br (fun i=>Pt t p (AA p.ff i)) 6,<-IF]
 .cases x:p.ff.any (Pt t p)
  .simp only[Bool.false_eq_true,if_false,B6,nD,bs];by_cases d:Hp p.fq p.ns=0
   .simp only[d];rw[Br (fun v=>!Gc p v) 9]
    .cases n8 (fun v=>!Gc p v) 0 p.fq<;>rfl
    .intro i h j _;rw[lJ,bs,Kl]
   .simp[d]
  .rfl
 .intro i h j _;rw[AC h j,bs,mq hf,bs];unfold Pt LT
  grind
def LX(t:ej)(p:ed)(i:Int):Int:=
 let s:=AA p.ff i
 if s.p0<0\/p.d6.d5.length<=s.p0 then 6 else
 let l:=(EU t (AA p.d6.d5 s.p0)).1
 if ((((((decide (s.mh<0))||(decide ((l.length:Int)<=s.mh)))||(decide (s.kg.Var<(-1))))||(decide (p.fq<=s.kg.Var)))||(decide (s.kg.Add<(-1000000))))||(decide (1000000<s.kg.Add)))=true then 6 else
 if n8 (fun j=>(decide ((AA p.ff j).p0=s.p0))&&(decide ((AA p.ff j).mh=s.mh))) 0 i=true then 5 else 0
theorem pZ(hf:A6 t)(r:hO)(d:0<=i)(f:i<r.gn.ff.length):KD t r i=some (LX t r.gn i):=by
 unfold KD LX;dsimp only;rw[AC d f,bs];refine Nu (by simp) fun h=>?_;rw[AC (by omega) (by omega),bs,Qq hf,bs,Fm d (by omega),bs,
  show (fun j=>Nl j (AA r.gn.ff i))=(fun y=>some ((decide (y.p0=(AA r.gn.ff i).p0))&&(decide (y.mh=(AA r.gn.ff i).mh))))from rfl,Zx,bs,Ow d (by omega)]
 grind
theorem p5(hf:A6 t)(p:ed)(d:0<=i)(f:i<p.ff.length):Md t p i=some (LX t p i):=by
 unfold Md LX;dsimp only;rw[AC d f,bs];refine Nu (by simp) fun h=>?_;rw[AC (by omega) (by omega),bs,Om hf,bs,
  Br (fun j=>(decide ((AA p.ff j).p0=(AA p.ff i).p0))&&(decide ((AA p.ff j).mh=(AA p.ff i).mh))) 5]
 .refine dg fun _=>?_;cases n8 (fun j=>(decide ((AA p.ff j).p0=(AA p.ff i).p0))&&(decide ((AA p.ff j).mh=(AA p.ff i).mh))) 0 i<;>rfl
 grind [AC,AA,mh]
def Hj(t:ej)(r:hO):Int:=
 if Bn r.gn.d6≠0 then Bn r.gn.d6 else if CW t r.gn.d6=false then 13 else
 if r.gn.fq≠r.kl.fq\/0<r.gn.ns.length then 1 else if 10<r.gn.ff.length then 3 else
 (fst (fun i=>nz (LX t r.gn i)) 0 r.gn.ff.length).getD 0
theorem mc(hf:A6 t)(r:hO):Ix t r=some (Hj t r):=by
 unfold Ix Hj;rw[KW,bs,mf,bs,Bb (fun i=>nz (LX t r.gn i)),Cc]
 .grind
 grind [pZ,Kw]
theorem nA(hf:A6 t)(r:hO):LC t r=some (Hj t r):=by
 unfold LC Hj;rw[KX,bs];refine Dp fun d=>?_;rw[Vm (Cp d),bs,Bb (fun i=>nz (LX t r.gn i)),Cc]
 .grind
 grind [p5,Kw]
end Go.Sf.Sc
namespace Go.Sf
variable{a b:Int}
theorem bf{ρ:Type}{c d:Int->Option ρ}(h:∀i,c i=d i):fst c a b=fst d a b:=by rw[funext h]
def EE(l:Fp)(v:Int):Int:=(fst (fun i=>if decide (v=AA l i)=true then some i else none) 0 l.length).getD (-1)
variable{l:Fp}
theorem HD{v:Int}(h:v∈l):0<=EE l v/\EE l v<l.length/\AA l (EE l v)=v/\∀j,0<=j->j<EE l v->AA l j≠v:=by
 unfold EE;cases hf:fst (fun i=>if decide (v=AA l i)=true then some i else none) 0 l.length with
 |none=>
  grind [Bh,A5]
 |some k=>
  grind [DT,AA]
variable{R:Int->Int->Prop}
theorem Gh(h:l.Pairwise R){i j:Int}(d:0<=i)(f:i<j)(o:j<l.length):R (AA l i) (AA l j):=by grind[List.pairwise_iff_getElem,AA,List.getElem?_eq_getElem]
theorem TP(h:∀i j:Int,0<=i->i<j->j<l.length->R (AA l i) (AA l j)):l.Pairwise R:=by
 refine List.pairwise_iff_getElem.2 (fun i j d f o=>?_);have:=h i j (by omega) (by omega) (by omega);unfold AA at this
 grind
theorem Tp(u:l.Pairwise (·<·)){v:Int}(h:v∈l):(l.countP (fun x=>decide (x<v)):Int)=EE l v:=by
 obtain ⟨w,y,o,_⟩:=HD h;generalize E:EE l v=k at w y o;have e:l=l.take k.toNat++l.drop k.toNat:=(List.take_append_drop _ _).symm;have z:(l.take k.toNat).countP (fun x=>decide (x<v))=k.toNat:=by
  rw [List.countP_eq_length.2 (fun x d=>?_),ca]
  .omega
  .obtain⟨i,C,D,rfl⟩:=Bh d;rw[ca]at D;rw[Oi (by omega),zzX,<-o];exact Gh u C (by omega) y
 have A:(l.drop k.toNat).countP (fun x=>decide (x<v))=0:=by
  rw [List.countP_eq_zero];intro x d;obtain⟨n,q⟩:=List.getElem?_of_mem d;rw[List.getElem?_drop]at q;have B:=(List.getElem?_eq_some_iff.1 q).1;have f:x=AA l (k+n):=by
   unfold AA;rw[List.getD_eq_getElem?_getD,show(k+(n:Int)).toNat=k.toNat+n by omega,q];rfl
  rw [zzX,f,<-o];by_cases j:n=0
  .subst j;simp
  .have:=Gh u w (show k<k+(n:Int)by omega) (by omega);omega
 rw [e,List.countP_append,z,A];omega
end Go.Sf
namespace Go.Sf.Sc
open Go Go.Sf
theorem mF(l:Fp)(n:Int):(fl (kq (ρ:=Int) (fun(h:Int)(_:Unit)=>
 (idx l h).bind fun d=>
 if (decide (d=n))=true then
 some (.ret h)
 else
 some (.next ())) 0 (l.length:Int) ()) (fun _=>
 some (-1)) (fun j=>some j))=some (EE l n):=by
 have:=Tt (l:=l) (f:=fun x=>some (decide (x=n))) (p:=fun x=>decide (x=n)) (fun _ _=>rfl);simp only[bs]at this;rw[this];unfold EE;congr 2;exact bf fun i=>by simp[eq_comm]
theorem pw(l:Fp)(v:Int):Hz l v=some (EE l v):=mF l v
def hasB(l:Fp)(v:Int):Bool:=l.any fun x=>decide (v=x)
variable{l:Fp}
theorem CR{v:Int}:hasB l v=true↔v∈l:=by
 unfold hasB
 grind
theorem YA(l:Fp)(n:Int):(fl (kq (ρ:=Bool) (fun(f:Int)(_:Unit)=>
 (idx l f).bind fun d=>
 if (decide (d=n))=true then
 some (.ret true)
 else
 some (.next ())) 0 (l.length:Int) ()) (fun _=>
 some false) (fun h=>some h))=some (hasB l n):=by
 unfold hasB;rw[Br (fun i=>decide (n=AA l i)) true,IF]
 .cases n8 (fun i=>decide (n=AA l i)) 0 l.length<;>rfl
 .intro i j o _;rw[AC j o,bs,Kl];simp[eq_comm]
theorem mz(l:Fp)(v:Int):Pk l v=some (hasB l v):=YA l v
theorem my(l:Fp)(v:Int):N7 l v=some (hasB l v):=YA l v
def M1(l:Fp)(n:Int):Int:=(fst (fun i=>if AA l i<0\/n<=AA l i then some 6 else if 0<i/\AA l i<=AA l (i-1)then some 12 else none) 0 l.length).getD 0
theorem k8(q:l.length<=1000)(n:Int):HL l n=some (M1 l n):=by
 unfold HL M1;rw[Bb (fun i=>if AA l i<0\/n<=AA l i then some 6 else if 0<i/\AA l i<=AA l (i-1)then some 12 else none),Cc];intro i j o _;rw[AC j o,bs];by_cases h:AA l i<0\/n<=AA l i
 .rw[az (by simpa using h),az h];rfl
 .rw[b6 (by simpa using h),b6 h];by_cases d:0<i
  .rw[az (by simpa using d),AV (by omega) (by omega),AC (by omega) (by omega),bs,bs];by_cases f:AA l i<=AA l (i-1)
   .rw[az (by simpa using f),az ⟨d,f⟩];rfl
   .rw[b6 (by simpa using f),b6 (fun h=>f h.2)];rfl
  .rw[b6 (by simpa using d),bs,b6 (by decide),b6 (fun h=>d h.1)];rfl
theorem lF(u:l.length<=1000)(n:Int):GE l n=some (M1 l n):=by
 unfold GE M1;rw[Bb (fun i=>if AA l i<0\/n<=AA l i then some 6 else if 0<i/\AA l i<=AA l (i-1)then some 12 else none),Cc];intro i j o _;rw[AC j o];simp only[bs];by_cases h:AA l i<0\/n<=AA l i
 .have:(if decide (AA l i<0)=true then some true else some (decide (n<=AA l i)))=some true:=by
   rcases h with h|h
   .simp[h]
   .by_cases q:AA l i<0<;>simp[h,q]
  rw [this,bs,az rfl,az h];rfl
 .have:(if decide (AA l i<0)=true then some true else some (decide (n<=AA l i)))=some false:=by
   rw [b6 (by simp;omega),decide_eq_false (by omega)]
  rw [this,bs,b6 (by decide),b6 h];by_cases d:0<i
  .rw[az (by simpa using d),AV (by omega) (by omega),AC (by omega) (by omega),bs,bs];by_cases f:AA l i<=AA l (i-1)
   .rw[az (by simpa using f),az ⟨d,f⟩];rfl
   .rw[b6 (by simpa using f),b6 (fun h=>f h.2)];rfl
  .rw[b6 (by simpa using d),bs,b6 (by decide),b6 (fun h=>d h.1)];rfl
variable{a b:Int}
theorem PZ{c:Int->a6}(d:∀i,c i≠some 0)(h:(fst c a b).getD 0=0):∀i,a<=i->i<b->c i=none:=by
 have:fst c a b=none:=by
  cases hf:fst c a b with
  |none=>rfl|some r=>
   grind [Option.getD,DT]
 exact A5.1 this
variable{n:Int}
theorem Rx(h:M1 l n=0):(∀x∈l,0<=x/\x<n)/\l.Pairwise (·<·):=by
 have y:=PZ (c:=fun i=>if AA l i<0\/n<=AA l i then some 6 else if 0<i/\AA l i<=AA l (i-1)then some 12 else none) (fun i=>by
  split
  .simp
  .split<;>simp) h
 have f:∀i:Int,0<=i->i<l.length->(0<=AA l i/\AA l i<n)/\(0<i->AA l (i-1)<AA l i):=by
  intro i o w;have:=y i o w;split at this
  .cases this
  .split at this
   .cases this
   .omega
 refine ⟨fun x q=>?_,TP (fun i j o d u=>?_)⟩
 .obtain⟨i,z,A,rfl⟩:=Bh q;exact(f i z A).1
 .obtain⟨k,B⟩:∃k:Nat,j=i+1+k:=⟨(j-i-1).toNat,by omega⟩;subst B;clear d
  induction k with
  |zero=>
   have:=(f (i+1) (by omega) (by omega)).2 (by omega);rw[show i+1-1=i by omega]at this;simpa using this
  |succ k C=>
   have a:=C (by omega);have b:=(f (i+1+((k+1:Nat):Int)) (by omega) u).2 (by omega);rw[show i+1+((k+1:Nat):Int)-1=i+1+k by omega]at b;omega
theorem RY(f:l.length<=1000)(d:l.Pairwise (·<·))(v:Int):slices_BinarySearch_int l v=some (((l.countP (fun x=>decide (x<v)):Nat):Int),hasB l v):=by
 unfold slices_BinarySearch_int;rw[az ⟨by unfold AZ;omega,d.imp (fun h=>by omega)⟩];congr 2;rw[Bool.eq_iff_iff,CR,List.contains_iff_mem]
def LS(g:d6)(p:Bo):Int:=
 if M1 p.d5 g.d5.length≠0 then M1 p.d5 g.d5.length else if M1 p.d7 g.d7.length≠0 then M1 p.d7 g.d7.length else
 (fst (fun i=>if(hasB p.d5 (AA g.d7 (AA p.d7 i)).nd&&hasB p.d5 (AA g.d7 (AA p.d7 i)).To)=true then none else some 14) 0 p.d7.length).getD 0
structure Ns(g:d6)(p:Bo):Prop where
 ek:(∀x∈p.d5,0<=x/\x<g.d5.length)/\p.d5.Pairwise (·<·)
 em:(∀x∈p.d7,0<=x/\x<g.d7.length)/\p.d7.Pairwise (·<·)
 ends:∀x∈p.d7,(AA g.d7 x).nd∈p.d5/\(AA g.d7 x).To∈p.d5
variable{g:d6}
theorem Sd{p:Bo}(h:LS g p=0):Ns g p:=by
 unfold LS at h;split at h
 .omega
 .split at h
  .omega
  .rename_i q u;refine⟨Rx (by omega),Rx (by omega),fun x f=>?_⟩;obtain⟨i,j,o,rfl⟩:=Bh f;have:=PZ (c:=fun i=>if(hasB p.d5 (AA g.d7 (AA p.d7 i)).nd&&hasB p.d5 (AA g.d7 (AA p.d7 i)).To)=true then none else some 14) (fun i=>by
    split<;>simp) h i j o
   split at this
   .rename_i d;rw[tg,CR,CR]at d;exact d
   .cases this
def Dt(g:d6)(p:Bo):Int:=if Bn g≠0 then Bn g else LS g p
structure Qz(p:Bo):Prop where
 ek:p.d5.length<=1000
 em:p.d7.length<=1000
theorem aO{p:Bo}(d:Qz p):Ec g p=some (Dt g p):=by
 unfold Ec Dt;rw[KW,bs];refine Dp fun o=>?_;have w:=Cp o;unfold LY LS;rw[k8 d.ek,bs,k8 d.em,bs,Option.bind_fun_some];refine Dp fun q=>Dp fun u=>?_;obtain⟨a1,a2⟩:=Rx q;obtain⟨x,y⟩:=Rx u;rw[Bb (fun i=>if(hasB p.d5 (AA g.d7 (AA p.d7 i)).nd&&hasB p.d5 (AA g.d7 (AA p.d7 i)).To)=true then none else some 14),Cc];intro i f h _;have j:=x _ (AF f h);unfold KI;rw[AC f h,bs,AC j.1 j.2];simp[RY d.ek a2];cases hasB p.d5 (AA g.d7 (AA p.d7 i)).nd<;>cases hasB p.d5 (AA g.d7 (AA p.d7 i)).To<;>rfl
theorem aZ{p:Bo}(d:Qz p):JS g p=some (Dt g p):=by
 unfold JS Dt;rw[KX,bs];refine Dp fun o=>?_;have u:=Cp o;unfold Nd LS;rw[lF d.ek,bs,lF d.em,bs,Option.bind_fun_some];refine Dp fun x=>Dp fun q=>?_;obtain⟨w,y⟩:=Rx q;rw[Bb (fun i=>if(hasB p.d5 (AA g.d7 (AA p.d7 i)).nd&&hasB p.d5 (AA g.d7 (AA p.d7 i)).To)=true then none else some 14),Cc];intro i f h _;have j:=w _ (AF f h);rw[AC f h,bs,AC j.1 j.2];simp[my];cases hasB p.d5 (AA g.d7 (AA p.d7 i)).nd<;>cases hasB p.d5 (AA g.d7 (AA p.d7 i)).To<;>rfl
def Cx(g:d6)(p:Bo):d6:=⟨p.d5.map (AA g.d5),p.d7.map fun x=>⟨(AA g.d7 x).mt,EE p.d5 (AA g.d7 x).nd,EE p.d5 (AA g.d7 x).To⟩⟩
variable{i:Int}
theorem JE{α:Type}{f:Int->α}(d:0<=i)(h:i<l.length):(l.take (i+1).toNat).map f=(l.take i.toNat).map f++[f (AA l i)]:=by grind[B3]
theorem RJ(z:l.length<=1000)(h:∀x∈l,0<=x/\x<g.d5.length)(es:List Bc):(pq (fun(y:Int)(u:d6)=>
 (idx l y).bind fun d=>
 (idx g.d5 d).bind fun f=>
 (Au u.d5 [f]).bind fun j=>
 some (d6.mk j u.d7)) 0 (l.length:Int) (d6.mk [] es))=some (d6.mk (l.map (AA g.d5)) es):=by
 rw [Bz (fun i=>d6.mk ((l.take i.toNat).map (AA g.d5)) es) (by omega) (by simp)]
 .rw[Int.toNat_natCast,List.take_length]
 .intro i o q;have w:=h _ (AF o q);rw[AC o q,bs,AC w.1 w.2,bs,AY (by simp;unfold AZ;omega),bs,JE o q]
theorem Uk(B:l.length<=1000)(h:∀x∈l,0<=x/\x<g.d7.length)(o:Fp)(F:Bc->Bc){f:Bc->List Bc->Option (List Bc)}(hf:∀x∈l,∀s,s.length<=1000->f (AA g.d7 x) s=some (s++[F (AA g.d7 x)])):(pq (fun(A:Int)(y:d6)=>
 (idx l A).bind fun q=>
 (idx g.d7 q).bind fun u=>
 (f u y.d7).bind fun w=>
 some (d6.mk y.d5 w)) 0 (l.length:Int) (d6.mk o []))=some (d6.mk o (l.map fun x=>F (AA g.d7 x))):=by
 rw [Bz (fun i=>d6.mk o ((l.take i.toNat).map fun x=>F (AA g.d7 x))) (by omega) (by simp)]
 .rw[Int.toNat_natCast,List.take_length]
 .intro i d j;have z:=h _ (AF d j);rw[AC d j,bs,AC z.1 z.2,bs,hf _ (AF d j) _ (by simp;omega),bs,JE d j]
theorem eX{p:Bo}(d:Qz p):ER g p=some (if Dt g p≠0 then(⟨[],[]⟩,⟨[],[]⟩,Dt g p)else(Cx g p,⟨p.d5,p.d7⟩,0)):=by
 unfold ER;rw[aO d,bs];refine FK fun h=>?_;have w:Bn g=0/\LS g p=0:=by
  grind [Dt]
 have ho:=Sd w.2;rw[RJ d.ek ho.ek.1,bs];have:=Uk (g:=g) (l:=p.d7) d.em ho.em.1 (p.d5.map (AA g.d5)) (fun x=>⟨x.mt,EE p.d5 x.nd,EE p.d5 x.To⟩) (f:=fun j s=>
  (slices_BinarySearch_int p.d5 j.nd).bind fun o=>
  (slices_BinarySearch_int p.d5 j.To).bind fun q=>
  Au s [Bc.mk j.mt o.1 q.1]) (fun x u s y=>by
   have he:=ho.ends x u;rw[RY d.ek ho.ek.2,bs,RY d.ek ho.ek.2,bs,AY (by simp;unfold AZ;omega),Tp ho.ek.2 he.1,Tp ho.ek.2 he.2])
 simp [Option.bind_assoc]at this;rw[this,bs];unfold slices_Clone_int;have z:=d.ek;have A:=d.em;rw[Bq (by unfold AZ;omega),bs,Bq (by unfold AZ;omega)];rfl
theorem Wl{p:Bo}(j:Qz p):HF g p=some (if Dt g p≠0 then(⟨[],[]⟩,⟨[],[]⟩,Dt g p)else(Cx g p,⟨p.d5,p.d7⟩,0)):=by
 unfold HF;rw[aZ j,bs];refine FK fun h=>?_;have u:Bn g=0/\LS g p=0:=by
  grind [Dt]
 have ho:=Sd u.2;rw[RJ j.ek ho.ek.1,bs];have:=Uk (g:=g) (l:=p.d7) j.em ho.em.1 (p.d5.map (AA g.d5)) (fun x=>⟨x.mt,EE p.d5 x.nd,EE p.d5 x.To⟩) (f:=fun d s=>
  (Hz p.d5 d.nd).bind fun o=>
  (Hz p.d5 d.To).bind fun q=>
  Au s [Bc.mk d.mt o q]) (fun x w s y=>by
   grind [pw,AY,AZ])
 simp [Option.bind_assoc]at this;rw[this,bs];have z:=j.ek;have A:=j.em;rw[Bq (by unfold AZ;omega),bs,Bq (by unfold AZ;omega)];rfl
end Go.Sf.Sc
namespace Go.Sf.Sc
open Go Go.Sf
def J0(a b:d6)(m:eb)(i:Int):a6:=
 if AA m.d5 i<0\/b.d5.length<=AA m.d5 i then some 6 else if AA b.d5 (AA m.d5 i)≠AA a.d5 i then some 13 else none
def Gu(a b:d6)(m:eb)(i:Int):a6:=
 if AA m.d7 i<0\/b.d7.length<=AA m.d7 i then some 6 else
 if (AA a.d7 i).mt≠(AA b.d7 (AA m.d7 i)).mt then some 13 else
 if AA m.d5 (AA a.d7 i).nd≠(AA b.d7 (AA m.d7 i)).nd\/AA m.d5 (AA a.d7 i).To≠(AA b.d7 (AA m.d7 i)).To then some 11 else none
def Hw(a b:d6)(m:eb):Int:=
 if Bn a≠0 then Bn a else if Bn b≠0 then Bn b else if m.d5.length≠a.d5.length\/m.d7.length≠a.d7.length then 20 else
 match fst (J0 a b m) 0 m.d5.length with
 |some e=>e|none=>(fst (Gu a b m) 0 m.d7.length).getD 0
structure Q0(a b:d6)(m:eb):Prop where
 ga:CN a
 gb:CN b
 AaH:m.d5.length=a.d5.length
 AaN:m.d7.length=a.d7.length
 node:∀i:Int,0<=i->i<m.d5.length->(0<=AA m.d5 i/\AA m.d5 i<b.d5.length)/\AA b.d5 (AA m.d5 i)=AA a.d5 i
 edge:∀i:Int,0<=i->i<m.d7.length->(0<=AA m.d7 i/\AA m.d7 i<b.d7.length)/\(AA a.d7 i).mt=(AA b.d7 (AA m.d7 i)).mt/\
  AA m.d5 (AA a.d7 i).nd=(AA b.d7 (AA m.d7 i)).nd/\AA m.d5 (AA a.d7 i).To=(AA b.d7 (AA m.d7 i)).To
variable{m:eb}
theorem Ut{a b:d6}(h:Hw a b m=0):Q0 a b m:=by
 unfold Hw at h;split at h
 .omega
 split at h
 .omega
 split at h
 .cases h
 rename_i o q u;have j:fst (J0 a b m) 0 m.d5.length=none:=by
  grind [DT,J0]
 rw [j]at h;have he:=PZ (fun i=>by
  grind [Gu]) h
 refine ⟨Cp (by omega),Cp (by omega),by omega,by omega,fun i d f=>?_,fun i d f=>?_⟩
 .grind[A5,J0]
 grind [Gu]
theorem XK(a b:d6)(m:eb):DH a b m=some (Hw a b m):=by
 unfold DH Hw;rw[KW,bs,KW,bs];refine Dp fun u=>Dp fun w=>Nu (by simp;try omega) fun z=>?_;have ga:=Cp u;have gb:=Cp w;rw[Bb (J0 a b m),DN]
 .cases x:fst (J0 a b m) 0 m.d5.length with
  |some e=>rfl|none=>
   have y:=A5.1 x;dsimp only;rw[Bb (Gu a b m),Cc];intro i h q _;unfold Gu;rw[AC h q,bs];by_cases d:AA m.d7 i<0\/b.d7.length<=AA m.d7 i
   .rw[az (by simpa using d),az d];rfl
   .have hf:=ga.fit _ (AF (l:=a.d7) h (by omega));rw[b6 (by simpa using d),b6 d,AC h (by omega),bs,AC (by omega) (by omega),bs];by_cases f:(AA a.d7 i).mt=(AA b.d7 (AA m.d7 i)).mt
    .rw[b6 (by simpa using f),b6 (by simpa using f),AC (by omega) (by omega),bs];by_cases j:AA m.d5 (AA a.d7 i).nd=(AA b.d7 (AA m.d7 i)).nd
     .rw[b6 (by simpa using j),AC (by omega) (by omega),bs,bs];by_cases o:AA m.d5 (AA a.d7 i).To=(AA b.d7 (AA m.d7 i)).To
      .rw[b6 (by simpa using o),b6 (by simp[j,o])];rfl
      .rw[az (by simpa using o),az (.inr o)];rfl
     .rw[az (by simpa using j),bs,az rfl,az (.inl j)];rfl
    .rw[az (by simpa using f),az f];rfl
 .intro i h q _;unfold J0;rw[AC h q,bs];by_cases d:AA m.d5 i<0\/b.d5.length<=AA m.d5 i
  .rw[az (by simpa using d),az d];rfl
  .rw[b6 (by simpa using d),b6 d,AC (by omega) (by omega),bs,AC h (by omega),bs];by_cases f:AA b.d5 (AA m.d5 i)=AA a.d5 i
   .rw[b6 (by simpa using f),b6 (by simpa using f)];rfl
   .rw[az (by simpa using f),az f];rfl
theorem YR{x y:Prop}[Decidable x][Decidable y]:(if decide x=true then some true else some (decide y))=some (decide (x\/y)):=by grind
theorem cT(a b:d6)(m:eb):Hy a b m=some (Hw a b m):=by
 unfold Hy Hw;rw[KX,bs,KX,bs];refine Dp fun u=>Dp fun w=>Nu (by simp;try omega) fun z=>?_;have ga:=Cp u;have gb:=Cp w;rw[show(a.d5.length:Int)=m.d5.length by omega,show(a.d7.length:Int)=m.d7.length by omega,Bb (J0 a b m),DN]
 .cases x:fst (J0 a b m) 0 m.d5.length with
  |some e=>rfl|none=>
   have y:=A5.1 x;dsimp only;rw[Bb (Gu a b m),Cc];intro i h q _;unfold Gu;rw[AC h q];simp only[bs,YR];by_cases d:AA m.d7 i<0\/b.d7.length<=AA m.d7 i
   .rw[az (by simpa using d),az d];rfl
   .have hf:=ga.fit _ (AF (l:=a.d7) h (by omega));rw[b6 (by simpa using d),b6 d,AC h (by omega),bs,AC (by omega) (by omega),bs];by_cases f:(AA a.d7 i).mt=(AA b.d7 (AA m.d7 i)).mt
    .rw[b6 (by simpa using f),b6 (by simpa using f),AC (by omega) (by omega),bs];by_cases j:AA m.d5 (AA a.d7 i).nd=(AA b.d7 (AA m.d7 i)).nd
     .rw[b6 (by simpa using j),AC (by omega) (by omega),bs,bs];by_cases o:AA m.d5 (AA a.d7 i).To=(AA b.d7 (AA m.d7 i)).To
      .rw[b6 (by simpa using o),b6 (by simp[j,o])];rfl
      .rw[az (by simpa using o),az (.inr o)];rfl
     .rw[az (by simpa using j),bs,az rfl,az (.inl j)];rfl
    .rw[az (by simpa using f),az f];rfl
 .intro i h q _;unfold J0;rw[AC h q];simp only[bs,YR];by_cases d:AA m.d5 i<0\/b.d5.length<=AA m.d5 i
  .rw[az (by simpa using d),az d];rfl
  .rw[b6 (by simpa using d),b6 d,AC (by omega) (by omega),bs,AC h (by omega),bs];by_cases f:AA b.d5 (AA m.d5 i)=AA a.d5 i
   .rw[b6 (by simpa using f),b6 (by simpa using f)];rfl
   .rw[az (by simpa using f),az f];rfl
def Jc(l:Fp):Bool:=!n8 (fun i=>n8 (fun j=>decide (AA l i=AA l j)) 0 i) 0 l.length
variable{l:Fp}
theorem Io:Jc l=true↔l.Nodup:=by grind[Jc,Bool.not_eq_true',Bk,TP,Gh]
theorem cR(l:Fp):EZ l=some (Jc l):=by
 unfold EZ Jc;rw[Br (fun i=>n8 (fun j=>decide (AA l i=AA l j)) 0 i) false]
 .cases n8 (fun i=>n8 (fun j=>decide (AA l i=AA l j)) 0 i) 0 l.length<;>rfl
 .intro i d f _;rw[Br (fun j=>decide (AA l i=AA l j)) false]
  .cases n8 (fun j=>decide (AA l i=AA l j)) 0 i<;>rfl
  .intro j h o _;rw[AC d f,bs,AC h (by omega),bs,Kl]
theorem YW(f:l.length<=1000):∃k,GB l=some k/\decide (k=(l.length:Int))=Jc l:=by
 have d:(Pc l).length=l.length:=(OV l).length_eq;refine⟨((Go.Lib.compact (Pc l)).length:Int),?_,?_⟩
 .grind[GB,slices_Clone_int,slices_Sort_int,slices_Compact_int,Bq,AZ]
 .rw[Bool.eq_iff_iff,Io,zzX,<-(OV l).nodup_iff,<-Rl (O3 l),d];omega
def Hv(m:eb):Bool:=Jc m.d5&&Jc m.d7
theorem k9{a b:d6}(h:Hw a b m=0):C6 a b m=some (Hv m):=by
 have ho:=Ut h;have:=ho.ga.ek;have:=ho.ga.em;have:=ho.AaH;have:=ho.AaN;obtain⟨k,d,f⟩:=YW (l:=m.d5) (by omega);obtain⟨j,o,q⟩:=YW (l:=m.d7) (by omega);unfold C6 Hv;rw[XK,h,bs,az (decide_eq_true rfl),d];simp[o,f,q];cases Jc m.d5<;>rfl
theorem si{a b:d6}(h:Hw a b m=0):Hg a b m=some (Hv m):=by grind[Hg,Hv,cT,cR,Jc]
def NS(r:hO):Int:=
 if Dt r.kl.d6 r.tl≠0 then Dt r.kl.d6 r.tl else
 if Hw (Cx r.kl.d6 r.tl) r.gn.d6 r.sr≠0 then Hw (Cx r.kl.d6 r.tl) r.gn.d6 r.sr else if Hv r.sr=false then 11 else 0
variable{r:hO}
theorem pT(d:Qz r.tl):KC r=some (NS r):=by
 unfold KC NS;rw[eX d,bs];by_cases h:Dt r.kl.d6 r.tl=0
 .simp only[h,ne_eq,not_true_eq_false,if_false,decide_true,Bool.not_true,Bool.false_eq_true];rw[XK,bs];refine Dp fun f=>?_;rw[k9 f,bs];exact UV fun _=>rfl
 .simp[h]
def TL(r:hO):Int:=if Dt r.kl.d6 r.tl≠0 then Dt r.kl.d6 r.tl else Hw (Cx r.kl.d6 r.tl) r.gn.d6 r.sr
theorem p6(d:Qz r.tl):Me r=some (TL r):=by
 unfold Me TL;rw[aZ d,bs];refine Dp fun h=>?_
 grind [Wl,cT]
theorem mH(h:NS r=0):Dt r.kl.d6 r.tl=0/\Hw (Cx r.kl.d6 r.tl) r.gn.d6 r.sr=0/\Hv r.sr=true:=by grind[NS]
def BI(l:Fp)(n:Int):Fp:=((List.range n.toNat).map Int.ofNat).filter fun i=>!hasB l i
variable{i:Int}
theorem Mh(l:Fp)(h:0<=i):BI l (i+1)=BI l i++if(!hasB l i)=true then[i]else[]:=by
 unfold BI;rw[show(i+1).toNat=i.toNat+1 by omega,List.range_succ,List.map_append,List.filter_append]
 grind
theorem FH{n x:Int}(h:x∈BI l n):0<=x/\x<n:=by
 unfold BI at h
 grind
theorem Pp(l:Fp)(n:Int):(BI l n).length<=n.toNat:=by
 unfold BI
 grind
variable{n:Int}
theorem Wo(q:0<=n)(w:n<=1000){f:Int->K1}(hf:∀i,f i=some (hasB l i)):(pq (fun(j:Int)(o:Fp)=>
 (f j).bind fun d=>
 if (!d)=true then
 (Au o [j]).bind fun h=>
 some h
 else
 some o) 0 n [])=some (BI l n):=by
 refine Bz (BI l) q (by simp[BI]) (fun i u x=>?_);have:=Pp l i;rw[hf,bs,Mh l u];cases hasB l i
 .rw[az (by decide),az (by decide),AY (by simp;unfold AZ;omega)];rfl
 .rw[b6 (by decide),b6 (by decide),List.append_nil]
theorem YZ(d:0<=n)(f:n<=1000):JW l n=some (BI l n):=by
 unfold JW;rw[Wo d f (fun i=>Kr l i)];rfl
theorem fP(d:0<=n)(f:n<=1000):Kb n l=some (BI l n):=by
 unfold Kb;rw[Wo d f (fun i=>mz l i)];rfl
def D3(r:hO):Fp:=BI r.sr.d5 r.gn.d6.d5.length
def Im(r:hO):Fp:=BI r.sr.d7 r.gn.d6.d7.length
theorem ee(d:CN r.gn.d6):KB r=some (D3 r,Im r):=by
 have:=d.ek;have:=d.em;unfold KB;rw[YZ (by omega) (by omega),bs,YZ (by omega) (by omega)];rfl
theorem fJ(d:CN r.gn.d6):JI r=some (D3 r,Im r):=by
 have:=d.ek;have:=d.em;unfold JI;rw[fP (by omega) (by omega),bs,fP (by omega) (by omega)];rfl
def GI(t:ej)(g:d6)(i:Int):Bool:=Is t (AA g.d7 i).mt (AA g.d5 (AA g.d7 i).nd) (AA g.d5 (AA g.d7 i).To)
def P6(t:ej)(g:d6)(ek em:Fp):Bool:=!(ek.any fun i=>(AA t.d5 (AA g.d5 i)).qo)&&!(em.any fun i=>!GI t g i)
variable{t:ej}{g:d6}
theorem se(hf:A6 t)(o:CN g)(q:CW t g=true){ek em:Fp}(u:∀x∈ek,0<=x/\x<g.d5.length)(he:∀x∈em,0<=x/\x<g.d7.length):Gw t g ek em=some (P6 t g ek em):=by
 have h:=GK o q;unfold Gw P6;rw[R6 (p:=fun i=>(AA t.d5 (AA g.d5 i)).qo) (fun x f=>by
  have d:=u x f;have j:=h.1 _ (AF d.1 d.2);unfold Kc;rw[AC d.1 d.2,bs,AC j.1 j.2];rfl),bs,R6 (p:=fun i=>!GI t g i) (fun x f=>by
  have d:=he x f;have j:=o.fit _ (AF d.1 d.2);unfold Gm;rw[AC d.1 d.2,bs,AC (by omega) (by omega),bs,AC (by omega) (by omega),bs,eY hf];rfl)]
 grind
theorem sq(hf:A6 t)(q:CN g)(u:CW t g=true){ek em:Fp}(w:∀x∈ek,0<=x/\x<g.d5.length)(he:∀x∈em,0<=x/\x<g.d7.length):KA t g ek em=some (P6 t g ek em):=by
 have j:=GK q u;unfold KA P6;rw[IF,IF,Br (fun i=>(AA t.d5 (AA g.d5 (AA ek i))).qo) false]
 .rw[Br (fun i=>!GI t g (AA em i)) false]
  .cases n8 (fun i=>(AA t.d5 (AA g.d5 (AA ek i))).qo) 0 ek.length
   .cases n8 (fun i=>!GI t g (AA em i)) 0 em.length<;>rfl
   .rfl
  .intro i f h _;have d:=he _ (AF f h);have o:=q.fit _ (AF d.1 d.2);rw[AC f h,bs,AC d.1 d.2,bs,AC (by omega) (by omega),bs,AC (by omega) (by omega),bs,VC hf,bs,Kl];rfl
 .intro i f h _;have d:=w _ (AF f h);have o:=j.1 _ (AF d.1 d.2);rw[AC f h,bs,AC d.1 d.2,bs,AC o.1 o.2,bs,Kl]
end Go.Sf.Sc
namespace Go.Sf.Sc
open Go Go.Sf
structure My(p:ed):Prop where
 ek:p.d6.d5.length<=45
 em:p.d6.d7.length<=90
 slots:p.ff.length<=15
 tests:p.ns.length<=15
structure bE(m:eb):Prop where
 ek:m.d5.length<=140
 em:m.d7.length<=140
inductive Da:ea->Prop where
 |mk (c:ea) (hq:My c.ed) (hm:bE c.Map) (hk:∀k∈c.hT,Da k):Da c
variable{c:ea}
theorem Da.q(h:Da c):My c.ed:=by cases h;assumption
theorem Da.m(h:Da c):bE c.Map:=by cases h;assumption
theorem Da.k(h:Da c):∀k∈c.hT,Da k:=by cases h;assumption
theorem EQ{c k:ea}(h:k∈c.hT):SizeOf.sizeOf k<SizeOf.sizeOf c:=by
 have:=List.sizeOf_lt_of_mem h;cases c
 grind
theorem Dm(c:ea):0<SizeOf.sizeOf c:=by
 cases c
 grind
def OS(c:ea):Bool:=decide (c.Map.d5.length=0/\c.Map.d7.length=0/\c.ed.d6.d5.length=0/\c.ed.d6.d7.length=0/\c.ed.ff.length=0/\c.ed.ns.length=0/\c.ed.fq=0)
theorem pL(hf:Da c):EW c=some (OS c):=by
 have d:=hf.q;have f:=hf.m;have:=d.ek;have:=d.em;have:=d.slots;have:=d.tests;have:=f.ek;have:=f.em;unfold EW OS;rw[AV (n:=(c.Map.d5.length:Int)+c.Map.d7.length) (by omega) (by omega),AV (n:=(c.Map.d5.length:Int)+c.Map.d7.length+c.ed.d6.d5.length) (by omega) (by omega),
  AV (n:=(c.Map.d5.length:Int)+c.Map.d7.length+c.ed.d6.d5.length+c.ed.d6.d7.length) (by omega) (by omega),
  AV (n:=(c.Map.d5.length:Int)+c.Map.d7.length+c.ed.d6.d5.length+c.ed.d6.d7.length+c.ed.ff.length) (by omega) (by omega),
  AV (n:=(c.Map.d5.length:Int)+c.Map.d7.length+c.ed.d6.d5.length+c.ed.d6.d7.length+c.ed.ff.length+c.ed.ns.length) (by omega) (by omega)]
 congr 1
 grind
theorem jJ(hf:Da c):Gv c=some (OS c):=by
 have d:=hf.q;have f:=hf.m;have:=d.ek;have:=d.em;have:=d.slots;have:=d.tests;have:=f.ek;have:=f.em;unfold Gv OS;rw[AV (n:=(c.Map.d5.length:Int)+c.Map.d7.length) (by omega) (by omega),AV (n:=(c.Map.d5.length:Int)+c.Map.d7.length+c.ed.d6.d5.length) (by omega) (by omega),
  AV (n:=(c.Map.d5.length:Int)+c.Map.d7.length+c.ed.d6.d5.length+c.ed.d6.d7.length) (by omega) (by omega),
  AV (n:=(c.ed.ff.length:Int)+c.ed.ns.length) (by omega) (by omega)]
 congr 1
 grind
def RL(c:ea):Bool:=
 if c.o3=1 then decide (c.hT.length=0)&&OS c else if c.o3=2 then decide (c.hT.length=1)&&OS c else
 if c.o3=3\/c.o3=4 then decide (1<=c.hT.length)&&OS c else if c.o3=5 then decide (c.hT.length=1)else false
def Qw:Nat->ea->Bool
 |0,_=>false|n+1,c=>RL c&&c.hT.all (Qw n)
theorem pi:∀(N:Nat)(c:ea),SizeOf.sizeOf c<=N->Da c->∀n,2*N<=n->BS n c=some (Qw N c)
 |0,c,h,_,_,_=>by have:=Dm c;omega|N+1,c,h,hf,n,B=>by
  obtain ⟨n,rfl⟩:∃m,n=m+2:=⟨n-2,by omega⟩;rw[BS,Qw,pL hf];have f:Bs c.hT (Ba (n+1))=some (!c.hT.all (Qw N)):=by
   rw [Xn (p:=fun k=>!Qw N k) (fun k f=>by
    have:=EQ f;rw[Ba,pi N k (by omega) (hf.k k f) n (by omega)];rfl),List.all_eq_not_any_not,Bool.not_not]
  rw [f];unfold RL;simp only[bs,zzX];generalize OS c=b;generalize c.hT.all (Qw N)=w;have y:decide ((c.hT.length:Int)=0)=decide (c.hT.length=0):=by rw[decide_eq_decide];omega
  have z:decide ((c.hT.length:Int)=1)=decide (c.hT.length=1):=by rw[decide_eq_decide];omega
  have A:decide (1<=(c.hT.length:Int))=decide (1<=c.hT.length):=by rw[decide_eq_decide];omega
  simp only[show((c.hT.length:Int)=0)↔c.hT.length=0 by omega,show((c.hT.length:Int)=1)↔c.hT.length=1 by omega,show(1<=(c.hT.length:Int))↔1<=c.hT.length by omega];by_cases j:c.o3=1
  .rw[az j,az j];by_cases d:c.hT.length=0<;>cases b<;>cases w<;>simp[d]
  .rw[b6 j,b6 j];by_cases o:c.o3=2
   .rw[az o,az o];by_cases d:c.hT.length=1<;>cases b<;>cases w<;>simp[d]
   .rw[b6 o,b6 o];by_cases u:c.o3=3
    .simp[u,true_or];by_cases d:1<=c.hT.length<;>cases b<;>cases w<;>simp[d]
    .by_cases x:c.o3=4
     .simp[x,or_true,show¬(4:Int)=3 by decide];by_cases d:1<=c.hT.length<;>cases b<;>cases w<;>simp[d]
     .simp only[u,x,if_false,or_false];by_cases q:c.o3=5
      .rw[az q,az q];by_cases d:c.hT.length=1<;>cases w<;>simp[d]
      .rw[b6 q,b6 q];cases w<;>rfl
theorem pu(hf:Da c):K9 c=some (RL c):=by
 unfold K9 RL;rw[jJ hf];simp[zzX];generalize OS c=b;simp[show((c.hT.length:Int)=0)↔c.hT.length=0 by omega,show((c.hT.length:Int)=1)↔c.hT.length=1 by omega,show(0<(c.hT.length:Int))↔1<=c.hT.length by omega]
 grind
theorem oQ{α:Type}[Inhabited α]{l:List α}{p:α->Bool}:l.all p=!n8 (fun i=>!p (AA l i)) 0 l.length:=by
 rw [List.all_eq_not_any_not,IF]
theorem lD:∀(N:Nat)(c:ea),SizeOf.sizeOf c<=N->Da c->∀n,N<=n->EC n c=some (Qw N c)
 |0,c,h,_,_,_=>by have:=Dm c;omega|N+1,c,h,hf,n,o=>by
  obtain ⟨n,rfl⟩:∃m,n=m+1:=⟨n-1,by omega⟩;rw[EC,Qw,pu hf,bs,oQ,Br (fun i=>!Qw N (AA c.hT i)) false]
  .cases RL c
   .rfl
   .cases n8 (fun i=>!Qw N (AA c.hT i)) 0 c.hT.length<;>rfl
  .intro i d f _;have j:=AF (l:=c.hT) d f;have:=EQ j;rw[AC d f,bs,lD N _ (by omega) (hf.k _ j) n (by omega),bs,Kl]
noncomputable def a7(c:ea):Bool:=Qw (SizeOf.sizeOf c) c
theorem sf(hf:Da c):GW c=some (a7 c):=Ey (2*SizeOf.sizeOf c) fun n d=>pi _ c (bk _) hf n d
theorem sw(hf:Da c):NC c=some (a7 c):=Ey (SizeOf.sizeOf c) fun n d=>lD _ c (bk _) hf n d
def MI:Nat->ea->Int×Int
 |0,_=>(0,0)|n+1,c=>
  let s:=c.hT.foldl (fun s k=>(AK (s.1+(MI n k).1),max s.2 (MI n k).2)) ((1,0):Int×Int)
  (s.1,if c.o3=5 then AK (s.2+1)else s.2)
theorem WZ{α σ:Type}[Inhabited α]{l:List α}{g:σ->α->σ}{s:σ}{f:Int->σ->Option σ}(h:∀(i:Int)s,0<=i->i<l.length->f i s=some (g s (AA l i))):pq f 0 l.length s=some (l.foldl g s):=by
 rw [Bz (fun i=>(l.take i.toNat).foldl g s) (by omega) (by simp)]
 .rw[Int.toNat_natCast,List.take_length]
 grind [B3]
theorem ei:∀(N:Nat)(c:ea),SizeOf.sizeOf c<=N->∀n,N<=n->CG n c=some (MI N c)
 |0,c,h,_,_=>by have:=Dm c;omega|N+1,c,h,n,j=>by
  obtain ⟨n,rfl⟩:∃m,n=m+1:=⟨n-1,by omega⟩;rw[CG,MI,WZ (g:=fun s k=>(AK (s.1+(MI N k).1),max s.2 (MI N k).2))]
  .grind
  .intro i s d f;have:=EQ (AF (l:=c.hT) d f);rw[AC d f,bs,ei N _ (by omega) n (by omega)];rfl
theorem fM:∀(N:Nat)(c:ea),SizeOf.sizeOf c<=N->∀n,N<=n->Ea n c=some (MI N c)
 |0,c,h,_,_=>by have:=Dm c;omega|N+1,c,h,n,j=>by
  obtain ⟨n,rfl⟩:∃m,n=m+1:=⟨n-1,by omega⟩;rw[Ea,MI,WZ (g:=fun s k=>(AK (s.1+(MI N k).1),max s.2 (MI N k).2))]
  .grind
  .intro i s d f;have:=EQ (AF (l:=c.hT) d f);rw[AC d f,bs,fM N _ (by omega) n (by omega)];rfl
noncomputable def S8(c:ea):Int×Int:=MI (SizeOf.sizeOf c) c
noncomputable def KG(c:ea):Int:=if a7 c=false then 1 else if 12<(S8 c).1\/3<(S8 c).2 then 3 else 0
theorem md(hf:Da c):Ew c=some (KG c):=by
 unfold Ew KG;rw[sf hf,bs,show H5 c=some (S8 c)from Ey (SizeOf.sizeOf c) fun n d=>ei _ c (bk _) n d,bs]
 grind
theorem nB(hf:Da c):K7 c=some (KG c):=by
 unfold K7 KG;rw[sw hf,bs,show OI c=some (S8 c)from Ey (SizeOf.sizeOf c) fun n d=>fM _ c (bk _) n d,bs]
 grind
theorem Uj(g:d6):Bn g≠9:=by grind[Bn]
variable{t:ej}{p:ed}
theorem T3(d:(A1 t).2=0)(h:EG t p=0\/EG t p=9):0<=p.fq/\p.fq<=12:=by grind[Uj,EG]
def P5(t:ej)(q:ed)(v:Int):Int:=if EG t q≠9 then EG t q else if n8 (fun i=>!Gc q i) v q.fq=true then 9 else 0
variable{P:Prop}
theorem ta{α:Type}[Decidable P]{v:α}{X:Option α}{Y:α}(h:P->X=some Y):(if(!decide P)=true then some v else X)=some (if¬P then v else Y):=by grind
theorem sd(hf:A6 t)(f:(A1 t).2=0){q:ed}{v:Int}(u:0<=v)(h:v<=q.fq):D2 t q v=some (P5 t q v):=by
 unfold D2 P5;rw[U6 hf,bs];refine ta fun d=>?_;have hv:=T3 f (.inr d);rw[Lw (c:=fun i=>(if(!Gc q i)=true then some ()else none).map fun _=>.inr 9) (a:=v) (b:=q.fq) h]
 .rw[S6,Nx];cases n8 (fun i=>!Gc q i) v q.fq<;>rfl
 .intro i w o _;rw[az (by simpa using o),show(fun j=>G4 j i)=(fun y=>some (decide (y.kg.Var=i)))from rfl,Zx,bs,show(q.ff.any fun y=>decide (y.kg.Var=i))=Gc q i from rfl,d,AV (by omega) (by omega)];cases Gc q i<;>rfl
 .rw[b6 (by simp)]
theorem m9(p:ed)(v:Int):Mb p v=some (Gc p v):=lJ p v
theorem sj(hf:A6 t)(q:ed)(v:Int):K8 t v q=some (if q.fq<v then 20 else P5 t q v):=by
 unfold K8 P5;refine Nu (by simp) fun _=>?_;rw[cU hf,bs];refine ta fun d=>?_;rw[d,Br (fun i=>!Gc q i) 9]
 .cases n8 (fun i=>!Gc q i) v q.fq<;>rfl
 .intro i f h _;rw[m9,bs,Kl]
def G6:Nat->ej->ed->ea->Int
 |0,_,_,_=>0|N+1,t,p,c=>
  if c.o3=5 then
   if c.ed.fq<p.fq then 20 else if P5 t c.ed p.fq≠0 then P5 t c.ed p.fq else
   if Hw p.d6 c.ed.d6 c.Map≠0 then Hw p.d6 c.ed.d6 c.Map else if Hv c.Map=false then 1 else
   (fst (fun i=>nz (G6 N t c.ed (AA c.hT i))) 0 c.hT.length).getD 0
  else (fst (fun i=>nz (G6 N t p (AA c.hT i))) 0 c.hT.length).getD 0
theorem eu(hf:A6 t)(o:(A1 t).2=0):∀(N:Nat)(c:ea)(p:ed),0<=p.fq->SizeOf.sizeOf c<=N->∀n,N<=n->B4 n t p c=some (G6 N t p c)
 |0,c,p,_,h,_,_=>by have:=Dm c;omega|N+1,c,p,C,h,n,D=>by
  obtain ⟨n,rfl⟩:∃m,n=m+1:=⟨n-1,by omega⟩;rw[B4,G6];have j:∀q:ed,0<=q.fq->(fl (kq (ρ:=Int) (fun(y:Int)(_:Unit)=>
    (idx c.hT y).bind fun f=>
    (B4 n t q f).bind fun d=>
    if (!decide (d=0))=true then
    some (.ret d)
    else
    some (.next ())) 0 (c.hT.length:Int) ()) (fun _=>
    some 0) (fun z=>some z))=some ((fst (fun i=>nz (G6 N t q (AA c.hT i))) 0 c.hT.length).getD 0):=by
   intro q B;rw[Bb (fun i=>nz (G6 N t q (AA c.hT i))),Cc];intro i u w _;have:=EQ (AF (l:=c.hT) u w);rw[AC u w,bs,eu hf o N _ q B (by omega) n (by omega),bs,Kw]
  by_cases x:c.o3=5
  .rw[az (by simpa using x),az x];refine Nu (by simp) fun hv=>?_;rw[sd hf o C (by omega),bs];refine Dp fun hi=>?_;rw[XK,bs];refine Dp fun A=>?_;rw[k9 A,bs]
   grind
  grind
theorem fO(hf:A6 t):∀(N:Nat)(c:ea)(p:ed),SizeOf.sizeOf c<=N->∀n,N<=n->Ep n t p c=some (G6 N t p c)
 |0,c,p,h,_,_=>by have:=Dm c;omega|N+1,c,p,h,n,A=>by
  obtain ⟨n,rfl⟩:∃m,n=m+1:=⟨n-1,by omega⟩;rw[Ep,G6];have d:∀q:ed,(fl (kq (ρ:=Int) (fun(x:Int)(_:Unit)=>
    (idx c.hT x).bind fun o=>
    (Ep n t q o).bind fun f=>
    if (!decide (f=0))=true then
    some (.ret f)
    else
    some (.next ())) 0 (c.hT.length:Int) ()) (fun _=>
    some 0) (fun y=>some y))=some ((fst (fun i=>nz (G6 N t q (AA c.hT i))) 0 c.hT.length).getD 0):=by
   intro q;rw[Bb (fun i=>nz (G6 N t q (AA c.hT i))),Cc];intro i u w _;have:=EQ (AF (l:=c.hT) u w);rw[AC u w,bs,fO hf N _ q (by omega) n (by omega),bs,Kw]
  by_cases j:c.o3=5
  .rw[az (by simpa using j),az j,sj hf,bs];by_cases hv:c.ed.fq<p.fq
   .simp[hv]
   .simp only[b6 hv];refine Dp fun hi=>?_;rw[cT,bs];refine Dp fun z=>?_;rw[si z,bs];exact UV fun _=>d _
  .rw[b6 (by simpa using j),b6 j];exact d p
noncomputable def HP(t:ej)(p:ed)(c:ea):Int:=if EG t p≠0 then EG t p else if KG c≠0 then KG c else G6 (SizeOf.sizeOf c) t p c
theorem eZ(hf:A6 t)(d:(A1 t).2=0)(p:ed)(f:Da c):C3 t p c=some (HP t p c):=by
 unfold C3 HP;rw[U6 hf,bs];refine Dp fun h=>?_;rw[md f,bs,Option.bind_fun_some];exact Dp fun _=>Ey (SizeOf.sizeOf c) fun n j=>eu hf d _ c p (T3 d (.inl h)).1 (bk _) n j
theorem fI(hf:A6 t)(p:ed)(d:Da c):JU t p c=some (HP t p c):=by
 unfold JU HP;rw[cU hf,bs];refine Dp fun h=>?_;rw[nB d,bs,Option.bind_fun_some];exact Dp fun _=>Ey (SizeOf.sizeOf c) fun n f=>fO hf _ c p (bk _) n f
end Go.Sf.Sc
namespace Go.Sf.Sc
open Go Go.Sf
structure OB(r:hO):Prop where
 name:(r.mr.size:Int)<=60
 left:My r.kl
 right:My r.gn
 fu:Qz r.tl
 into:bE r.sr
 cond:Da r.ea
noncomputable def Cy(t:ej)(r:hO):Int:=
 if (A1 t).2≠0 then(A1 t).2 else if DY r.mr=false then 2 else if EG t r.kl≠0 then EG t r.kl else
 if Hj t r≠0 then Hj t r else if NS r≠0 then NS r else if P6 t r.gn.d6 (D3 r) (Im r)=false then 13 else HP t r.kl r.ea
variable{t:ej}{r:hO}
theorem T8(h:Hj t r=0):CN r.gn.d6/\CW t r.gn.d6=true:=by grind[Hj,Cp]
theorem Yd(hf:A6 t)(d:OB r):Hk t r=some (Cy t r):=by
 have q:=d.name;unfold Hk Cy;rw[Lu hf,bs];refine Dp fun j=>?_;rw[O6 (by omega),bs];refine UV fun _=>?_;rw[U6 hf,bs];refine Dp fun _=>?_;rw[mc hf,bs];refine Dp fun f=>?_;have ho:=T8 f;rw[pT d.fu,bs];refine Dp fun o=>?_;rw[ee ho.1,bs];dsimp only;rw[se (ek:=D3 r) (em:=Im r) hf ho.1 ho.2 (fun x h=>FH h) (fun x h=>FH h),bs];refine UV fun _=>?_;rw[eZ hf j _ d.cond,bs]
theorem py(hf:A6 t)(d:OB r):LA t r=some (Cy t r):=by
 have u:=d.name;unfold LA Cy;rw[On hf,bs];refine Dp fun q=>?_;rw[O7 (by omega),bs];refine UV fun _=>?_;rw[cU hf,bs];refine Dp fun _=>?_;rw[nA hf,bs];refine Dp fun f=>?_;have ho:=T8 f;rw[p6 d.fu,bs,cR,bs];simp only[cR,bs];have e:(if(!Jc r.sr.d5)=true then some true else some (!Jc r.sr.d7))=some (!Hv r.sr):=by
  grind [Hv,Jc]
 rw [e,bs];have o:NS r=if TL r≠0 then TL r else if Hv r.sr=false then 11 else 0:=by
  grind [NS,TL,Dt]
 rw [o];by_cases j:TL r=0
 .simp only[j,ne_eq,not_true_eq_false,if_false,decide_true,Bool.not_true,Bool.false_eq_true];cases hi:Hv r.sr
  .simp
  .simp only[Bool.not_true,Bool.false_eq_true,if_false,not_true_eq_false,Bool.true_eq_false];rw[fJ ho.1,bs];dsimp only;rw[sq (ek:=D3 r) (em:=Im r) hf ho.1 ho.2 (fun x h=>FH h) (fun x h=>FH h),bs];refine UV fun _=>?_;rw[fI hf _ d.cond,bs]
 .simp[j]
def AaW(t:ej)(l:Fp):Bool:=!(l.any fun k=>t.d5.any fun n=>decide (n.x9=k))
structure dP(t:ej)(r:hO):Prop where
 left:CN r.kl.d6
 ltyped:CW t r.kl.d6=true
 right:CN r.gn.d6
 Abp:CW t r.gn.d6=true
 rtests:r.gn.ns.length=0
 part:Ns r.kl.d6 r.tl
 mor:Q0 (Cx r.kl.d6 r.tl) r.gn.d6 r.sr
 inj:r.sr.d5.Nodup/\r.sr.d7.Nodup
variable{p:ed}
theorem U9(h:EG t p=0):CN p.d6/\CW t p.d6=true:=by grind[EG,Cp]
theorem af(h:Cy t r=0):(A1 t).2=0/\dP t r:=by
 unfold Cy at h;split at h
 .omega
 split at h
 .cases h
 split at h
 .omega
 split at h
 .omega
 split at h
 .omega
 rename_i o q u w x;have d:=U9 (t:=t) (p:=r.kl) (by omega);have f:=T8 (t:=t) (r:=r) (by omega);have j:=mH (r:=r) (by omega);have hi:Jc r.sr.d5=true/\Jc r.sr.d7=true:=by
  grind [Hv]
 refine ⟨by omega,d.1,d.2,f.1,f.2,?_,?_,Ut j.2.1,Io.1 hi.1,Io.1 hi.2⟩
 .grind[Hj]
 grind [Dt,Sd]
variable{l:Fp}
theorem Zt{n:Nat}(h:∀x∈l,0<=x/\x<n)(f:l.Pairwise (·<·)):l.length<=n:=by
 have key:∀i:Int,0<=i->i<l.length->i<=AA l i:=by
  intro i d j;obtain⟨k,rfl⟩:=Int.eq_ofNat_of_zero_le d;clear d
  induction k with
  |zero=>exact(h _ (AF (by omega) (by omega))).1|succ k o=>
   grind [Gh]
 by_cases d:l.length=0
 .omega
 .have a:=key ((l.length:Int)-1) (by omega) (by omega)
  grind [AF]
end Go.Sf.Sc
namespace Go.Sf
variable{a b:Int}
theorem bB{ρ:Type}{f:Int->Option (Bu Int ρ)}(p:Int->Bool)(v:ρ)(d:a<=b)(h:∀i,a<=i->i<b->f i=some (if p i=true then .ret v else .next (i+1)))(j:f b=some (.brk b)):C7 f a=some (if n8 p a b=true then .inr v else .inl b):=by
 rw [Lw (c:=fun i=>(if p i=true then some ()else none).map fun _=>.inr v) d]
 .grind[S6,Nx,n8]
 .intro i o q _;rw[h i o q];cases p i<;>rfl
 .exact j
theorem Ls{α:Type}{e:α->TV}{n:Nat}{l:List α}(h:TV.Sm (.list n (l.map e))):(l.length:Int)<=140737488351232/\∀x∈l,(e x).Sm:=by
 simp [TV.Sm]at h;refine⟨by have:=h.1;unfold reachBytes at this;omega,fun x d=>JX.1 h.2 _ (List.mem_map.2 ⟨x,d,rfl⟩)⟩
end Go.Sf
namespace Go.Sf.Sc
open Go Go.Sf
def Xl(a:mh):Bool:=(decide (40<(a.mr.size:Int))||decide (25<(a.sx.length:Int)))||n8 (fun i=>decide (40<((AA a.sx i).size:Int))) 0 a.sx.length
theorem gk{a:mh}(h:Xl a=false):Qy a:=by
 unfold Xl at h;simp[decide_eq_false_iff_not,Bk]at h;refine⟨by omega,by omega,fun x d=>?_⟩
 grind [Bh]
variable{t:ej}
theorem SD(U:(AN t).Sm):∃b,J6 t=some b/\(b=true->A6 t):=by
 have L:TV.Sms [_,_]:=U;obtain⟨w,O⟩:=Ls (e:=Ia) L.1;unfold J6;by_cases hl:20<t.d5.length\/30<t.d7.length
 .rw[az (by simp;omega)]
  grind
 rw [b6 (by simp;omega)];rcases O1 (f:=(fun(B:Int)(S:Int)=>
 (idx t.d5 B).bind fun z=>
 (if(decide (30<(AK (S+(z.r0.length:Int)))))=true then some true else((idx t.d5 B).bind fun F=>
 some (decide (40<(F.mr.size:Int))))).bind fun G=>
 if G=true then
 some (Bu.ret false)
 else
 fl (C7 (ρ:=Bool) (fun(x:Int)=>
 (idx t.d5 B).bind fun H=>
 if (decide (x<(H.r0.length:Int)))=true then
 (idx t.d5 B).bind fun I=>
 (idx I.r0 x).bind fun q=>
 if ((decide (40<(q.mr.size:Int)))||(decide (25<(q.sx.length:Int))))=true then
 some (.ret false)
 else
 fl (C7 (ρ:=Bool) (fun(y:Int)=>
 if (decide (y<(q.sx.length:Int)))=true then
 (idx q.sx y).bind fun J=>
 if (decide (40<(J.size:Int)))=true then
 some (.ret false)
 else
 some (.next (AK (y+1)))
 else
 some (.brk y)) 0) (fun y=>
 some (.next (AK (x+1)))) (fun V=>some (.ret V))
 else
 some (.brk x)) 0) (fun x=>
 some (.next (AK (S+(z.r0.length:Int))))) (fun W=>some (.ret W))))
  (fun i s=>0<=s/\s<=30/\∀j,0<=j->j<i->((AA t.d5 j).mr.size:Int)<=40/\(AA t.d5 j).r0.length<=30/\∀a∈(AA t.d5 j).r0,Qy a) (fun _=>False) (fun r=>r=false) (a:=0) (b:=t.d5.length) (s:=0) (by omega) ⟨by omega,by omega,fun j A d=>by omega⟩ (fun i s C D Z=>by
   have hx:=O _ (AF (l:=t.d5) C D);have M:TV.Sms [_,_,_,_]:=hx;obtain⟨ha,Q⟩:=Ls (e:=HT) M.2.2.2.1;obtain⟨hI1,hI2,hI3⟩:=Z;have hw:AK (s+(AA t.d5 i).r0.length)=s+(AA t.d5 i).r0.length:=AV (by omega) (by omega);simp only[AC C D,bs,hw,YR];by_cases hc:30<s+(AA t.d5 i).r0.length\/40<((AA t.d5 i).mr.size:Int)
   .grind
   rw [b6 (by simpa using hc)];rw[bB (fun j=>Xl (AA (AA t.d5 i).r0 j)) false (b:=(AA t.d5 i).r0.length) (by omega)]
   .cases T:n8 (fun j=>Xl (AA (AA t.d5 i).r0 j)) 0 (AA t.d5 i).r0.length
    .refine .inl ⟨_,rfl,by omega,by omega,fun j K E=>?_⟩
     grind [Bh,gk,Bk]
    .exact .inr (.inr ⟨_,rfl,rfl⟩)
   .intro j K E;rw[az (by simpa using E),AC K E,bs];have hy:=Q _ (AF (l:=(AA t.d5 i).r0) K E);have N:TV.Sms [_,_,_,_]:=hy;obtain⟨hm,_⟩:=Ls (e:=eS) N.2.2.2.1;unfold Xl;cases A:(decide (40<((AA (AA t.d5 i).r0 j).mr.size:Int))||decide (25<((AA (AA t.d5 i).r0 j).sx.length:Int)))
    .rw[b6 (by decide),bB (fun k=>decide (40<((AA (AA (AA t.d5 i).r0 j).sx k).size:Int))) false (b:=(AA (AA t.d5 i).r0 j).sx.length) (by omega)]
     .cases n8 (fun k=>decide (40<((AA (AA (AA t.d5 i).r0 j).sx k).size:Int))) 0 (AA (AA t.d5 i).r0 j).sx.length
      .rw[Bool.or_false,AV (show -9223372036854775808<=j+1 by omega) (by omega)];rfl
      .rfl
     .intro k u o;rw[az (by simpa using o),AC u o,bs,AV (show -9223372036854775808<=k+1 by omega) (by omega),Kl]
     .rw[b6 (by simp)]
    .rfl
   .rw[b6 (by simp)])with⟨s',A,d⟩|⟨r,A,d⟩
 .rw[A];rcases d with d|d
  .rw[B6,Br (fun i=>decide (40<((AA t.d7 i).mr.size:Int))) false]
   .cases T:n8 (fun i=>decide (40<((AA t.d7 i).mr.size:Int))) 0 t.d7.length
    .refine⟨true,rfl,fun _=>⟨by omega,by omega,fun n w=>?_,fun n w=>?_,fun n w=>?_,fun e he=>?_⟩⟩
     .obtain⟨k,u,o,rfl⟩:=Bh w;exact(d.2.2 k u o).1
     .obtain⟨k,u,o,rfl⟩:=Bh w;exact(d.2.2 k u o).2.1
     .obtain⟨k,u,o,rfl⟩:=Bh w;exact(d.2.2 k u o).2.2
     .obtain⟨k,u,o,rfl⟩:=Bh he;have:=Bk.1 T k u o;simpa using this
    .exact⟨false,rfl,fun h=>by cases h⟩
   .intro i C D _;rw[AC C D,bs,Kl]
  .exact d.elim
 .rw[A];subst d;exact⟨false,rfl,fun h=>by cases h⟩
theorem Qj(p:ed):∃b,Ie p=some b/\(b=true->My p):=by
 refine ⟨_,rfl,fun h=>?_⟩;simp[zzX]at h;exact⟨by omega,by omega,by omega,by omega⟩
variable{a b:Int}
theorem Z6(h:0<=a)(d:a<=140737488351232)(j:0<=b)(f:b<=140737488351232):AK (a+b)=a+b:=AV (by omega) (by omega)
variable{m:eb}
theorem Va(f:(Bm m).Sm):∃b,N6 m 140=some b/\(b=true->bE m):=by
 have d:TV.Sms [_,_]:=f;have j:=(Ls (e:=eI) d.1).1;have o:=(Ls (e:=eI) d.2.1).1;refine⟨_,rfl,fun h=>?_⟩;rw[Z6 (by omega) j (by omega) o]at h;simp[zzX]at h;exact⟨by omega,by omega⟩
theorem gx{m:Bo}(f:(MA m).Sm):∃b,Pj m 140=some b/\(b=true->Qz m):=by
 have d:TV.Sms [_,_]:=f;have j:=(Ls (e:=eI) d.1).1;have o:=(Ls (e:=eI) d.2.1).1;refine⟨_,rfl,fun h=>?_⟩;rw[Z6 (by omega) j (by omega) o]at h;simp[zzX]at h;exact⟨by omega,by omega⟩
variable{c:ea}
theorem Z1(h:(AI c).Sm):(Bm c.Map).Sm/\(c.hT.length:Int)<=140737488351232/\∀k∈c.hT,(AI k).Sm:=by
 have f:TV.Sms [_,_,_,_,_,_,_,_,_]:=h;obtain⟨_,d,j,o,_⟩:=f;rw[PV]at d;obtain⟨q,u⟩:=Ls d;exact⟨⟨j,o,trivial⟩,q,u⟩
theorem Xz:∀(N:Nat)(c:ea),SizeOf.sizeOf c<=N->(AI c).Sm->∀Aab:Int,0<=Aab->Aab<=1000->∃r,(∀n,N<=n->Cd n c Aab=some r)/\-1<=r/\r<=Aab-1/\(0<=r->Da c)
 |0,c,h,_,_,_,_=>by have:=Dm c;omega|N+1,c,h,hs,Aab,m0,m1=>by
  obtain ⟨L,M,B⟩:=Z1 hs;obtain⟨O,E,Q⟩:=Qj c.ed;obtain⟨S,H,T⟩:=Va L;have step:∀n,N+1<=n->∃m,n=m+1/\N<=m:=fun n d=>⟨n-1,by omega,by omega⟩;cases O
  .refine⟨-1,fun n d=>?_,by omega,by omega,fun h=>by omega⟩;obtain⟨n,rfl,_⟩:=step n d;rw[Cd,E];rfl
  cases S
  .refine⟨-1,fun n d=>?_,by omega,by omega,fun h=>by omega⟩;obtain⟨n,rfl,_⟩:=step n d;rw[Cd,E,bs,H];rfl
  have loop:∀(m:Nat)(k left:Int),0<=k->k+m=c.hT.length->-1<=left->left<=1000->∃f u,(∀n,N<=n->Kj (ρ:=Int) (fun(q:Int×Int)=>
    if ((decide (q.2<(c.hT.length:Int)))&&(decide (0<=q.1)))=true then
    (idx c.hT q.2).bind fun x=>
    (Cd n x q.1).bind fun y=>
    some (.next (y,AK (q.2+1)))
    else
    some (.brk (q.1,q.2))) (left,k) (.inl (f,u)))/\-1<=f/\f<=left/\(0<=f->∀j,k<=j->j<c.hT.length->Da (AA c.hT j)):=by
   intro m
   induction m with
   |zero=>
    intro k left C I D l1;refine⟨left,k,fun n d=>.brk ?_,D,by omega,fun _ j z w=>by omega⟩;rw[b6 (by simp;omega)]
   |succ m Z=>
    intro k left C I D l1;by_cases J:0<=left
    .have o:=AF (l:=c.hT) C (by omega);have:=EQ o;obtain⟨r,U,V,r3,W⟩:=Xz N _ (by omega) (B _ o) left J l1;obtain⟨f,u,a1,a2,a3,F⟩:=Z (k+1) r (by omega) (by omega) V (by omega);refine⟨f,u,fun n d=>.next (s':=(r,k+1)) ?_ (a1 n d),a2,by omega,fun A j z w=>?_⟩
     .rw[az (by simp;omega),AC C (by omega),bs,U n d,bs,AV (by omega) (by omega)]
     .by_cases K:j=k
      .subst K;exact W (by omega)
      .exact F A j (by omega) w
    .refine⟨left,k,fun n d=>.brk ?_,D,by omega,fun h=>by omega⟩;rw[b6 (by simp;omega)]
  obtain ⟨f,u,a1,a2,a3,F⟩:=loop c.hT.length 0 (Aab-1) (by omega) (by omega) (by omega) (by omega);refine⟨f,fun n d=>?_,a2,a3,fun A=>.mk c (Q rfl) (T rfl) (fun k B=>?_)⟩
  .obtain⟨n,rfl,G⟩:=step n d;rw[Cd,E,bs,H];simp only[bs,Bool.not_true,Bool.false_eq_true,if_false];rw[AV (n:=Aab-1) (by omega) (by omega),(a1 n G).eq,B6]
  .obtain⟨j,z,w,rfl⟩:=Bh B;exact F A j z w
theorem gw(d:(AI c).Sm):∃b,If c=some b/\(b=true->Da c):=by
 obtain ⟨r,f,_,_,j⟩:=Xz (SizeOf.sizeOf c) c (bk _) d 40 (by omega) (by omega);have e:OY c 40=some r:=Ey (SizeOf.sizeOf c) f;unfold If;rw[e];exact⟨_,rfl,fun h=>j (by simpa using h)⟩
theorem Jq{b:Bool}{o:K1}{c:Bool}(h:o=some c):(if b=true then o.bind fun x=>some x else some false)=some (b&&c):=by
 subst h;cases b<;>rfl
variable{r:hO}
theorem g6(d:(CP r).Sm):∃b,N8 r=some b/\(b=true->OB r):=by
 have f:TV.Sms [_,_,_,_,_,_,_,_,_,_,_,_,_,_,_,_,_,_,_,_,_,_,_,_,_]:=d;obtain⟨_,_,_,_,_,_,_,_,_,_,_,j,o,q,u,_,w,x,c3,c4,c5,c6,c7,c8,c9,_⟩:=f;obtain⟨I,y,z⟩:=Qj r.kl;obtain⟨J,A,B⟩:=Qj r.gn;obtain⟨K,C,D⟩:=gx (m:=r.tl) ⟨j,o,trivial⟩;obtain⟨L,E,F⟩:=Va (m:=r.sr) ⟨q,u,trivial⟩;obtain⟨M,G,H⟩:=gw (c:=r.ea) ⟨w,x,c3,c4,c5,c6,c7,c8,c9,trivial⟩;unfold N8;rw[Jq y,bs,Jq A,bs,Jq C,bs,Jq E,bs,Jq G,bs];refine⟨_,rfl,fun h=>?_⟩;simp[zzX]at h;exact⟨h.1.1.1.1.1,z h.1.1.1.1.2,B h.1.1.1.2,D h.1.1.2,F h.1.2,H h.2⟩
end Go.Sf.Sc
