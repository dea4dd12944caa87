/- Plain lemmas: what the functions of the program and of the reference compute. -/
import Derived.Test.YthgbaecihlidaaaGreatDoorSfRead
import Derived.Test.YthgbaecihlidaaaGreatDoorFns
import Derived.Test.YthgbaecihlidaaaGreatDoorSfPl
set_option linter.all false
set_option maxRecDepth 100000
namespace Go.Sf
theorem WM{ρ τ:Type}{d:Int->Option ρ}{g:ρ->τ}:∀(n:Nat)(a:Int),Ej (fun i=>(d i).map g) n a=(Ej d n a).map g
 |0,_=>rfl|n+1,a=>by
  rw [Ej,Ej];cases d a with
  |some r=>rfl|none=>exact WM n (a+1)
variable{a b:Int}
theorem TA{ρ τ:Type}{d:Int->Option ρ}{g:ρ->τ}:fst (fun i=>(d i).map g) a b=(fst d a b).map g:=WM _ _
theorem Uk{ρ:Type}{d:Int->Option ρ}{r:ρ}:∀{n:Nat}{a:Int},Ej d n a=some r->∃i,a<=i/\i<a+n/\d i=some r/\∀j,a<=j->j<i->d j=none
 |0,_,h=>by cases h
 |n+1,a,h=>by
  rw [Ej]at h;cases hd:d a with
  |some w=>
   grind
  |none=>
   rw [hd]at h;obtain⟨i,f,o,q,u⟩:=Uk h
   grind
theorem DU{ρ:Type}{d:Int->Option ρ}{r:ρ}(h:fst d a b=some r):∃i,a<=i/\i<b/\d i=some r/\∀j,a<=j->j<i->d j=none:=by
 obtain ⟨i,f,o,q,u⟩:=Uk h
 grind
def Ko(p:Int->Bool)(s:ByteArray):Int:=(fst (fun i=>if p (bt s i)then none else some i) 0 s.size).getD s.size
theorem Sr(p:Int->Bool)(s:ByteArray):0<=Ko p s/\Ko p s<=s.size/\(∀j,0<=j->j<Ko p s->p (bt s j)=true)/\(Ko p s<s.size->p (bt s (Ko p s))=false):=by
 unfold Ko;cases h:fst (fun i=>if p (bt s i)then none else some i) 0 s.size with
 |none=>
  rw [A5]at h
  grind
 |some r=>
  grind [DU,bt,Option.getD]
variable{s:ByteArray}
theorem Y3(h:s≠⟨#[]⟩):0<s.size:=by
 rcases Nat.eq_zero_or_pos s.size with f|f
 .exfalso;apply h;cases s with|mk d=>congr 1;exact Array.eq_empty_of_size_eq_zero f
 .exact f
end Go.Sf
namespace Go.Sf.Sc
open Go Go.Sf
def Fg(c:Int):Bool:=((decide (97<=c))&&(decide (c<=122)))||((decide (65<=c))&&(decide (c<=90)))
def Aap(c:Int):Bool:=(decide (48<=c))&&(decide (c<=57))
def Pk(c:Int):Bool:=Fg c||Aap c||decide (c=95)
theorem YZ(c:Int):KL c=some (Fg c):=rfl
theorem Vl(c:Int):Jb c=some (Aap c):=rfl
theorem Ym(c:Int):J6 c=some (Fg c):=rfl
theorem aa(c:Int):H0 c=some (Aap c):=rfl
theorem qh(c:Int):Mp c=some (Pk c):=by
 unfold Mp Pk;rw[YZ,bs,Vl]
 grind
variable{s:ByteArray}
theorem cQ(d:(s.size:Int)<=4611686018427387904){ok:Int->K1}{p:Int->Bool}(h:∀c,ok c=some (p c)):Gn s ok=some (Ko p s):=by
 unfold Gn;rw[Lx (c:=fun i=>(if p (bt s i)then none else some i).map .inl) (a:=0) (b:=s.size) (by omega)]
 .rw[TA];unfold Ko;cases fst (fun i=>if p (bt s i)=true then none else some i) 0 s.size<;>rfl
 .grind[Ou,bt,EP,AW]
 .simp
def DZ(s:ByteArray):Bool:=decide (0<s.size)&&Fg (bt s 0)&&decide (s.size<=20)&&decide (Ko Pk s=s.size)
theorem Vj(l:List ByteArray)(v:ByteArray):∃k,slices_Index_string l v=some k/\(0<=k↔v∈l):=by
 unfold slices_Index_string;rw[Bb (fun i=>if(v==AA l i)=true then some i else none)]
 .cases h:fst (fun i=>if(v==AA l i)=true then some i else none) 0 l.length with
  |none=>
   rw [A5]at h;refine⟨-1,rfl,by omega,fun o=>?_⟩
   grind [Bh]
  |some k=>
   obtain ⟨i,d,f,q,_⟩:=DU h;have j:(v==AA l i)=true/\i=k:=by
    grind
   obtain ⟨j,rfl⟩:=j;refine⟨i,rfl,fun _=>?_,fun _=>d⟩
   grind [AF]
 .intro i d f _;simp only[AD d f,bs];split<;>rfl
theorem OO(l:List ByteArray)(v:ByteArray):slices_Contains_string l v=some (l.contains v):=by
 unfold slices_Contains_string;obtain⟨k,d,f⟩:=Vj l v
 grind
theorem qc(z:0<s.size)(w:(s.size:Int)<=4611686018427387904):∃k n e,I5 s=some (k,n,e)/\(((decide (e=0))&&(decide (k=1)))&&(decide (n=(s.size:Int))))=DZ s:=by
 have F:=Sr Pk s;unfold I5 DZ;simp only[Ou (Int.le_refl 0) (show(0:Int)<s.size by omega),bs,YZ,Vl,cQ w qh,cQ w Vl,z,decide_true,Bool.true_and];by_cases d:Fg (bt s 0)=true
 .rw[az d];by_cases f:20<Ko Pk s
  .refine⟨0,0,3,by simp[f],?_⟩;simp[d];intro E h;omega
  .refine⟨1,_,0,by rw[b6 (by simpa using f)],?_⟩;simp only[d,decide_true,Bool.true_and];rw[Bool.eq_iff_iff];simp only[zzX,tg];omega
 .rw[b6 d];have j:Fg (bt s 0)=false:=by simpa using d
  rw [j,Bool.false_and,Bool.false_and];by_cases hd:Aap (bt s 0)=true
  .rw[az hd];by_cases x:9<Ko Aap s
   .exact⟨0,0,3,by simp[x],by simp⟩
   .exact⟨2,_,0,by rw[b6 (by simpa using x)],by simp⟩
  .rw[b6 hd];by_cases y:bt s 0=34
   .have A:=XG (s:=s) (a:=1) (b:=s.size) (by omega) (by omega) (by omega);have o:∀c,Kf c=some (((decide (32<=c))&&(decide (c<=126)))&&(!decide (c=34))):=fun _=>rfl;have B:=Sr (fun c=>((decide (32<=c))&&(decide (c<=126)))&&(!decide (c=34))) (s.extract (1:Int).toNat (s.size:Int).toNat);have q:∃n e,G2 s=some (n,e):=by
     unfold G2;rw[Hp (by omega) (by omega) (by omega),bs,cQ (by omega) o,bs];rw[AW (by omega) (by omega)];by_cases he:1+Ko (fun c=>((decide (32<=c))&&(decide (c<=126)))&&(!decide (c=34))) (s.extract (1:Int).toNat (s.size:Int).toNat)=s.size
     .refine⟨0,2,?_⟩;simp only[he,decide_true,if_true,bs]
     .simp only[he,decide_false,Bool.false_eq_true,if_false];rw[Ou (by omega) (by omega)];simp only[bs];split
      .exact⟨_,_,rfl⟩
      .split
       .exact⟨_,_,rfl⟩
       .exact⟨_,_,rfl⟩
    obtain ⟨n,e,u⟩:=q;refine⟨3,n,e,by rw[az (by simpa using y),u];rfl,by simp⟩
   .rw[b6 (by simpa using y)];have C:∃b,Mn s=some b:=by
     unfold Mn;by_cases h:2<=(s.size:Int)
     .rw[az (by simpa using h),Hp (by omega) (by omega) h];simp only[bs,OO];exact⟨_,rfl⟩
     .rw[b6 (by simpa using h)];exact⟨_,rfl⟩
    obtain ⟨b,D⟩:=C;rw[D,bs];cases b
    .simp only[Bool.false_eq_true,if_false,strings_IndexByte,bs];split
     .exact⟨_,_,_,rfl,rfl⟩
     .exact⟨_,_,_,rfl,rfl⟩
    .exact⟨_,_,_,rfl,rfl⟩
theorem O9(d:(s.size:Int)<=4611686018427387904):Do s=some (DZ s):=by
 unfold Do Jc;simp only[show decide ((1:Int)=3)=false from rfl,Bool.false_eq_true,if_false,bs];by_cases he:s=⟨#[]⟩
 .subst he;rfl
 grind [qc,Y3]
theorem qz(q:(s.size:Int)<=4611686018427387904)(d:Bool):∃n,N5 s 0 d=some n/\0<=n/\n<=s.size/\(d=false->n=Ko Pk s):=by
 have h:=Sr (fun c=>Aap c||(!d&&(Fg c||decide (c=95)))) s;refine⟨Ko (fun c=>Aap c||(!d&&(Fg c||decide (c=95)))) s,?_,h.1,h.2.1,fun hd=>?_⟩
 .unfold N5;rw[Lx (c:=fun i=>(if(Aap (bt s i)||(!d&&(Fg (bt s i)||decide (bt s i=95))))then none else some i).map .inl) (a:=0) (b:=s.size) (by omega)]
  .rw[TA];unfold Ko;cases fst (fun i=>if(Aap (bt s i)||(!d&&(Fg (bt s i)||decide (bt s i=95))))=true then none else some i) 0 s.size<;>rfl
  .intro i o f _;have j:AK (0+i)=i:=by rw[AW (by omega) (by omega)];omega
   simp only[j,f,decide_true,if_true,Ou o f,bs,aa,Ym]
   grind [Aap,bt,Fg,EP,AW]
  .have j:AK (0+(s.size:Int))=s.size:=by rw[AW (by omega) (by omega)];omega
   grind
 .subst hd;congr 1
  grind [Pk,Fg,Aap]
theorem jU(q:0<s.size)(u:(s.size:Int)<=4611686018427387904):∃n,J7 s 0=some n/\(n=0\/(2<=n/\n<=s.size)):=by
 unfold J7;rw[Lx (c:=fun i=>if decide (bt s i=34)=true then some (Sum.inr (i+1):Int ⊕ Int)else if(decide (bt s i<32)||decide (126<bt s i))=true then some (Sum.inr 0)else none) (a:=1) (b:=s.size) (by omega)]
 .cases h:fst (fun i=>if decide (bt s i=34)=true then some (Sum.inr (i+1):Int ⊕ Int)else if(decide (bt s i<32)||decide (126<bt s i))=true then some (Sum.inr 0)else none) 1 s.size with
  |none=>exact⟨0,rfl,.inl rfl⟩|some r=>
   obtain ⟨i,o,f,d,_⟩:=DU h;split at d
   .cases d;exact⟨_,rfl,.inr (by omega)⟩
   .split at d
    .cases d;exact⟨_,rfl,.inl rfl⟩
    .cases d
 .intro i o f _;have j:AK (0+i)=i:=by rw[AW (by omega) (by omega)];omega
  simp only[j,f,decide_true,if_true,Ou (show 0<=i by omega) f,bs,AW (show -9223372036854775808<=i+1 by omega) (by omega)];split
  .rfl
  .split<;>rfl
 .have j:AK (0+(s.size:Int))=s.size:=by rw[AW (by omega) (by omega)];omega
  grind
theorem ub(O:0<s.size)(Q:(s.size:Int)<=4611686018427387904):∃t n e,N4 s 0=some (t,n,e)/\(((decide (e=0))&&(decide (n=(s.size:Int))))&&(decide (t.o3=1)))=DZ s:=by
 obtain ⟨m,M,u,w,N⟩:=qz Q (Aap (bt s 0));unfold N4 DZ;simp only[Ou (Int.le_refl 0) (show(0:Int)<s.size by omega),bs,Ym,aa,O,decide_true,Bool.true_and,M];have S:AK (0+m)=m:=by rw[AW (by omega) (by omega)];omega
 by_cases F:Fg (bt s 0)=true
 .have hd:Aap (bt s 0)=false:=by
   unfold Fg at F;unfold Aap
   grind
  have W:=N hd;subst W;simp only[F,if_true,hd,Bool.false_eq_true,if_false,bs,S];by_cases q:20<Ko Pk s
  .refine⟨_,_,_,by rw[az (by simpa using q)],?_⟩
   grind
  .rw[b6 (by simpa using q),Hp (Int.le_refl _) u w];refine⟨_,_,_,rfl,?_⟩
   grind
 .have G:Fg (bt s 0)=false:=by simpa using F
  simp only[G,Bool.false_eq_true,if_false,bs,Bool.false_and,S];by_cases hd:Aap (bt s 0)=true
  .simp only[hd,if_true,bs];by_cases T:9<m
   .exact⟨_,_,_,by rw[az (by simpa using T)],by simp⟩
   .rw[b6 (by simpa using T),Hp (Int.le_refl _) u w];exact⟨_,_,_,rfl,by simp⟩
  .have H:Aap (bt s 0)=false:=by simpa using hd
   simp only[H,Bool.false_eq_true,if_false,bs];by_cases U:bt s 0=34
   .obtain⟨n,hn,y⟩:=jU O Q;rw[az (by simpa using U),hn,bs];rcases y with rfl|y
    .grind
    .rw[b6 (by simp;omega)];split
     .grind
     .have Z:AK (0+1)=1:=by decide
      have e2:AK (0+n)=n:=by rw[AW (by omega) (by omega)];omega
      rw [Z,e2,AW (show -9223372036854775808<=n-1 by omega) (by omega),Hp (by omega) (by omega) (by omega)];exact⟨_,_,_,rfl,by simp⟩
   .rw[b6 (by simpa using U)];unfold Nb;rw[bs];generalize hL:([(⟨#[45,62]⟩:ByteArray),(⟨#[60,61]⟩:ByteArray),(⟨#[62,61]⟩:ByteArray),(⟨#[61,61]⟩:ByteArray),(⟨#[33,61]⟩:ByteArray),(⟨#[123]⟩:ByteArray),(⟨#[125]⟩:ByteArray),(⟨#[40]⟩:ByteArray),(⟨#[41]⟩:ByteArray),(⟨#[91]⟩:ByteArray),(⟨#[93]⟩:ByteArray),(⟨#[44]⟩:ByteArray),(⟨#[59]⟩:ByteArray),(⟨#[58]⟩:ByteArray),(⟨#[61]⟩:ByteArray),(⟨#[43]⟩:ByteArray),(⟨#[45]⟩:ByteArray),(⟨#[42]⟩:ByteArray),(⟨#[60]⟩:ByteArray),(⟨#[62]⟩:ByteArray),(⟨#[33]⟩:ByteArray),(⟨#[38]⟩:ByteArray),(⟨#[124]⟩:ByteArray),(⟨#[46]⟩:ByteArray),(⟨#[63]⟩:ByteArray)]:List ByteArray)=L;have I:∀x∈L,x.size<=2:=by subst hL;decide
    rcases O4 (f:=(fun(h:Int)(V:Eh)=>
      (idx L h).bind fun A=>
      (if(decide ((AK (0+(A.size:Int)))<=(s.size:Int)))=true then((idx L h).bind fun B=>
      (Aaq s 0 (AK (0+(B.size:Int)))).bind fun C=>
      (idx L h).bind fun D=>
      some (C==D))else some false).bind fun E=>
      if E=true then
      (idx L h).bind fun j=>
      (idx L h).bind fun o=>
      some (Bu.ret (Eh.mk 4 j 0,(o.size:Int),(0:Int)))
      else
      some (Bu.next V))) (fun _ s=>True) (fun _=>True) (fun r=>r.1.o3=4) (a:=0) (b:=L.length) (s:=Eh.mk 0 (⟨#[]⟩:ByteArray) 0) (by omega) trivial (fun i t d z _=>by
      have hx:=I _ (AF d z);have J:AK (0+((AA L i).size:Int))=(AA L i).size:=by rw[AW (by omega) (by omega)];omega
      simp only[AD d z,bs,J];by_cases K:((AA L i).size:Int)<=s.size
      .rw[az (by simpa using K),Hp (by omega) (by omega) K];simp only[bs];split
       .exact .inr (.inr ⟨_,rfl,rfl⟩)
       .exact .inl ⟨_,rfl,trivial⟩
      .rw[b6 (by simpa using K)];simp only[bs];exact .inl ⟨_,rfl,trivial⟩)with⟨s',d,_⟩|⟨r,d,z⟩
    .rw[d];exact⟨_,_,_,rfl,by simp⟩
    .rw[d];exact⟨_,_,_,rfl,by simp[z]⟩
theorem PA(d:(s.size:Int)<=4611686018427387904):E1 s=some (DZ s):=by
 unfold E1 Na Oa;simp only[show decide ((1:Int)=3)=false from rfl,Bool.false_eq_true,if_false,bs];by_cases he:s=⟨#[]⟩
 .subst he;rfl
 grind [ub,Y3]
end Go.Sf.Sc
namespace Go.Sf
variable{ρ β:Type}
def nz(e:Int):a6:=if e=0 then none else some e
theorem Kx(e:Int):(if(!decide (e=0))=true then some (Bu.ret e)else some (Bu.next ()))=some (Pu (nz e)):=by grind[nz,Pu]
theorem pV(b:Bool)(r:ρ):(if b=true then some (Bu.ret r)else some (Bu.next ()))=some (Pu (if b=true then some r else none)):=by
 cases b<;>rfl
variable{kr:ρ->Option β}
theorem B6{σ:Type}{s:σ}{k:σ->Option β}:fl (some (.inl s)) k kr=k s:=rfl
theorem OA{σ:Type}{r:ρ}{k:σ->Option β}:fl (some (.inr r)) k kr=kr r:=rfl
theorem DN(o:Option ρ)(k:Unit->Option β)(kr:ρ->Option β):fl (some (lG o)) k kr=match o with|none=>k ()|some r=>kr r:=by
 cases o<;>rfl
theorem Cc(o:a6):fl (some (lG o)) (fun _=>some 0) (fun v=>some v)=some (o.getD 0):=by
 cases o<;>rfl
variable{a b:Int}
theorem SN{c:Int->Int}(h:(fst (fun i=>nz (c i)) a b).getD 0=0):∀i,a<=i->i<b->c i=0:=by
 have:fst (fun i=>nz (c i)) a b=none:=by
  cases hf:fst (fun i=>nz (c i)) a b with
  |none=>rfl|some r=>
   grind [Option.getD,DU,nz]
 grind [A5,nz]
variable{e:Int}
theorem Fm:nz e=none↔e=0:=by grind[nz]
theorem Tx{α:Type}[Inhabited α]{l:List α}{f:α->K1}{p:α->Bool}(h:∀x∈l,f x=some (p x)):
  (fl (kq (ρ:=Int) (fun(o:Int)(_:Unit)=>(idx l o).bind fun d=>(f d).bind fun j=>if j=true then some (.ret o)else some (.next ())) 0 (l.length:Int) ()) (fun _=>some (-1)) (fun w=>some w))=
   some ((fst (fun i=>if p (AA l i)=true then some i else none) 0 l.length).getD (-1)):=by
 rw [Bb (fun i=>if p (AA l i)=true then some i else none)]
 .rw[DN];cases fst (fun i=>if p (AA l i)=true then some i else none) 0 l.length<;>rfl
 .intro i q u _;rw[AD q u,bs,h _ (AF q u),bs,pV]
theorem WU{α:Type}[Inhabited α]{l:List α}{p:α->Bool}:decide (0<=(fst (fun i=>if p (AA l i)=true then some i else none) 0 l.length).getD (-1))=l.any p:=by
 rw [II,n8];cases h:fst (fun i=>if p (AA l i)=true then some i else none) 0 l.length with
 |none=>
  grind [A5,Option.isSome,Option.isSome_eq_false_iff,Option.isNone_iff_eq_none,AA]
 |some k=>
  grind [DU,AA,Option.getD,Option.isSome,Option.isSome_iff_ne_none,A5]
theorem Ek{α:Type}[Inhabited α]{l:List α}{f:α->K1}{p:α->Bool}(h:∀x∈l,f x=some (p x)):
  ((fl (kq (ρ:=Int) (fun(o:Int)(_:Unit)=>(idx l o).bind fun d=>(f d).bind fun j=>if j=true then some (.ret o)else some (.next ())) 0 (l.length:Int) ()) (fun _=>some (-1)) (fun q=>some q)).bind fun u=>some (decide (0<=u)))=some (l.any p):=by
 rw [Tx h,bs,WU]
end Go.Sf
namespace Go.Sf.Sc
open Go Go.Sf
instance:Inhabited mh:=⟨⟨⟨#[]⟩,0,0,[]⟩⟩
instance:Inhabited BL:=⟨⟨⟨#[]⟩,0,false,[]⟩⟩
instance:Inhabited CB:=⟨⟨⟨#[]⟩,0,0,0,0,0,0⟩⟩
instance:Inhabited Bc:=⟨⟨0,0,0⟩⟩
instance:Inhabited Bv:=⟨⟨0,0,⟨0,0⟩⟩⟩
instance:Inhabited Test:=⟨⟨0,⟨0,0⟩,⟨0,0⟩⟩⟩
instance:Inhabited ea:=⟨⟨0,[],⟨[],[]⟩,⟨⟨[],[]⟩,[],0,[]⟩⟩⟩
variable{l:Fp}
theorem R9{f:Int->K1}{p:Int->Bool}(h:∀x∈l,f x=some (p x)):Ay l f=some (l.any p):=Ek h
theorem Zy{l:List Bc}{f:Bc->K1}{p:Bc->Bool}(h:∀x∈l,f x=some (p x)):BV l f=some (l.any p):=Ek h
theorem Xp{l:List ea}{f:ea->K1}{p:ea->Bool}(h:∀x∈l,f x=some (p x)):Bs l f=some (l.any p):=Ek h
theorem ZS{l:List BL}{p:BL->Bool}:CE l (fun x=>some (p x))=some (l.any p):=Ek (fun _ _=>rfl)
theorem ZR{l:List CB}{p:CB->Bool}:CD l (fun x=>some (p x))=some (l.any p):=Ek (fun _ _=>rfl)
theorem mT{l:List mh}{p:mh->Bool}:Ca l (fun x=>some (p x))=some (l.any p):=Ek (fun _ _=>rfl)
theorem Xq{p:Int->Bool}:Ay l (fun x=>some (p x))=some (l.any p):=Ek (fun _ _=>rfl)
theorem Zz{l:List Bc}{p:Bc->Bool}:BV l (fun x=>some (p x))=some (l.any p):=Ek (fun _ _=>rfl)
theorem Z0{l:List Bv}{p:Bv->Bool}:CJ l (fun x=>some (p x))=some (l.any p):=Ek (fun _ _=>rfl)
theorem p5(l:Fp)(v:Int):slices_Index_int l v=some ((fst (fun i=>if decide (v=AA l i)=true then some i else none) 0 l.length).getD (-1)):=by
 have:=Tx (l:=l) (f:=fun x=>some (decide (v=x))) (p:=fun x=>decide (v=x)) (fun _ _=>rfl);unfold slices_Index_int
 grind
theorem Ks(l:Fp)(v:Int):slices_Contains_int l v=some (l.any fun x=>decide (v=x)):=by grind[slices_Contains_int,p5,WU]
theorem mV(l:ae)(v:Bool):E7 l v=some (l.any fun x=>v==x):=by
 have:=Ek (l:=l) (f:=fun x=>some (v==x)) (p:=fun x=>v==x) (fun _ _=>rfl);unfold E7 IC
 grind
structure Q0(a:mh):Prop where
 name:(a.mr.size:Int)<=40
 names:a.sx.length<=25
 each:∀x∈a.sx,(x.size:Int)<=40
structure A6(t:ej):Prop where
 ek:t.d5.length<=20
 em:t.d7.length<=30
 name:∀n∈t.d5,(n.mr.size:Int)<=40
 Abq:∀n∈t.d5,n.r0.length<=30
 each:∀n∈t.d5,∀a∈n.r0,Q0 a
 AbX:∀e∈t.d7,(e.mr.size:Int)<=40
def par(t:ej)(i:Int):Int:=(AA t.d5 i).x8
def D8(t:ej)(k:Int):Prop:=∀i,0<=i->i<k->-1<=par t i/\par t i<i
def Be(t:ej):Nat->Int->List mh
 |0,_=>[]|n+1,a=>if a<0 then[]else Be t n (par t a)++(AA t.d5 a).r0
def Au(t:ej)(a:Int):List mh:=Be t (a+1).toNat a
variable{t:ej}{a:Int}
theorem Im{n:Nat}(h:a<0):Be t n a=[]:=by
 cases n with
 |zero=>rfl|succ n=>rw[Be,az h]
variable{k:Int}
theorem Ln(d:D8 t k):∀(n m:Nat)(a:Int),a<k->a<n->a<m->Be t n a=Be t m a
 |n,m,a,h,j,o=>by
  by_cases f:a<0
  .grind[Im]
  .cases n with
   |zero=>omega|succ n=>
    cases m with
    |zero=>omega|succ m=>
     rw [Be,Be,b6 f,b6 f];have:=d a (by omega) h;rw[Ln d n m (par t a) (by omega) (by omega) (by omega)]
theorem L5(hf:A6 t)(f:k<=t.d5.length)(d:D8 t k):∀(n:Nat)(a:Int),a<k->((Be t n a).length:Int)<=30*n
 |0,_,_=>by simp[Be]|n+1,a,h=>by
  rw [Be];split
  .simp;omega
  .rename_i j;have o:=d a (by omega) h;have q:=L5 hf f d n (par t a) (by omega);have u:=hf.Abq _ (AF (l:=t.d5) (show 0<=a by omega) (by omega))
   grind
theorem UU(hf:A6 t)(h:k<=t.d5.length)(f:D8 t k):∀(n:Nat)(a:Int),a<k->∀x∈Be t n a,Q0 x
 |0,_,_=>by simp[Be]|n+1,a,j=>by
  rw [Be];split
  .simp
  .rename_i o;have q:=f a (by omega) j;intro x d;rcases List.mem_append.1 d with d|d
   .exact UU hf h f n (par t a) (by omega) x d
   .exact hf.each _ (AF (l:=t.d5) (show 0<=a by omega) (by omega)) x d
theorem HP(hf:A6 t)(d:k<=t.d5.length)(f:D8 t k)(h:a<k):(Au t a).length<=600:=by
 have:=L5 hf d f (a+1).toNat a h;have:=hf.ek;unfold Au;omega
theorem L6(hf:A6 t)(d:k<=t.d5.length)(f:D8 t k)(h:a<k):∀x∈Au t a,Q0 x:=UU hf d f _ a h
theorem YV(hf:A6 t)(j:k<=t.d5.length)(h:D8 t k):∀(n:Nat)(a:Int),0<=a->a<k->a<n->C1 n t a=some (Be t n a)
 |0,_,_,_,_=>by omega|n+1,a,q,z,D=>by
  have A:=h a (by omega) z;have u:=L5 hf j h n (par t a) (by omega);have B:=hf.Abq _ (AF (l:=t.d5) q (by omega));have C:=hf.ek;rw[C1,Be,b6 (by omega),AD q (by omega)];simp only[bs];show((if decide (0<=par t a)=true then(C1 n t (par t a)).bind fun f=>some f else some []).bind _)=_;have e:(if decide (0<=par t a)=true then(C1 n t (par t a)).bind fun f=>some f else some [])=some (Be t n (par t a)):=by
   by_cases o:0<=par t a
   .rw[az (by simpa using o),YV hf j h n (par t a) o (by omega) (by omega)];rfl
   .rw[b6 (by simpa using o),Im (by omega)]
  have w:(Be t n (par t a)).length+(AA t.d5 a).r0.length<=At:=by
   unfold At;have:((Be t n (par t a)).length:Int)<=30*n:=u;have x:Be t n (par t a)=Be t 20 (par t a):=by
    by_cases d:par t a<0
    .rw[Im d,Im d]
    .exact Ln h n 20 (par t a) (by omega) (by omega) (by omega)
   have y:=L5 hf j h 20 (par t a) (by omega);rw[<-x]at y;omega
  rw [e,bs,AY w];rfl
theorem aN(hf:A6 t)(d:k<=t.d5.length)(f:D8 t k)(h:0<=a)(j:a<k):LM t a=some (Au t a):=
 E0 (a+1).toNat fun n o=>by
  grind [YV,Au,Ln]
theorem Yj(hf:A6 t)(h:k<=t.d5.length)(f:D8 t k):∀(n:Nat)(a:Int),-1<=a->a<k->a+1<n->F6 n t a=some (Be t n a)
 |0,_,_,_,_=>by omega|n+1,a,z,u,A=>by
  rw [F6,Be];by_cases d:a<0
  .grind
  .have w:=f a (by omega) u;have x:=hf.Abq _ (AF (l:=t.d5) (show 0<=a by omega) (by omega));have y:=hf.ek;rw[b6 (by simpa using d),b6 d,AD (by omega) (by omega)];simp only[bs];have j:Be t n (par t a)=Be t 20 (par t a):=by
    by_cases d:par t a<0
    .rw[Im d,Im d]
    .exact Ln f n 20 (par t a) (by omega) (by omega) (by omega)
   have o:=L5 hf h f 20 (par t a) (by omega);rw[<-j]at o;have q:(Be t n (par t a)).length+(AA t.d5 a).r0.length<=At:=by unfold At;omega
   rw [show(AA t.d5 a).x8=par t a from rfl,Yj hf h f n (par t a) (by omega) (by omega) (by omega),bs,AY (by simp;unfold At;omega)];simp only[bs,List.nil_append];rw[AY q];rfl
theorem aY(hf:A6 t)(d:k<=t.d5.length)(f:D8 t k)(h:0<=a)(j:a<k):Nc t a=some (Au t a):=
 E0 (a+2).toNat fun n o=>by
  grind [Yj,Au,Ln]
end Go.Sf.Sc
namespace Go.Sf.Sc
open Go Go.Sf
def J4(l:List ByteArray):Int:=
 if (20:Int)<l.length then 3 else(fst (fun i=>if DZ (AA l i)=false then some 2 else if n8 (fun j=>AA l j==AA l i) 0 i=true then some 5 else none) 0 l.length).getD 0
variable{b:Int}
theorem Xt{l:List ByteArray}{x:ByteArray}(d:0<=b)(f:b<=l.length):(l.take b.toNat).contains x=n8 (fun j=>AA l j==x) 0 b:=by
 rw [List.contains_eq_any_beq,Oz d f]
 grind
theorem nP{l:List ByteArray}(o:∀x∈l,(x.size:Int)<=40):H7 l=some (J4 l):=by
 unfold H7 J4;by_cases d:(20:Int)<l.length
 .grind
 .rw[b6 (by simpa using d),b6 d];rw[Bb (fun i=>if DZ (AA l i)=false then some 2 else if n8 (fun j=>AA l j==AA l i) 0 i=true then some 5 else none),Cc];intro i f h _;have q:=o _ (AF f h);rw[AD f h,bs,O9 (by omega),bs,Fr f (by omega)];simp only[bs,OO,Xt f (show i<=l.length by omega)];cases DZ (AA l i)<;>cases n8 (fun j=>AA l j==AA l i) 0 i<;>rfl
theorem ni{l:List ByteArray}(o:∀x∈l,(x.size:Int)<=40):K0 l=some (J4 l):=by
 unfold K0 J4;by_cases d:(20:Int)<l.length
 .grind
 .rw[b6 (by simpa using d),b6 d];rw[Bb (fun i=>if DZ (AA l i)=false then some 2 else if n8 (fun j=>AA l j==AA l i) 0 i=true then some 5 else none),Cc];intro i f h _;have q:=o _ (AF f h);rw[AD f h,bs,PA (by omega),bs,Br (fun j=>AA l j==AA l i) 5]
  .cases DZ (AA l i)<;>cases n8 (fun j=>AA l j==AA l i) 0 i<;>rfl
  grind [AD]
def KQ(all:List mh)(k:Int):Int:=
 let x:=AA all k
 if DZ x.mr=false then 2 else if n8 (fun j=>(AA all j).mr==x.mr) 0 k=true then 5 else
 if x.sx.length=0 then(if -1000000<=x.Low/\x.Low<=x.Aam/\x.Aam<=1000000 then 0 else 6)else
 if J4 x.sx≠0 then J4 x.sx else if x.Low=0/\x.Aam=x.sx.length-1 then 0 else 6
variable{k:Int}
theorem Ze{d:List mh}(q:∀x∈d,Q0 x)(o:0<=k)(u:k<d.length):E9 (AA d k) (d.take k.toNat)=some (KQ d k):=by
 have j:=q _ (AF o u);have A:=j.name;unfold E9 KQ;dsimp only;rw[O9 (by omega),bs,show(fun f=>IE f (AA d k))=(fun f=>some (f.mr==(AA d k).mr))from rfl,mT,bs,Oz o (by omega),nP j.each,bs];have w:=j.names;have y:AK ((AA d k).sx.length-1)=(AA d k).sx.length-1:=AW (by omega) (by omega);rw[y];have z:(AA d k).sx.length=0->J4 (AA d k).sx=0:=fun h=>by rw[List.eq_nil_of_length_eq_zero h];rfl
 generalize J4 (AA d k).sx=e at z|-;simp only[bs,zzX,Bool.or_eq_true,tg,Bool.not_eq_true',decide_eq_false_iff_not,Bool.not_eq_false',Bool.or_eq_false_iff,Bool.and_eq_false_iff,ne_eq]
 repeat' (first|rfl|(exfalso;omega;done)|split)
 all_goals (first|rfl|(exfalso;omega)|omega|simp_all|(simp_all;omega))
theorem Zg{x:mh}(d:Q0 x):Hi x=some (
 if x.sx.length=0 then(if -1000000<=x.Low/\x.Low<=x.Aam/\x.Aam<=1000000 then 0 else 6)else
 if J4 x.sx≠0 then J4 x.sx else if x.Low=0/\x.Aam=x.sx.length-1 then 0 else 6):=by
 have f:=d.names;have h:AK (x.sx.length-1)=x.sx.length-1:=AW (by omega) (by omega);unfold Hi DW;simp only[bs,h,ni d.each];generalize J4 x.sx=e;simp only[bs,zzX,Bool.or_eq_true,tg,Bool.not_eq_true',decide_eq_false_iff_not,Bool.not_eq_false',Bool.or_eq_false_iff,Bool.and_eq_false_iff,ne_eq]
 repeat' (first|rfl|(exfalso;omega;done)|split)
 all_goals (first|rfl|(exfalso;omega)|omega|simp_all|(simp_all;omega))
def G8(t:ej)(i:Int):Int:=
 let n:=AA t.d5 i
 if DZ n.mr=false then 2 else if n8 (fun j=>(AA t.d5 j).mr==n.mr) 0 i=true then 5 else
 if n.x8< -1\/i<=n.x8 then 6 else if 4<n.r0.length\/8<(Au t i).length then 3 else
 (fst (fun k=>nz (KQ (Au t i) k)) ((Au t i).length-n.r0.length) (Au t i).length).getD 0
variable{t:ej}{i:Int}
theorem UW(d:0<=i):(AA t.d5 i).r0.length<=(Au t i).length:=by
 unfold Au;rw[show(i+1).toNat=i.toNat+1 by omega,Be,b6 (by omega),cE];omega
theorem D8.next(h:D8 t i)(f:-1<=par t i)(o:par t i<i):D8 t (i+1):=by
 intro j d q;by_cases u:j=i
 .grind
 .exact h j d (by omega)
theorem qe(hf:A6 t)(f:0<=i)(w:i<t.d5.length)(A:D8 t i):I8 t i=some (G8 t i):=by
 have C:=hf.name _ (AF f w);unfold I8 G8;dsimp only;rw[AD f w,bs,O9 (by omega),bs,Fr f (by omega),bs,show(fun q=>Mr q (AA t.d5 i))=(fun q=>some (q.mr==(AA t.d5 i).mr))from rfl,ZS,bs,Oz f (by omega)];cases DZ (AA t.d5 i).mr
 .rfl
 .cases n8 (fun j=>(AA t.d5 j).mr==(AA t.d5 i).mr) 0 i
  .by_cases h:(AA t.d5 i).x8< -1\/i<=(AA t.d5 i).x8
   .rcases h with h|h<;>simp[h]
   .have d:D8 t (i+1):=A.next (by unfold par;omega) (by unfold par;omega)
    have u:(decide ((AA t.d5 i).x8< -1)||decide (i<=(AA t.d5 i).x8))=false:=by
     rw [Bool.eq_false_iff];simpa using h
    rw [aN hf (k:=i+1) (by omega) d f (by omega),bs];have y:=HP hf (k:=i+1) (a:=i) (by omega) d (by omega);have z:=UW (t:=t) f;have o:=L6 hf (k:=i+1) (a:=i) (by omega) d (by omega);rw[AW (by omega) (by omega),Bb (fun k=>nz (KQ (Au t i) k)),Cc]
    .simp only[u,h,Bool.not_true,Bool.false_eq_true,if_false];simp only[bs,zzX,Bool.or_eq_true,tg,Bool.not_eq_true',decide_eq_false_iff_not,Bool.not_eq_false',Bool.or_eq_false_iff,Bool.and_eq_false_iff,ne_eq]
     repeat' (first|rfl|(exfalso;omega;done)|split)
     all_goals (first|rfl|(exfalso;omega)|omega|simp_all|(simp_all;omega))
    .intro k B x _;rw[AD (by omega) x,bs,Fr (by omega) (by omega),bs,Ze o (by omega) x,bs,Kx]
  .rfl
theorem qx(hf:A6 t)(h:0<=i)(q:i<t.d5.length)(A:D8 t i):MS t i=some (G8 t i):=by
 have E:=hf.name _ (AF h q);have F:=hf.ek;unfold MS G8 DW;dsimp only;rw[AD h q,bs,PA (by omega),bs,Br (fun j=>(AA t.d5 j).mr==(AA t.d5 i).mr) 5]
 .cases DZ (AA t.d5 i).mr
  .rfl
  .cases n8 (fun j=>(AA t.d5 j).mr==(AA t.d5 i).mr) 0 i
   .simp only[Bool.not_true,Bool.false_eq_true,if_false,B6,bs];rw[AW (by omega) (by omega)];by_cases w:(AA t.d5 i).x8< -1\/i<=(AA t.d5 i).x8
    .rw[az,b6 (by decide),az w];simp;omega
    .have d:D8 t (i+1):=A.next (by unfold par;omega) (by unfold par;omega)
     rw [b6 (by simp;omega),b6 (by decide),b6 w];rw[aY hf (k:=i+1) (by omega) d h (by omega),bs];have x:=HP hf (k:=i+1) (a:=i) (by omega) d (by omega);have y:=UW (t:=t) h;have f:=L6 hf (k:=i+1) (a:=i) (by omega) d (by omega);rw[AW (by omega) (by omega)];rw[Bb (fun k=>nz (KQ (Au t i) k)),Cc]
     .simp only[bs,zzX,Bool.or_eq_true,tg,Bool.not_eq_true',decide_eq_false_iff_not,Bool.not_eq_false',Bool.or_eq_false_iff,Bool.and_eq_false_iff,ne_eq]
      repeat' (first|rfl|(exfalso;omega;done)|split)
      all_goals (first|rfl|(exfalso;omega)|omega|simp_all|(simp_all;omega))
     .intro k u o _;have z:=f _ (AF (show 0<=k by omega) o);have C:=z.name;simp only[AD (show 0<=k by omega) o,bs];rw[PA (by omega),bs,Br (fun j=>(AA (Au t i) j).mr==(AA (Au t i) k).mr) 5]
      .rw[Zg z];simp only[bs,Kx];unfold KQ;dsimp only;cases DZ (AA (Au t i) k).mr
       .rfl
       .cases n8 (fun j=>(AA (Au t i) j).mr==(AA (Au t i) k).mr) 0 k<;>rfl
      .intro j B D _;rw[AD B (by omega),bs];split<;>rfl
   .rfl
 .intro j u o _;rw[AD u (by omega),bs];split<;>rfl
def Jx(low high:Int):Bool:=((decide (0<=low))&&(decide (low<=40)))&&((decide (high=(-1)))||((decide (low<=high))&&(decide (high<=40))))
theorem nZ(low high:Int):JT low high=some (Jx low high):=by
 unfold JT Jx DW
 grind
def Is(t:ej)(i:Int):Int:=
 let x:=AA t.d7 i
 if DZ x.mr=false then 2 else if n8 (fun j=>(AA t.d7 j).mr==x.mr) 0 i=true then 5 else
 if (0<=x.nd/\x.nd<t.d5.length)/\(0<=x.To/\x.To<t.d5.length)/\Jx x.Aa5 x.AaO=true/\Jx x.Abv x.Aa4=true then 0 else 6
theorem qV(hf:A6 t)(d:0<=i)(h:i<t.d7.length):I6 t i=some (Is t i):=by
 have o:=hf.AbX _ (AF d h);unfold I6 Is KM;dsimp only;rw[AD d h,bs,O9 (by omega),bs,Fr d (by omega),bs,show(fun f=>Mq f (AA t.d7 i))=(fun f=>some (f.mr==(AA t.d7 i).mr))from rfl,ZR,bs,Oz d (by omega)];simp[show∀a b,JO a b=some (Jx a b)from fun _ _=>rfl];generalize DZ (AA t.d7 i).mr=b1;generalize n8 (fun j=>(AA t.d7 j).mr==(AA t.d7 i).mr) 0 i=b2;generalize Jx (AA t.d7 i).Aa5 (AA t.d7 i).AaO=b3;generalize Jx (AA t.d7 i).Abv (AA t.d7 i).Aa4=b4;cases b1
 .rfl
 grind
theorem qt(hf:A6 t)(o:0<=i)(q:i<t.d7.length):MR t i=some (Is t i):=by
 have w:=hf.AbX _ (AF o q);have x:=hf.ek;unfold MR Is DW;dsimp only;rw[AD o q,bs,PA (by omega),bs,Br (fun j=>(AA t.d7 j).mr==(AA t.d7 i).mr) 5]
 .simp only[AW (show -9223372036854775808<=(t.d5.length:Int)-1 by omega) (by omega),nZ,bs];generalize DZ (AA t.d7 i).mr=b1;generalize n8 (fun j=>(AA t.d7 j).mr==(AA t.d7 i).mr) 0 i=b2;generalize Jx (AA t.d7 i).Aa5 (AA t.d7 i).AaO=b3;generalize Jx (AA t.d7 i).Abv (AA t.d7 i).Aa4=b4;cases b1
  .rfl
  .cases b2
   .cases b3<;>cases b4
    all_goals
     by_cases f:0<=(AA t.d7 i).nd/\(AA t.d7 i).nd<t.d5.length
     .have d:(AA t.d7 i).nd<=(t.d5.length:Int)-1:=by omega
      by_cases u:0<=(AA t.d7 i).To/\(AA t.d7 i).To<t.d5.length
      .have h:(AA t.d7 i).To<=(t.d5.length:Int)-1:=by omega
       simp [f,u,d,h,B6]
      .have:(decide (0<=(AA t.d7 i).To)&&decide ((AA t.d7 i).To<=(t.d5.length:Int)-1))=false:=by rw[Bool.eq_false_iff];simp;omega
       simp [f,u,d,this,B6]
     .have:(decide (0<=(AA t.d7 i).nd)&&decide ((AA t.d7 i).nd<=(t.d5.length:Int)-1))=false:=by rw[Bool.eq_false_iff];simp;omega
      simp [f,this,B6]
   .rfl
 grind [AD]
def A1(t:ej):ByteArray×Int:=
 if t.d5.length=0 then(⟨#[]⟩,7)else if 12<t.d5.length\/20<t.d7.length then(⟨#[]⟩,3)else
 match fst (fun i=>(nz (G8 t i)).map fun e=>((AA t.d5 i).mr,e)) 0 t.d5.length with
 |some r=>r|none=>(fst (fun i=>(nz (Is t i)).map fun e=>((AA t.d7 i).mr,e)) 0 t.d7.length).getD (⟨#[]⟩,0)
theorem eY(h:G8 t i=0):-1<=par t i/\par t i<i:=by grind[G8,par,AA]
theorem Lf{α β:Type}{o:Option α}{g:α->β}:o.map g=none↔o=none:=by cases o<;>simp
theorem T6(h:∀j,0<=j->j<i->G8 t j=0):D8 t i:=fun j d f=>eY (h j d f)
theorem TF{ρ:Type}(e:Int)(n:ByteArray):(if(!decide (e=0))=true then some (Bu.ret (n,e))else some (Bu.next ()))=some (Pu ((nz e).map fun e=>(n,e))):=by grind[nz,Pu]
theorem Lv(hf:A6 t):DJ t=some (A1 t):=by
 unfold DJ A1;rw[Bb (fun i=>(nz (G8 t i)).map fun e=>((AA t.d5 i).mr,e)),DN]
 .rw[Bb (fun i=>(nz (Is t i)).map fun e=>((AA t.d7 i).mr,e)),DN]
  .cases fst (fun i=>(nz (G8 t i)).map fun e=>((AA t.d5 i).mr,e)) 0 t.d5.length<;>cases fst (fun i=>(nz (Is t i)).map fun e=>((AA t.d7 i).mr,e)) 0 t.d7.length
   all_goals dsimp only
   all_goals try simp only[Option.getD]
   all_goals
    simp only[bs,zzX,Bool.or_eq_true,tg,Bool.not_eq_true',decide_eq_false_iff_not,Bool.not_eq_false',Bool.or_eq_false_iff,Bool.and_eq_false_iff,ne_eq]
    repeat' (first|rfl|(exfalso;omega;done)|split)
    all_goals (first|rfl|(exfalso;omega)|omega|simp_all|(simp_all;omega))
  .intro i d f _;rw[AD d f,bs,qV hf d f,bs];exact TF (ρ:=Unit) _ _
 .intro i d f q;have u:D8 t i:=T6 fun j h o=>Fm.1 (Lf.1 (q j h o));rw[AD d f,bs,qe hf d f u,bs];exact TF (ρ:=Unit) _ _
theorem Ot(hf:A6 t):Eo t=some (A1 t):=by
 unfold Eo A1;rw[Bb (fun i=>(nz (G8 t i)).map fun e=>((AA t.d5 i).mr,e)),DN]
 .rw[Bb (fun i=>(nz (Is t i)).map fun e=>((AA t.d7 i).mr,e)),DN]
  .cases fst (fun i=>(nz (G8 t i)).map fun e=>((AA t.d5 i).mr,e)) 0 t.d5.length<;>cases fst (fun i=>(nz (Is t i)).map fun e=>((AA t.d7 i).mr,e)) 0 t.d7.length
   all_goals dsimp only
   all_goals try simp only[Option.getD]
   all_goals
    simp only[bs,zzX,Bool.or_eq_true,tg,Bool.not_eq_true',decide_eq_false_iff_not,Bool.not_eq_false',Bool.or_eq_false_iff,Bool.and_eq_false_iff,ne_eq]
    repeat' (first|rfl|(exfalso;omega;done)|split)
    all_goals (first|rfl|(exfalso;omega)|omega|simp_all|(simp_all;omega))
  .intro i d f _;simp only[qt hf d f,AD d f,bs];exact TF (ρ:=Unit) _ _
 .intro i d f q;have u:D8 t i:=T6 fun j h o=>Fm.1 (Lf.1 (q j h o));simp only[qx hf d f u,AD d f,bs];exact TF (ρ:=Unit) _ _
end Go.Sf.Sc
namespace Go.Sf.Sc
open Go Go.Sf
theorem Km{α:Type}{c:Bool}{a b:α}:(if c=true then some a else some b)=some (if c=true then a else b):=by cases c<;>rfl
def LS(n:Int):Bool:=(decide (0<=n))&&(decide (n<=99))
def RG(e:Bc)(n:Int):Bool:=LS e.mt&&(decide (0<=e.nd)&&decide (e.nd<n))&&(decide (0<=e.To)&&decide (e.To<n))
def Bn(g:d6):Int:=
 if 40<g.d5.length\/80<g.d7.length then 3 else if(g.d5.any fun n=>!LS n)=true then 6 else if(g.d7.any fun e=>!RG e g.d5.length)=true then 6 else 0
structure CN(g:d6):Prop where
 ek:g.d5.length<=40
 em:g.d7.length<=80
 kind:∀n∈g.d5,0<=n/\n<=99
 fit:∀e∈g.d7,(0<=e.mt/\e.mt<=99)/\(0<=e.nd/\e.nd<g.d5.length)/\(0<=e.To/\e.To<g.d5.length)
variable{g:d6}
theorem Cp(h:Bn g=0):CN g:=by
 unfold Bn at h;split at h
 .cases h
 .split at h
  .cases h
  .split at h
   .cases h
   .rename_i o f d;refine⟨by omega,by omega,fun n j=>?_,fun e he=>?_⟩
    .rw[Bool.not_eq_true,List.any_eq_false]at f
     grind [LS]
    .rw[Bool.not_eq_true,List.any_eq_false]at d;have:=d e he;simp[RG,LS,Bool.not_eq_true',zzX]at this;omega
theorem qY{e:Bc}{n:Nat}(h:n<=40):MG e n=some (RG e n):=by
 unfold MG Gu RG LS;simp only[bs,AW (show -9223372036854775808<=(n:Int)-1 by omega) (by omega)];have d:decide (e.nd<=(n:Int)-1)=decide (e.nd<n):=by rw[decide_eq_decide];omega
 have f:decide (e.To<=(n:Int)-1)=decide (e.To<n):=by rw[decide_eq_decide];omega
 rw [d,f];generalize (decide (0<=e.mt)&&decide (e.mt<=99))=b1;generalize (decide (0<=e.nd)&&decide (e.nd<n))=b2;cases b1<;>cases b2<;>simp
theorem KX(g:d6):Cm g=some (Bn g):=by
 unfold Cm Bn;by_cases h:40<g.d5.length\/80<g.d7.length
 .grind
 .rw[b6 (by simp;omega),b6 h,show LQ=(fun n=>some (!LS n))from rfl,Xq,Zy (p:=fun e=>!RG e g.d5.length) (fun e _=>by
   grind [LR,qY])]
  grind
theorem KY(g:d6):DI g=some (Bn g):=by
 unfold DI Bn;by_cases h:40<g.d5.length\/80<g.d7.length
 .grind
 .rw[b6 (by simp;omega),b6 h,II,II,Br (fun i=>!LS (AA g.d5 i)) 6]
  .rw[Br (fun i=>!RG (AA g.d7 i) g.d5.length) 6]
   .cases n8 (fun i=>!LS (AA g.d5 i)) 0 g.d5.length
    .cases n8 (fun i=>!RG (AA g.d7 i) g.d5.length) 0 g.d7.length<;>rfl
    .rfl
   .intro i d f _;rw[AD d f,bs];unfold Nd RG;simp[show∀n,KZ n=some (LS n)from fun _=>rfl]
    grind
  grind [AD,KZ,AA,LS]
def CW(t:ej)(g:d6):Bool:=!(g.d5.any fun n=>decide (t.d5.length<=n))&&!(g.d7.any fun e=>decide (t.d7.length<=e.mt))
variable{t:ej}
theorem GN(d:CN g)(h:CW t g=true):(∀n∈g.d5,0<=n/\n<t.d5.length)/\∀e∈g.d7,0<=e.mt/\e.mt<t.d7.length:=by
 unfold CW at h;simp[Bool.not_eq_true',zzX]at h;refine⟨fun n f=>?_,fun e he=>?_⟩
 .have:=h.1 n f;have:=d.kind n f;omega
 .have:=h.2 e he;have:=d.fit e he;omega
theorem nT(t:ej)(g:d6):I0 t g=some (CW t g):=by grind[I0,CW,Mj,Xq,Mk,Bc,Zz]
theorem Vp(h:CN g):Gl t g=some (CW t g):=by
 unfold Gl CW;rw[II,II,Br (fun i=>decide (t.d5.length<=AA g.d5 i)) false]
 .rw[Br (fun i=>decide (t.d7.length<=(AA g.d7 i).mt)) false]
  .cases n8 (fun i=>decide (t.d5.length<=AA g.d5 i)) 0 g.d5.length
   .cases n8 (fun i=>decide (t.d7.length<=(AA g.d7 i).mt)) 0 g.d7.length<;>rfl
   .rfl
  .intro i d f _;have:=(h.fit _ (AF d f)).1.1;simp[AD d f]
   grind
 .intro i d f _;have:=(h.kind _ (AF d f)).1;simp[AD d f]
  grind
structure FA(t:ej):Prop where
 ek:t.d5.length<=12
 em:t.d7.length<=20
 node:∀i:Int,0<=i->i<t.d5.length->G8 t i=0
 edge:∀i:Int,0<=i->i<t.d7.length->Is t i=0
theorem C8(h:(A1 t).2=0):FA t:=by
 unfold A1 at h;split at h
 .cases h
 .split at h
  .cases h
  .rename_i u w;have f:∀i:Int,0<=i->i<t.d5.length->G8 t i=0:=by
    grind [DU,nz,Fm,Lf,A5]
   have he:∀i:Int,0<=i->i<t.d7.length->Is t i=0:=by
    split at h
    .rename_i r d;obtain⟨i,o,q,j,_⟩:=DU d;rw[f i o q]at j;cases j
    .cases d:fst (fun i=>(nz (Is t i)).map fun e=>((AA t.d7 i).mr,e)) 0 t.d7.length with
     |some r=>
      grind [DU,nz]
     |none=>
      grind [Fm,Lf,A5]
   exact ⟨by omega,by omega,f,he⟩
theorem FA.par(h:FA t):D8 t t.d5.length:=T6 h.node
variable{i:Int}
theorem FA.ends(h:FA t)(d:0<=i)(f:i<t.d7.length):(0<=(AA t.d7 i).nd/\(AA t.d7 i).nd<t.d5.length)/\(0<=(AA t.d7 i).To/\(AA t.d7 i).To<t.d5.length):=by
 have:=h.edge i d f
 grind [Is]
def Jh(t:ej)(a:Int):Bool:=decide (0<=a)&&decide (a<t.d5.length)
variable{a:Int}
theorem KW:Jh t a=true↔0<=a/\a<t.d5.length:=by unfold Jh;simp
theorem Vm(hf:A6 t)(l:Fp):F3 t l=some (if(A1 t).2≠0 then(A1 t).2 else if(l.all (Jh t))=true then 0 else 6):=by
 unfold F3;rw[Lv hf,bs,R9 (p:=fun a=>!Jh t a) (fun a _=>by unfold Lb Jh;rw[show decide (a<0)=!decide (0<=a)from by rw[<-decide_not,decide_eq_decide];omega,show decide ((t.d5.length:Int)<=a)=!decide (a<t.d5.length)from by rw[<-decide_not,decide_eq_decide];omega,Bool.not_and]),bs]
 grind
theorem ac(hf:A6 t)(a b:Int):JU t a b=some (if(A1 t).2≠0 then(A1 t).2 else if(Jh t a&&Jh t b)=true then 0 else 6):=by
 have d:=hf.ek;have e:∀a,decide (a<=(t.d5.length:Int)-1)=decide (a<(t.d5.length:Int)):=fun a=>by rw[decide_eq_decide];omega
 unfold JU DW;rw[Ot hf,bs]
 grind [AW,A1,Jh]
theorem fv{α:Type}[Inhabited α]{l:List α}(d:0<=i)(f:i<l.length):BN l i (AA l i)=l:=by grind[BN,AA,List.getElem?_eq_getElem,List.set_getElem_self]
theorem B3{α:Type}[Inhabited α]{l:List α}(d:0<=i)(f:i<l.length):l.take (i+1).toNat=l.take i.toNat++[AA l i]:=by
 unfold AA;rw[show(i+1).toNat=i.toNat+1 by omega,List.take_add_one,List.getD_eq_getElem?_getD,List.getElem?_eq_getElem (by omega)];rfl
theorem Bq{α:Type}{l:List α}(h:l.length<=At):AZ [] l=some l:=by grind[AY]
def EW(t:ej)(a:Int):List mh×Int:=if(A1 t).2≠0 then([],(A1 t).2)else if Jh t a=true then(Au t a,0)else([],6)
theorem Qs(hf:A6 t)(a:Int):EL t a=some (EW t a):=by
 unfold EL EW;rw[Vm hf,bs];by_cases h:(A1 t).2=0
 .have j:=C8 h;have e:[a].all (Jh t)=Jh t a:=by simp
  rw [e];simp[h];cases hi:Jh t a
  .rfl
  .rw[az rfl,az rfl];have o:=KW.1 hi;have D:=HP hf (Int.le_refl _) j.par o.2;have B:=L6 hf (Int.le_refl _) j.par o.2;rw[b6 (by decide),aN hf (Int.le_refl _) j.par o.1 o.2,bs];obtain⟨s',C,rfl⟩:=M7 (f:=(fun(q:Int)(u:List mh)=>
 (idx u q).bind fun w=>
 (slices_Clone_string w.sx).bind fun x=>
 (idx u q).bind fun d=>
 some (BN u q (mh.mk d.mr d.Low d.Aam x)))) (fun _ s=>s=Au t a) (a:=0) (b:=(Au t a).length) (s:=Au t a) (by omega) rfl (fun i s y z A=>by
     subst A;have:=(B _ (AF y z)).names;refine⟨Au t a,?_,rfl⟩;unfold slices_Clone_string;rw[AD y z,bs,Bq (by unfold At;omega),bs,bs];congr 1;exact fv y z)
   rw [C];rfl
 .simp[h,not_false_eq_true,decide_false]
theorem Oq(hf:A6 t)(a:Int):Em t a=some (EW t a):=by
 unfold Em EW;rw[ac hf,bs];by_cases h:(A1 t).2=0
 .have d:=C8 h;rw[Bool.and_self];simp only[h,ne_eq,not_true_eq_false,if_false];cases hi:Jh t a
  .rfl
  .rw[az rfl,az rfl];have f:=KW.1 hi;have u:=HP hf (Int.le_refl _) d.par f.2;have q:=L6 hf (Int.le_refl _) d.par f.2;rw[b6 (by decide),aY hf (Int.le_refl _) d.par f.1 f.2,bs];rw[Bz (fun i=>(Au t a).take i.toNat) (by omega) (by simp)]
   .rw[bs,Int.toNat_natCast,List.take_length]
   .intro i j o;have:=(q _ (AF j o)).names;rw[AD j o,bs,Bq (by unfold At;omega),bs,AY (by rw[ca];simp;unfold At;omega),B3 j o];rfl
 grind
end Go.Sf.Sc
namespace Go.Sf.Sc
open Go Go.Sf
def IZ(t:ej):Nat->Int->Fp
 |0,_=>[]|n+1,a=>if a<0 then[]else a::IZ t n (par t a)
variable{t:ej}{k:Int}
theorem gU(f:D8 t k):∀(n m:Nat)(a:Int),a<k->a<n->a<m->IZ t n a=IZ t m a
 |n,m,a,h,j,o=>by
  by_cases d:a<0
  .cases n<;>cases m<;>simp[IZ,d]
  .cases n with
   |zero=>omega|succ n=>
    cases m with
    |zero=>omega|succ m=>
     rw [IZ,IZ,b6 d,b6 d];have:=f a (by omega) h;rw[gU f n m (par t a) (by omega) (by omega) (by omega)]
theorem bA(t:ej):∀(n:Nat)(a:Int),(IZ t n a).length<=n
 |0,_=>by simp[IZ]|n+1,a=>by
  rw [IZ];split
  .simp
  .have:=bA t n (par t a);simp;omega
def Gv(t:ej)(a b:Int):Bool:=(IZ t (a+1).toNat a).any fun x=>decide (b=x)
theorem aE(f:t.d5.length<=12)(q:D8 t t.d5.length):∀(n:Nat)(a:Int)(l:Fp),a<t.d5.length->a<n->l.length+n<=1000 ->
  ∃x,Kk (ρ:=Fp) (fun(d:Int×Fp)=>
 if (decide (0<=d.1))=true then
 (AZ d.2 [d.1]).bind fun h=>
 (idx t.d5 d.1).bind fun j=>
 some (.next (j.x8,h))
 else
 some (.brk (d.1,d.2))) (a,l) (.inl (x,l++IZ t n a))
 |0,a,l,o,u,_=>by
  refine ⟨a,.brk ?_⟩
  grind [IZ]
 |n+1,a,l,o,u,A=>by
  by_cases w:a<0
  .refine⟨a,.brk ?_⟩
   grind [IZ]
  .have y:=q a (by omega) o;obtain⟨x,z⟩:=aE f q n (par t a) (l++[a]) (by omega) (by omega) (by simp;omega);refine⟨x,.next (s':=(par t a,l++[a])) ?_ ?_⟩
   .rw[az (by simp;omega),AY (by simp;unfold At;omega),bs,AD (by omega) o];rfl
   grind [IZ,par]
variable{a b:Int}
theorem jD(h:FA t)(o:0<=a)(d:a<t.d5.length):I7 t a b=some (Gv t a b):=by
 have f:=h.ek;obtain⟨x,j⟩:=aE f h.par (a+1).toNat a [] d (by omega) (by simp;omega);have q:=bA t (a+1).toNat a;unfold I7 Kg;rw[j.eq,B6]
 grind [slices_Reverse_int,At,Ks,Gv]
theorem UA(d:D8 t t.d5.length)(j:0<=b):∀(n m:Nat)(a:Int),-1<=a->a<t.d5.length->a+1<n->a<m->FH n t a b=some ((IZ t m a).any fun x=>decide (b=x))
 |0,_,_,_,_,_,_=>by omega|n+1,m,a,q,h,u,w=>by
  rw [FH];by_cases f:a<0
  .rw[b6 (by simp;omega),b6 (by simp;omega)];cases m<;>simp[IZ,f]
  .cases m with
   |zero=>omega|succ m=>
    have o:=d a (by omega) h;rw[IZ,b6 f,List.any_cons,az (show decide (0<=a)=true by simp;omega),AD (by omega) h];simp;rw[show(AA t.d5 a).x8=par t a from rfl,UA d j n m (par t a) (by omega) (by omega) (by omega) (by omega)]
    grind
theorem aZ(h:FA t)(j:0<=a)(d:a<t.d5.length)(f:0<=b):IT t a b=some (Gv t a b):=
 E0 (a+2).toNat fun n o=>UA h.par f n (a+1).toNat a (by omega) d (by omega) (by omega)
def Iu(t:ej)(e f g:Int):Bool:=
 decide ((A1 t).2=0)&&(Jh t f&&Jh t g)&&(decide (0<=e)&&decide (e<t.d7.length))&&(Gv t f (AA t.d7 e).nd&&Gv t g (AA t.d7 e).To)
theorem ei(hf:A6 t)(e f g:Int):Ht t e f g=some (Iu t e f g):=by
 unfold Ht Iu;rw[Vm hf,bs,show[f,g].all (Jh t)=(Jh t f&&Jh t g)by simp];by_cases h:(A1 t).2=0
 .simp only[h,ne_eq,not_true_eq_false,if_false];have d:=C8 h;cases hi:(Jh t f&&Jh t g)
  .rfl
  .rw[tg,KW,KW]at hi;by_cases he:0<=e/\e<t.d7.length
   .rw[b6 (by simp;omega),AD he.1 he.2];simp[jD d hi.1.1 hi.1.2,jD d hi.2.1 hi.2.2,he.1,he.2,decide_true]
    grind
   grind
 .simp[h]
theorem VF(hf:A6 t)(e f g:Int):Hh t e f g=some (Iu t e f g):=by
 have u:=hf.em;unfold Hh Iu DW;rw[ac hf,bs];by_cases h:(A1 t).2=0
 .simp only[h,ne_eq,not_true_eq_false,if_false];have d:=C8 h;cases hi:(Jh t f&&Jh t g)
  .rfl
  .rw[tg,KW,KW]at hi;rw[AW (by omega) (by omega)];simp only[bs];by_cases he:0<=e/\e<t.d7.length
   .have j:=d.ends he.1 he.2;have o:e<=(t.d7.length:Int)-1:=by omega
    rw [b6 (by simp),bs,b6 (by simp[he.1,o]),AD he.1 he.2];simp[aZ d hi.1.1 hi.1.2 j.1.1,aZ d hi.2.1 hi.2.2 j.2.1,he.1,he.2,decide_true];cases Gv t f (AA t.d7 e).nd<;>rfl
   .have:(decide (0<=e)&&decide (e<t.d7.length))=false:=by rw[Bool.eq_false_iff];simpa using he
    have q:(decide (0<=e)&&decide (e<=(t.d7.length:Int)-1))=false:=by rw[Bool.eq_false_iff];simp;omega
    rw [this,q];simp
 .simp[h]
def La(n:Int)(x:kg):Bool:=(((decide ((-1)<=x.Var))&&(decide (x.Var<n)))&&(decide ((-1000000)<=x.Add)))&&(decide (x.Add<=1000000))
def I4(n:Int)(x:Test):Int:=if¬x.o3=1/\¬x.o3=2 then 1 else if(La n x.kl&&La n x.fu)=true then 0 else 6
def Hs(n:Int)(l:List Test):Int:=if n<0\/12<n then 6 else if 40<l.length then 3 else(fst (fun i=>nz (I4 n (AA l i))) 0 l.length).getD 0
theorem ql(n:Int)(x:Test):IL n x=some (I4 n x):=by
 unfold IL I4;simp only[show∀n x,HU n x=some (La n x)from fun _ _=>rfl,bs];generalize La n x.kl=b1;generalize La n x.fu=b2;cases b1<;>cases b2
 all_goals
  simp only[bs,zzX,Bool.or_eq_true,tg,Bool.not_eq_true',decide_eq_false_iff_not,Bool.not_eq_false',Bool.or_eq_false_iff,Bool.and_eq_false_iff,ne_eq]
  repeat' (first|rfl|(exfalso;omega;done)|split)
  all_goals (first|rfl|(exfalso;omega)|omega|simp_all|(simp_all;omega))
theorem jX(n:Int)(x:kg):IS n x=some (if La n x=true then 0 else 6):=by
 unfold IS La;simp only[bs,zzX,Bool.or_eq_true,tg,Bool.not_eq_true',decide_eq_false_iff_not,Bool.not_eq_false',Bool.or_eq_false_iff,Bool.and_eq_false_iff,ne_eq]
 repeat' (first|rfl|(exfalso;omega;done)|split)
 all_goals (first|rfl|(exfalso;omega)|omega|simp_all|(simp_all;omega))
theorem rA(n:Int)(x:Test):N6 n x=some (I4 n x):=by
 unfold N6 I4;simp only[jX,bs];generalize La n x.kl=b1;generalize La n x.fu=b2;cases b1<;>cases b2
 all_goals
  simp only[bs,zzX,Bool.or_eq_true,tg,Bool.not_eq_true',decide_eq_false_iff_not,Bool.not_eq_false',Bool.or_eq_false_iff,Bool.and_eq_false_iff,ne_eq]
  repeat' (first|rfl|(exfalso;omega;done)|split)
  all_goals (first|rfl|(exfalso;omega)|omega|simp_all|(simp_all;omega))
theorem nS(n:Int)(l:List Test):Gs n l=some (Hs n l):=by
 unfold Gs Hs;rw[Bb (fun i=>nz (I4 n (AA l i))),Cc]
 .simp only[bs,zzX,Bool.or_eq_true,tg,Bool.not_eq_true',decide_eq_false_iff_not,Bool.not_eq_false',Bool.or_eq_false_iff,Bool.and_eq_false_iff,ne_eq]
  repeat' (first|rfl|(exfalso;omega;done)|split)
  all_goals (first|rfl|(exfalso;omega)|omega|simp_all|(simp_all;omega))
 .intro i d f _;rw[AD d f,bs,ql,bs,Kx]
theorem nu(n:Int)(l:List Test):Kz n l=some (Hs n l):=by
 unfold Kz Hs;rw[Bb (fun i=>nz (I4 n (AA l i))),Cc]
 .simp only[bs,zzX,Bool.or_eq_true,tg,Bool.not_eq_true',decide_eq_false_iff_not,Bool.not_eq_false',Bool.or_eq_false_iff,Bool.and_eq_false_iff,ne_eq]
  repeat' (first|rfl|(exfalso;omega;done)|split)
  all_goals (first|rfl|(exfalso;omega)|omega|simp_all|(simp_all;omega))
 .intro i d f _;rw[AD d f,bs,rA,bs,Kx]
def PU(t:ej)(p:ed)(node ix:Int):mh×Bool:=
 if node<0\/p.d6.d5.length<=node then(default,false)else
 let l:=(EW t (AA p.d6.d5 node)).1
 if ix<0\/l.length<=ix then(default,false)else(AA l ix,true)
theorem Q6(hf:A6 t)(a:Int):(EW t a).1.length<=600/\((EW t a).2≠0->(EW t a).1=[]):=by
 unfold EW;split
 .simp
 .rename_i h;have d:=C8 (t:=t) (by omega);split
  .rename_i hi;exact⟨HP hf (Int.le_refl _) d.par (KW.1 hi).2,by simp⟩
  .simp
variable{p:ed}
theorem nJ(hf:A6 t)(d:CN p.d6)(s:Bv):FY t p s=some (PU t p s.p0 s.mh):=by
 have j:=d.ek;unfold FY PU CZ;dsimp only;rw[AW (by omega) (by omega),bs];by_cases h:s.p0<0\/p.d6.d5.length<=s.p0
 .rw[az (by simp;omega),az h];rfl
 .rw[b6 (by simp;omega),b6 h,AD (by omega) (by omega),bs,Qs hf,bs];have o:=(Q6 hf (AA p.d6.d5 s.p0)).1;rw[AW (by omega) (by omega),bs];by_cases f:s.mh<0\/(EW t (AA p.d6.d5 s.p0)).1.length<=s.mh
  .rw[az (by simp;omega),az f];rfl
  grind [AD]
theorem nY(hf:A6 t)(node d:Int):Mb t p node d=some (PU t p node d):=by
 unfold Mb PU;dsimp only;by_cases h:node<0\/p.d6.d5.length<=node
 .rw[az (by simp;omega),az h];rfl
 .rw[b6 (by simp;omega),b6 h,AD (by omega) (by omega),bs,Oq hf,bs];have j:=(Q6 hf (AA p.d6.d5 node)).2;by_cases f:d<0\/(EW t (AA p.d6.d5 node)).1.length<=d
  .rw[az (by simp;omega),az f];rfl
  grind [EW,AA,AD]
end Go.Sf.Sc
namespace Go.Sf
variable{σ ρ:Type}
def rk(s:σ)(o:Option ρ):Bu σ ρ:=match o with
 |none=>.next s|some r=>.ret r
def ap(s:σ)(o:Option ρ):σ ⊕ ρ:=match o with
 |none=>.inl s|some r=>.inr r
theorem X7{f:Int->σ->Option (Bu σ ρ)}(g:Int->σ)(c:Int->Option ρ):∀(n:Nat)(a:Int),
  (∀i,a<=i->i<a+n->(∀j,a<=j->j<i->c j=none)->f i (g i)=some (rk (g (i+1)) (c i)))->Aaa f n a (g a)=some (ap (g (a+n)) (Ej c n a))
 |0,a,_=>by simp[Aaa,Ej,ap]|n+1,a,h=>by
  have q:=h a (Int.le_refl _) (by omega) (fun j d o=>by omega);rw[EO,q,Ej];cases y:c a with
  |some r=>rfl|none=>
   simp only[rk];rw[show a+((n+1:Nat):Int)=a+1+n by omega];refine X7 g c n (a+1) (fun i d o u=>h i (by omega) (by omega) (fun j w x=>?_))
   grind
variable{a b:Int}
theorem M8{f:Int->σ->Option (Bu σ ρ)}(g:Int->σ)(c:Int->Option ρ){s:σ}(d:a<=b)(o:s=g a)(h:∀i,a<=i->i<b->(∀j,a<=j->j<i->c j=none)->f i (g i)=some (rk (g (i+1)) (c i))):kq f a b s=some (ap (g b) (fst c a b)):=by
 subst o;unfold kq fst;have:=X7 g c (b-a).toNat a (fun i q w u=>h i q (by omega) u)
 grind
variable{α:Type}
variable{e:Int}
theorem Dq{X:a6}{Y:Int}(h:e=0->X=some Y):(if(!decide (e=0))=true then some e else X)=some (if e≠0 then e else Y):=by grind
variable{v:α}{X:Option α}{Y:α}
theorem FM(h:e=0->X=some Y):(if(!decide (e=0))=true then some v else X)=some (if e≠0 then v else Y):=by grind
variable{P:Prop}
theorem Nv[Decidable P]{b:Bool}(d:b=true↔P)(h:¬P->X=some Y):(if b=true then some v else X)=some (if P then v else Y):=by grind
theorem UZ{b:Bool}(h:b=true->X=some Y):(if(!b)=true then some v else X)=some (if b=false then v else Y):=by grind
theorem dl{b:Bool}(h:b=false->X=some Y):(if b=true then some v else X)=some (if b=true then v else Y):=by grind
end Go.Sf
namespace Go.Sf.Sc
open Go Go.Sf
def Pw(t:ej)(p:ed)(s:Bv):Bool:=!(PU t p s.p0 s.mh).2||decide (s.kg.Var< -1)||decide (p.fq<=s.kg.Var)||(decide (s.kg.Add< -1000000)||decide (1000000<s.kg.Add))
def Gd(p:ed)(v:Int):Bool:=p.ff.any fun s=>decide (s.kg.Var=v)
def EH(t:ej)(p:ed):Int:=
 if (A1 t).2≠0 then(A1 t).2 else if Bn p.d6≠0 then Bn p.d6 else if CW t p.d6=false then 13 else
 if p.fq<0\/12<p.fq then 6 else if 10<p.ff.length\/10<p.ns.length then 3 else
 if (p.ff.any (Pw t p))=true then 6 else if Hs p.fq p.ns≠0 then Hs p.fq p.ns else
 if n8 (fun v=>!Gd p v) 0 p.fq=true then 9 else 0
def JA(p:ed)(i:Int):ae:=(List.range p.fq.toNat).map fun(v:Nat)=>(p.ff.take i.toNat).any fun s=>decide (s.kg.Var=(v:Int))
variable{p:ed}
theorem dJ:JA p 0=List.replicate p.fq.toNat false:=by
 unfold JA;refine List.ext_getElem (by simp) (fun n d f=>by simp)
theorem gW(p:ed)(i:Int):(JA p i).length=p.fq.toNat:=by simp[JA]
variable{i:Int}
theorem gX(d:0<=i)(f:i<p.ff.length)(hv:0<=(AA p.ff i).kg.Var):BN (JA p i) (AA p.ff i).kg.Var true=JA p (i+1):=by
 unfold BN;refine List.ext_getElem (by simp[JA]) (fun n h j=>?_);simp[JA,B3 d f]
 grind
theorem dI(d:0<=i)(f:i<p.ff.length)(hv:(AA p.ff i).kg.Var<0):JA p i=JA p (i+1):=by
 refine List.ext_getElem (by simp[JA]) (fun n h j=>?_);simp[JA,B3 d f]
 grind
theorem gV(p:ed):((JA p p.ff.length).any fun x=>false==x)=n8 (fun v=>!Gd p v) 0 p.fq:=by
 rw [Bool.eq_iff_iff,List.any_eq_true,Cf];simp only[JA,Int.toNat_natCast,List.take_length,List.mem_map,List.mem_range];constructor
 .rintro⟨x,⟨v,hv,rfl⟩,d⟩;refine⟨v,by omega,by omega,?_⟩
  grind [Gd]
 .rintro⟨v,f,h,d⟩;refine⟨_,⟨v.toNat,by omega,rfl⟩,?_⟩
  grind [Int.toNat_of_nonneg,Gd]
theorem md{α ρ:Type}[Inhabited α]{l:List α}{q:α->Bool}{v:ρ}:fst (fun i=>if q (AA l i)=true then some v else none) 0 l.length=if l.any q=true then some v else none:=by
 rw [Ny,II]
variable{t:ej}
theorem VA(hf:A6 t)(p:ed):C2 t p=some (EH t p):=by
 unfold C2 EH;rw[Lv hf,bs,KX,bs];refine Dq fun F=>Dq fun D=>?_;have x:=Cp D;have e:((Ay p.d6.d5 (fun d=>GQ d t)).bind fun o=>
   (if o=true then some true else((BV p.d6.d7 (fun d=>GR d t)).bind fun q=>some (q))))=some (!CW t p.d6):=by
  unfold CW;rw[show(fun d=>GQ d t)=(fun(n:Int)=>some (decide (t.d5.length<=n)))from rfl,Xq,show(fun d=>GR d t)=(fun(e:Bc)=>some (decide (t.d7.length<=e.mt)))from rfl,Zz];simp only[bs];cases p.d6.d5.any fun n=>decide (t.d5.length<=n)<;>simp
 rw [<-Option.bind_assoc,e,bs];refine UZ fun E=>?_;unfold CZ;simp only[bs];refine Nv (by simp;try omega) fun hv=>Nv (by simp;try omega) fun G=>?_;unfold JH;rw[az (by omega),bs,<-dJ,AW (show -9223372036854775808<=p.fq-1 by omega) (by omega),M8 (JA p) (fun i=>if Pw t p (AA p.ff i)=true then some 6 else none) (by omega) rfl,md]
 .cases f:p.ff.any (Pw t p)
  .simp only[Bool.false_eq_true,if_false,ap,B6,nS,bs,mV,gV];by_cases h:Hs p.fq p.ns=0
   .simp[h];cases n8 (fun v=>!Gd p v) 0 p.fq<;>rfl
   .simp[h]
  .rfl
 .intro i u w _;rw[AD u w,bs,nJ hf x,bs];unfold Pw;by_cases f:(PU t p (AA p.ff i).p0 (AA p.ff i).mh).2=true
  .by_cases C:(AA p.ff i).kg.Var< -1\/p.fq<=(AA p.ff i).kg.Var
   .have y:(decide (-1<=(AA p.ff i).kg.Var)&&decide ((AA p.ff i).kg.Var<=p.fq-1))=false:=by rw[Bool.eq_false_iff];simp;omega
    have z:(decide ((AA p.ff i).kg.Var< -1)||decide (p.fq<=(AA p.ff i).kg.Var))=true:=by simp;omega
    rw [f,y,Bool.or_assoc (!true),z];rfl
   .have y:(decide (-1<=(AA p.ff i).kg.Var)&&decide ((AA p.ff i).kg.Var<=p.fq-1))=true:=by simp;omega
    have z:(decide ((AA p.ff i).kg.Var< -1)||decide (p.fq<=(AA p.ff i).kg.Var))=false:=by rw[Bool.eq_false_iff];simp;omega
    rw [f,y,Bool.or_assoc (!true),z];by_cases H:(AA p.ff i).kg.Add< -1000000\/1000000<(AA p.ff i).kg.Add
    .have A:(decide (-1000000<=(AA p.ff i).kg.Add)&&decide ((AA p.ff i).kg.Add<=1000000))=false:=by rw[Bool.eq_false_iff];simp;omega
     have B:(decide ((AA p.ff i).kg.Add< -1000000)||decide (1000000<(AA p.ff i).kg.Add))=true:=by simp;omega
     rw [A,B];rfl
    .have A:(decide (-1000000<=(AA p.ff i).kg.Add)&&decide ((AA p.ff i).kg.Add<=1000000))=true:=by simp;omega
     have B:(decide ((AA p.ff i).kg.Add< -1000000)||decide (1000000<(AA p.ff i).kg.Add))=false:=by rw[Bool.eq_false_iff];simp;omega
     rw [A,B];by_cases j:0<=(AA p.ff i).kg.Var
     .simp[j,decide_true];rw[AD j (by rw[gW];omega),bs,gX u w j];rfl
     .simp[j,decide_false];rw[dI u w (by omega)];rfl
  .rw[Bool.not_eq_true]at f;rw[f];rfl
theorem lh(p:ed)(v:Int):KA p v=some (Gd p v):=by
 unfold KA Gd;rw[Br (fun i=>decide ((AA p.ff i).kg.Var=v)) true,II]
 .cases n8 (fun i=>decide ((AA p.ff i).kg.Var=v)) 0 p.ff.length<;>rfl
 .intro i d f _;rw[AD d f,bs,Km]
theorem cZ(hf:A6 t)(p:ed):H5 t p=some (EH t p):=by
 unfold H5 EH;rw[Ot hf,bs,KY,bs];refine Dq fun u=>Dq fun o=>?_;have f:=Cp o;rw[Vp f,bs];refine UZ fun q=>Nv (by simp;try omega) fun hv=>Nv (by simp;try omega) fun w=>?_;rw[Br (fun i=>Pw t p (AA p.ff i)) 6,<-II]
 .cases x:p.ff.any (Pw t p)
  .simp only[Bool.false_eq_true,if_false,B6,nu,bs];by_cases d:Hs p.fq p.ns=0
   .simp only[d];rw[Br (fun v=>!Gd p v) 9]
    .cases n8 (fun v=>!Gd p v) 0 p.fq<;>rfl
    .intro i h j _;rw[lh,bs,Km]
   .simp[d]
  .rfl
 .intro i h j _;rw[AD h j,bs,nY hf,bs];unfold Pw LU
  grind
def LY(t:ej)(p:ed)(i:Int):Int:=
 let s:=AA p.ff i
 if s.p0<0\/p.d6.d5.length<=s.p0 then 6 else
 let l:=(EW t (AA p.d6.d5 s.p0)).1
 if ((((((decide (s.mh<0))||(decide ((l.length:Int)<=s.mh)))||(decide (s.kg.Var<(-1))))||(decide (p.fq<=s.kg.Var)))||(decide (s.kg.Add<(-1000000))))||(decide (1000000<s.kg.Add)))=true then 6 else
 if n8 (fun j=>(decide ((AA p.ff j).p0=s.p0))&&(decide ((AA p.ff j).mh=s.mh))) 0 i=true then 5 else 0
theorem qk(hf:A6 t)(r:hO)(d:0<=i)(f:i<r.fu.ff.length):KF t r i=some (LY t r.fu i):=by
 unfold KF LY;dsimp only;rw[AD d f,bs];refine Nv (by simp) fun h=>?_;rw[AD (by omega) (by omega),bs,Qs hf,bs,Fr d (by omega),bs,
  show (fun j=>Nn j (AA r.fu.ff i))=(fun y=>some ((decide (y.p0=(AA r.fu.ff i).p0))&&(decide (y.mh=(AA r.fu.ff i).mh))))from rfl,Z0,bs,Oz d (by omega)]
 grind
theorem q8(hf:A6 t)(p:ed)(d:0<=i)(f:i<p.ff.length):Me t p i=some (LY t p i):=by
 unfold Me LY;dsimp only;rw[AD d f,bs];refine Nv (by simp) fun h=>?_;rw[AD (by omega) (by omega),bs,Oq hf,bs,
  Br (fun j=>(decide ((AA p.ff j).p0=(AA p.ff i).p0))&&(decide ((AA p.ff j).mh=(AA p.ff i).mh))) 5]
 .refine dl fun _=>?_;cases n8 (fun j=>(decide ((AA p.ff j).p0=(AA p.ff i).p0))&&(decide ((AA p.ff j).mh=(AA p.ff i).mh))) 0 i<;>rfl
 grind [AD,AA,mh]
def Hm(t:ej)(r:hO):Int:=
 if Bn r.fu.d6≠0 then Bn r.fu.d6 else if CW t r.fu.d6=false then 13 else
 if r.fu.fq≠r.kl.fq\/0<r.fu.ns.length then 1 else if 10<r.fu.ff.length then 3 else
 (fst (fun i=>nz (LY t r.fu i)) 0 r.fu.ff.length).getD 0
theorem nQ(hf:A6 t)(r:hO):Iz t r=some (Hm t r):=by
 unfold Iz Hm;rw[KX,bs,nT,bs,Bb (fun i=>nz (LY t r.fu i)),Cc]
 .grind
 grind [qk,Kx]
theorem nk(hf:A6 t)(r:hO):LD t r=some (Hm t r):=by
 unfold LD Hm;rw[KY,bs];refine Dq fun d=>?_;rw[Vp (Cp d),bs,Bb (fun i=>nz (LY t r.fu i)),Cc]
 .grind
 grind [q8,Kx]
end Go.Sf.Sc
namespace Go.Sf
variable{a b:Int}
theorem bi{ρ:Type}{c d:Int->Option ρ}(h:∀i,c i=d i):fst c a b=fst d a b:=by rw[funext h]
def EF(l:Fp)(v:Int):Int:=(fst (fun i=>if decide (v=AA l i)=true then some i else none) 0 l.length).getD (-1)
variable{l:Fp}
theorem HH{v:Int}(h:v∈l):0<=EF l v/\EF l v<l.length/\AA l (EF l v)=v/\∀j,0<=j->j<EF l v->AA l j≠v:=by
 unfold EF;cases hf:fst (fun i=>if decide (v=AA l i)=true then some i else none) 0 l.length with
 |none=>
  grind [Bh,A5]
 |some k=>
  grind [DU,AA]
variable{R:Int->Int->Prop}
theorem Gk(h:l.Pairwise R){i j:Int}(d:0<=i)(f:i<j)(o:j<l.length):R (AA l i) (AA l j):=by grind[List.pairwise_iff_getElem,AA,List.getElem?_eq_getElem]
theorem TS(h:∀i j:Int,0<=i->i<j->j<l.length->R (AA l i) (AA l j)):l.Pairwise R:=by
 refine List.pairwise_iff_getElem.2 (fun i j d f o=>?_);have:=h i j (by omega) (by omega) (by omega);unfold AA at this
 grind
theorem Tt(u:l.Pairwise (·<·)){v:Int}(h:v∈l):(l.countP (fun x=>decide (x<v)):Int)=EF l v:=by
 obtain ⟨w,y,o,_⟩:=HH h;generalize E:EF l v=k at w y o;have e:l=l.take k.toNat++l.drop k.toNat:=(List.take_append_drop _ _).symm;have z:(l.take k.toNat).countP (fun x=>decide (x<v))=k.toNat:=by
  rw [List.countP_eq_length.2 (fun x d=>?_),ca]
  .omega
  .obtain⟨i,C,D,rfl⟩:=Bh d;rw[ca]at D;rw[Ol (by omega),zzX,<-o];exact Gk u C (by omega) y
 have A:(l.drop k.toNat).countP (fun x=>decide (x<v))=0:=by
  rw [List.countP_eq_zero];intro x d;obtain⟨n,q⟩:=List.getElem?_of_mem d;rw[List.getElem?_drop]at q;have B:=(List.getElem?_eq_some_iff.1 q).1;have f:x=AA l (k+n):=by
   unfold AA;rw[List.getD_eq_getElem?_getD,show(k+(n:Int)).toNat=k.toNat+n by omega,q];rfl
  rw [zzX,f,<-o];by_cases j:n=0
  .subst j;simp
  .have:=Gk u w (show k<k+(n:Int)by omega) (by omega);omega
 rw [e,List.countP_append,z,A];omega
end Go.Sf
namespace Go.Sf.Sc
open Go Go.Sf
theorem mu(l:Fp)(n:Int):(fl (kq (ρ:=Int) (fun(h:Int)(_:Unit)=>
 (idx l h).bind fun d=>
 if (decide (d=n))=true then
 some (.ret h)
 else
 some (.next ())) 0 (l.length:Int) ()) (fun _=>
 some (-1)) (fun j=>some j))=some (EF l n):=by
 have:=Tx (l:=l) (f:=fun x=>some (decide (x=n))) (p:=fun x=>decide (x=n)) (fun _ _=>rfl);simp only[bs]at this;rw[this];unfold EF;congr 2;exact bi fun i=>by simp[eq_comm]
theorem qw(l:Fp)(v:Int):H2 l v=some (EF l v):=mu l v
def hasB(l:Fp)(v:Int):Bool:=l.any fun x=>decide (v=x)
variable{l:Fp}
theorem CR{v:Int}:hasB l v=true↔v∈l:=by
 unfold hasB
 grind
theorem YC(l:Fp)(n:Int):(fl (kq (ρ:=Bool) (fun(f:Int)(_:Unit)=>
 (idx l f).bind fun d=>
 if (decide (d=n))=true then
 some (.ret true)
 else
 some (.next ())) 0 (l.length:Int) ()) (fun _=>
 some false) (fun h=>some h))=some (hasB l n):=by
 unfold hasB;rw[Br (fun i=>decide (n=AA l i)) true,II]
 .cases n8 (fun i=>decide (n=AA l i)) 0 l.length<;>rfl
 .intro i j o _;rw[AD j o,bs,Km];simp[eq_comm]
theorem nf(l:Fp)(v:Int):Pn l v=some (hasB l v):=YC l v
theorem nc(l:Fp)(v:Int):N8 l v=some (hasB l v):=YC l v
def M2(l:Fp)(n:Int):Int:=(fst (fun i=>if AA l i<0\/n<=AA l i then some 6 else if 0<i/\AA l i<=AA l (i-1)then some 12 else none) 0 l.length).getD 0
theorem lW(q:l.length<=1000)(n:Int):HO l n=some (M2 l n):=by
 unfold HO M2;rw[Bb (fun i=>if AA l i<0\/n<=AA l i then some 6 else if 0<i/\AA l i<=AA l (i-1)then some 12 else none),Cc];intro i j o _;rw[AD j o,bs];by_cases h:AA l i<0\/n<=AA l i
 .rw[az (by simpa using h),az h];rfl
 .rw[b6 (by simpa using h),b6 h];by_cases d:0<i
  .rw[az (by simpa using d),AW (by omega) (by omega),AD (by omega) (by omega),bs,bs];by_cases f:AA l i<=AA l (i-1)
   .rw[az (by simpa using f),az ⟨d,f⟩];rfl
   .rw[b6 (by simpa using f),b6 (fun h=>f h.2)];rfl
  .rw[b6 (by simpa using d),bs,b6 (by decide),b6 (fun h=>d h.1)];rfl
theorem lc(u:l.length<=1000)(n:Int):GH l n=some (M2 l n):=by
 unfold GH M2;rw[Bb (fun i=>if AA l i<0\/n<=AA l i then some 6 else if 0<i/\AA l i<=AA l (i-1)then some 12 else none),Cc];intro i j o _;rw[AD j o];simp only[bs];by_cases h:AA l i<0\/n<=AA l i
 .have:(if decide (AA l i<0)=true then some true else some (decide (n<=AA l i)))=some true:=by
   rcases h with h|h
   .simp[h]
   .by_cases q:AA l i<0<;>simp[h,q]
  rw [this,bs,az rfl,az h];rfl
 .have:(if decide (AA l i<0)=true then some true else some (decide (n<=AA l i)))=some false:=by
   rw [b6 (by simp;omega),decide_eq_false (by omega)]
  rw [this,bs,b6 (by decide),b6 h];by_cases d:0<i
  .rw[az (by simpa using d),AW (by omega) (by omega),AD (by omega) (by omega),bs,bs];by_cases f:AA l i<=AA l (i-1)
   .rw[az (by simpa using f),az ⟨d,f⟩];rfl
   .rw[b6 (by simpa using f),b6 (fun h=>f h.2)];rfl
  .rw[b6 (by simpa using d),bs,b6 (by decide),b6 (fun h=>d h.1)];rfl
variable{a b:Int}
theorem Pc{c:Int->a6}(d:∀i,c i≠some 0)(h:(fst c a b).getD 0=0):∀i,a<=i->i<b->c i=none:=by
 have:fst c a b=none:=by
  cases hf:fst c a b with
  |none=>rfl|some r=>
   grind [Option.getD,DU]
 exact A5.1 this
variable{n:Int}
theorem R0(h:M2 l n=0):(∀x∈l,0<=x/\x<n)/\l.Pairwise (·<·):=by
 have y:=Pc (c:=fun i=>if AA l i<0\/n<=AA l i then some 6 else if 0<i/\AA l i<=AA l (i-1)then some 12 else none) (fun i=>by
  split
  .simp
  .split<;>simp) h
 have f:∀i:Int,0<=i->i<l.length->(0<=AA l i/\AA l i<n)/\(0<i->AA l (i-1)<AA l i):=by
  intro i o w;have:=y i o w;split at this
  .cases this
  .split at this
   .cases this
   .omega
 refine ⟨fun x q=>?_,TS (fun i j o d u=>?_)⟩
 .obtain⟨i,z,A,rfl⟩:=Bh q;exact(f i z A).1
 .obtain⟨k,B⟩:∃k:Nat,j=i+1+k:=⟨(j-i-1).toNat,by omega⟩;subst B;clear d
  induction k with
  |zero=>
   have:=(f (i+1) (by omega) (by omega)).2 (by omega);rw[show i+1-1=i by omega]at this;simpa using this
  |succ k C=>
   have a:=C (by omega);have b:=(f (i+1+((k+1:Nat):Int)) (by omega) u).2 (by omega);rw[show i+1+((k+1:Nat):Int)-1=i+1+k by omega]at b;omega
theorem Ra(f:l.length<=1000)(d:l.Pairwise (·<·))(v:Int):slices_BinarySearch_int l v=some (((l.countP (fun x=>decide (x<v)):Nat):Int),hasB l v):=by
 unfold slices_BinarySearch_int;rw[az ⟨by unfold At;omega,d.imp (fun h=>by omega)⟩];congr 2;rw[Bool.eq_iff_iff,CR,List.contains_iff_mem]
def LT(g:d6)(p:Bo):Int:=
 if M2 p.d5 g.d5.length≠0 then M2 p.d5 g.d5.length else if M2 p.d7 g.d7.length≠0 then M2 p.d7 g.d7.length else
 (fst (fun i=>if(hasB p.d5 (AA g.d7 (AA p.d7 i)).nd&&hasB p.d5 (AA g.d7 (AA p.d7 i)).To)=true then none else some 14) 0 p.d7.length).getD 0
structure Nt(g:d6)(p:Bo):Prop where
 ek:(∀x∈p.d5,0<=x/\x<g.d5.length)/\p.d5.Pairwise (·<·)
 em:(∀x∈p.d7,0<=x/\x<g.d7.length)/\p.d7.Pairwise (·<·)
 ends:∀x∈p.d7,(AA g.d7 x).nd∈p.d5/\(AA g.d7 x).To∈p.d5
variable{g:d6}
theorem Si{p:Bo}(h:LT g p=0):Nt g p:=by
 unfold LT at h;split at h
 .omega
 .split at h
  .omega
  .rename_i q u;refine⟨R0 (by omega),R0 (by omega),fun x f=>?_⟩;obtain⟨i,j,o,rfl⟩:=Bh f;have:=Pc (c:=fun i=>if(hasB p.d5 (AA g.d7 (AA p.d7 i)).nd&&hasB p.d5 (AA g.d7 (AA p.d7 i)).To)=true then none else some 14) (fun i=>by
    split<;>simp) h i j o
   split at this
   .rename_i d;rw[tg,CR,CR]at d;exact d
   .cases this
def Du(g:d6)(p:Bo):Int:=if Bn g≠0 then Bn g else LT g p
structure Q1(p:Bo):Prop where
 ek:p.d5.length<=1000
 em:p.d7.length<=1000
theorem aR{p:Bo}(d:Q1 p):Ed g p=some (Du g p):=by
 unfold Ed Du;rw[KX,bs];refine Dq fun o=>?_;have w:=Cp o;unfold LZ LT;rw[lW d.ek,bs,lW d.em,bs,Option.bind_fun_some];refine Dq fun q=>Dq fun u=>?_;obtain⟨a1,a2⟩:=R0 q;obtain⟨x,y⟩:=R0 u;rw[Bb (fun i=>if(hasB p.d5 (AA g.d7 (AA p.d7 i)).nd&&hasB p.d5 (AA g.d7 (AA p.d7 i)).To)=true then none else some 14),Cc];intro i f h _;have j:=x _ (AF f h);unfold KK;rw[AD f h,bs,AD j.1 j.2];simp[Ra d.ek a2];cases hasB p.d5 (AA g.d7 (AA p.d7 i)).nd<;>cases hasB p.d5 (AA g.d7 (AA p.d7 i)).To<;>rfl
theorem af{p:Bo}(d:Q1 p):JV g p=some (Du g p):=by
 unfold JV Du;rw[KY,bs];refine Dq fun o=>?_;have u:=Cp o;unfold Nf LT;rw[lc d.ek,bs,lc d.em,bs,Option.bind_fun_some];refine Dq fun x=>Dq fun q=>?_;obtain⟨w,y⟩:=R0 q;rw[Bb (fun i=>if(hasB p.d5 (AA g.d7 (AA p.d7 i)).nd&&hasB p.d5 (AA g.d7 (AA p.d7 i)).To)=true then none else some 14),Cc];intro i f h _;have j:=w _ (AF f h);rw[AD f h,bs,AD j.1 j.2];simp[nc];cases hasB p.d5 (AA g.d7 (AA p.d7 i)).nd<;>cases hasB p.d5 (AA g.d7 (AA p.d7 i)).To<;>rfl
def Cx(g:d6)(p:Bo):d6:=⟨p.d5.map (AA g.d5),p.d7.map fun x=>⟨(AA g.d7 x).mt,EF p.d5 (AA g.d7 x).nd,EF p.d5 (AA g.d7 x).To⟩⟩
variable{i:Int}
theorem JG{α:Type}{f:Int->α}(d:0<=i)(h:i<l.length):(l.take (i+1).toNat).map f=(l.take i.toNat).map f++[f (AA l i)]:=by grind[B3]
theorem RL(z:l.length<=1000)(h:∀x∈l,0<=x/\x<g.d5.length)(es:List Bc):(pq (fun(y:Int)(u:d6)=>
 (idx l y).bind fun d=>
 (idx g.d5 d).bind fun f=>
 (AZ u.d5 [f]).bind fun j=>
 some (d6.mk j u.d7)) 0 (l.length:Int) (d6.mk [] es))=some (d6.mk (l.map (AA g.d5)) es):=by
 rw [Bz (fun i=>d6.mk ((l.take i.toNat).map (AA g.d5)) es) (by omega) (by simp)]
 .rw[Int.toNat_natCast,List.take_length]
 .intro i o q;have w:=h _ (AF o q);rw[AD o q,bs,AD w.1 w.2,bs,AY (by simp;unfold At;omega),bs,JG o q]
theorem Uo(B:l.length<=1000)(h:∀x∈l,0<=x/\x<g.d7.length)(o:Fp)(F:Bc->Bc){f:Bc->List Bc->Option (List Bc)}(hf:∀x∈l,∀s,s.length<=1000->f (AA g.d7 x) s=some (s++[F (AA g.d7 x)])):(pq (fun(A:Int)(y:d6)=>
 (idx l A).bind fun q=>
 (idx g.d7 q).bind fun u=>
 (f u y.d7).bind fun w=>
 some (d6.mk y.d5 w)) 0 (l.length:Int) (d6.mk o []))=some (d6.mk o (l.map fun x=>F (AA g.d7 x))):=by
 rw [Bz (fun i=>d6.mk o ((l.take i.toNat).map fun x=>F (AA g.d7 x))) (by omega) (by simp)]
 .rw[Int.toNat_natCast,List.take_length]
 .intro i d j;have z:=h _ (AF d j);rw[AD d j,bs,AD z.1 z.2,bs,hf _ (AF d j) _ (by simp;omega),bs,JG d j]
theorem eh{p:Bo}(d:Q1 p):ES g p=some (if Du g p≠0 then(⟨[],[]⟩,⟨[],[]⟩,Du g p)else(Cx g p,⟨p.d5,p.d7⟩,0)):=by
 unfold ES;rw[aR d,bs];refine FM fun h=>?_;have w:Bn g=0/\LT g p=0:=by
  grind [Du]
 have ho:=Si w.2;rw[RL d.ek ho.ek.1,bs];have:=Uo (g:=g) (l:=p.d7) d.em ho.em.1 (p.d5.map (AA g.d5)) (fun x=>⟨x.mt,EF p.d5 x.nd,EF p.d5 x.To⟩) (f:=fun j s=>
  (slices_BinarySearch_int p.d5 j.nd).bind fun o=>
  (slices_BinarySearch_int p.d5 j.To).bind fun q=>
  AZ s [Bc.mk j.mt o.1 q.1]) (fun x u s y=>by
   have he:=ho.ends x u;rw[Ra d.ek ho.ek.2,bs,Ra d.ek ho.ek.2,bs,AY (by simp;unfold At;omega),Tt ho.ek.2 he.1,Tt ho.ek.2 he.2])
 simp [Option.bind_assoc]at this;rw[this,bs];unfold slices_Clone_int;have z:=d.ek;have A:=d.em;rw[Bq (by unfold At;omega),bs,Bq (by unfold At;omega)];rfl
theorem Wn{p:Bo}(j:Q1 p):HK g p=some (if Du g p≠0 then(⟨[],[]⟩,⟨[],[]⟩,Du g p)else(Cx g p,⟨p.d5,p.d7⟩,0)):=by
 unfold HK;rw[af j,bs];refine FM fun h=>?_;have u:Bn g=0/\LT g p=0:=by
  grind [Du]
 have ho:=Si u.2;rw[RL j.ek ho.ek.1,bs];have:=Uo (g:=g) (l:=p.d7) j.em ho.em.1 (p.d5.map (AA g.d5)) (fun x=>⟨x.mt,EF p.d5 x.nd,EF p.d5 x.To⟩) (f:=fun d s=>
  (H2 p.d5 d.nd).bind fun o=>
  (H2 p.d5 d.To).bind fun q=>
  AZ s [Bc.mk d.mt o q]) (fun x w s y=>by
   grind [qw,AY,At])
 simp [Option.bind_assoc]at this;rw[this,bs];have z:=j.ek;have A:=j.em;rw[Bq (by unfold At;omega),bs,Bq (by unfold At;omega)];rfl
end Go.Sf.Sc
namespace Go.Sf.Sc
open Go Go.Sf
def J3(a b:d6)(m:eb)(i:Int):a6:=
 if AA m.d5 i<0\/b.d5.length<=AA m.d5 i then some 6 else if AA b.d5 (AA m.d5 i)≠AA a.d5 i then some 13 else none
def Gw(a b:d6)(m:eb)(i:Int):a6:=
 if AA m.d7 i<0\/b.d7.length<=AA m.d7 i then some 6 else
 if (AA a.d7 i).mt≠(AA b.d7 (AA m.d7 i)).mt then some 13 else
 if AA m.d5 (AA a.d7 i).nd≠(AA b.d7 (AA m.d7 i)).nd\/AA m.d5 (AA a.d7 i).To≠(AA b.d7 (AA m.d7 i)).To then some 11 else none
def Hz(a b:d6)(m:eb):Int:=
 if Bn a≠0 then Bn a else if Bn b≠0 then Bn b else if m.d5.length≠a.d5.length\/m.d7.length≠a.d7.length then 20 else
 match fst (J3 a b m) 0 m.d5.length with
 |some e=>e|none=>(fst (Gw a b m) 0 m.d7.length).getD 0
structure Q2(a b:d6)(m:eb):Prop where
 ga:CN a
 gb:CN b
 AaG:m.d5.length=a.d5.length
 AaR:m.d7.length=a.d7.length
 node:∀i:Int,0<=i->i<m.d5.length->(0<=AA m.d5 i/\AA m.d5 i<b.d5.length)/\AA b.d5 (AA m.d5 i)=AA a.d5 i
 edge:∀i:Int,0<=i->i<m.d7.length->(0<=AA m.d7 i/\AA m.d7 i<b.d7.length)/\(AA a.d7 i).mt=(AA b.d7 (AA m.d7 i)).mt/\
  AA m.d5 (AA a.d7 i).nd=(AA b.d7 (AA m.d7 i)).nd/\AA m.d5 (AA a.d7 i).To=(AA b.d7 (AA m.d7 i)).To
variable{m:eb}
theorem Ux{a b:d6}(h:Hz a b m=0):Q2 a b m:=by
 unfold Hz at h;split at h
 .omega
 split at h
 .omega
 split at h
 .cases h
 rename_i o q u;have j:fst (J3 a b m) 0 m.d5.length=none:=by
  grind [DU,J3]
 rw [j]at h;have he:=Pc (fun i=>by
  grind [Gw]) h
 refine ⟨Cp (by omega),Cp (by omega),by omega,by omega,fun i d f=>?_,fun i d f=>?_⟩
 .grind[A5,J3]
 grind [Gw]
theorem XM(a b:d6)(m:eb):DH a b m=some (Hz a b m):=by
 unfold DH Hz;rw[KX,bs,KX,bs];refine Dq fun u=>Dq fun w=>Nv (by simp;try omega) fun z=>?_;have ga:=Cp u;have gb:=Cp w;rw[Bb (J3 a b m),DN]
 .cases x:fst (J3 a b m) 0 m.d5.length with
  |some e=>rfl|none=>
   have y:=A5.1 x;dsimp only;rw[Bb (Gw a b m),Cc];intro i h q _;unfold Gw;rw[AD h q,bs];by_cases d:AA m.d7 i<0\/b.d7.length<=AA m.d7 i
   .rw[az (by simpa using d),az d];rfl
   .have hf:=ga.fit _ (AF (l:=a.d7) h (by omega));rw[b6 (by simpa using d),b6 d,AD h (by omega),bs,AD (by omega) (by omega),bs];by_cases f:(AA a.d7 i).mt=(AA b.d7 (AA m.d7 i)).mt
    .rw[b6 (by simpa using f),b6 (by simpa using f),AD (by omega) (by omega),bs];by_cases j:AA m.d5 (AA a.d7 i).nd=(AA b.d7 (AA m.d7 i)).nd
     .rw[b6 (by simpa using j),AD (by omega) (by omega),bs,bs];by_cases o:AA m.d5 (AA a.d7 i).To=(AA b.d7 (AA m.d7 i)).To
      .rw[b6 (by simpa using o),b6 (by simp[j,o])];rfl
      .rw[az (by simpa using o),az (.inr o)];rfl
     .rw[az (by simpa using j),bs,az rfl,az (.inl j)];rfl
    .rw[az (by simpa using f),az f];rfl
 .intro i h q _;unfold J3;rw[AD h q,bs];by_cases d:AA m.d5 i<0\/b.d5.length<=AA m.d5 i
  .rw[az (by simpa using d),az d];rfl
  .rw[b6 (by simpa using d),b6 d,AD (by omega) (by omega),bs,AD h (by omega),bs];by_cases f:AA b.d5 (AA m.d5 i)=AA a.d5 i
   .rw[b6 (by simpa using f),b6 (by simpa using f)];rfl
   .rw[az (by simpa using f),az f];rfl
theorem YT{x y:Prop}[Decidable x][Decidable y]:(if decide x=true then some true else some (decide y))=some (decide (x\/y)):=by grind
theorem cY(a b:d6)(m:eb):H1 a b m=some (Hz a b m):=by
 unfold H1 Hz;rw[KY,bs,KY,bs];refine Dq fun u=>Dq fun w=>Nv (by simp;try omega) fun z=>?_;have ga:=Cp u;have gb:=Cp w;rw[show(a.d5.length:Int)=m.d5.length by omega,show(a.d7.length:Int)=m.d7.length by omega,Bb (J3 a b m),DN]
 .cases x:fst (J3 a b m) 0 m.d5.length with
  |some e=>rfl|none=>
   have y:=A5.1 x;dsimp only;rw[Bb (Gw a b m),Cc];intro i h q _;unfold Gw;rw[AD h q];simp only[bs,YT];by_cases d:AA m.d7 i<0\/b.d7.length<=AA m.d7 i
   .rw[az (by simpa using d),az d];rfl
   .have hf:=ga.fit _ (AF (l:=a.d7) h (by omega));rw[b6 (by simpa using d),b6 d,AD h (by omega),bs,AD (by omega) (by omega),bs];by_cases f:(AA a.d7 i).mt=(AA b.d7 (AA m.d7 i)).mt
    .rw[b6 (by simpa using f),b6 (by simpa using f),AD (by omega) (by omega),bs];by_cases j:AA m.d5 (AA a.d7 i).nd=(AA b.d7 (AA m.d7 i)).nd
     .rw[b6 (by simpa using j),AD (by omega) (by omega),bs,bs];by_cases o:AA m.d5 (AA a.d7 i).To=(AA b.d7 (AA m.d7 i)).To
      .rw[b6 (by simpa using o),b6 (by simp[j,o])];rfl
      .rw[az (by simpa using o),az (.inr o)];rfl
     .rw[az (by simpa using j),bs,az rfl,az (.inl j)];rfl
    .rw[az (by simpa using f),az f];rfl
 .intro i h q _;unfold J3;rw[AD h q];simp only[bs,YT];by_cases d:AA m.d5 i<0\/b.d5.length<=AA m.d5 i
  .rw[az (by simpa using d),az d];rfl
  .rw[b6 (by simpa using d),b6 d,AD (by omega) (by omega),bs,AD h (by omega),bs];by_cases f:AA b.d5 (AA m.d5 i)=AA a.d5 i
   .rw[b6 (by simpa using f),b6 (by simpa using f)];rfl
   .rw[az (by simpa using f),az f];rfl
def Jf(l:Fp):Bool:=!n8 (fun i=>n8 (fun j=>decide (AA l i=AA l j)) 0 i) 0 l.length
variable{l:Fp}
theorem Iq:Jf l=true↔l.Nodup:=by grind[Jf,Bool.not_eq_true',Bk,TS,Gk]
theorem cX(l:Fp):Ea l=some (Jf l):=by
 unfold Ea Jf;rw[Br (fun i=>n8 (fun j=>decide (AA l i=AA l j)) 0 i) false]
 .cases n8 (fun i=>n8 (fun j=>decide (AA l i=AA l j)) 0 i) 0 l.length<;>rfl
 .intro i d f _;rw[Br (fun j=>decide (AA l i=AA l j)) false]
  .cases n8 (fun j=>decide (AA l i=AA l j)) 0 i<;>rfl
  .intro j h o _;rw[AD d f,bs,AD h (by omega),bs,Km]
theorem YY(f:l.length<=1000):∃k,GF l=some k/\decide (k=(l.length:Int))=Jf l:=by
 have d:(Pf l).length=l.length:=(OY l).length_eq;refine⟨((Go.Lib.compact (Pf l)).length:Int),?_,?_⟩
 .grind[GF,slices_Clone_int,slices_Sort_int,slices_Compact_int,Bq,At]
 .rw[Bool.eq_iff_iff,Iq,zzX,<-(OY l).nodup_iff,<-Rp (O5 l),d];omega
def Hy(m:eb):Bool:=Jf m.d5&&Jf m.d7
theorem lY{a b:d6}(h:Hz a b m=0):C6 a b m=some (Hy m):=by
 have ho:=Ux h;have:=ho.ga.ek;have:=ho.ga.em;have:=ho.AaG;have:=ho.AaR;obtain⟨k,d,f⟩:=YY (l:=m.d5) (by omega);obtain⟨j,o,q⟩:=YY (l:=m.d7) (by omega);unfold C6 Hy;rw[XM,h,bs,az (decide_eq_true rfl),d];simp[o,f,q];cases Jf m.d5<;>rfl
theorem uY{a b:d6}(h:Hz a b m=0):Hj a b m=some (Hy m):=by grind[Hj,Hy,cY,cX,Jf]
def NU(r:hO):Int:=
 if Du r.kl.d6 r.tl≠0 then Du r.kl.d6 r.tl else
 if Hz (Cx r.kl.d6 r.tl) r.fu.d6 r.sr≠0 then Hz (Cx r.kl.d6 r.tl) r.fu.d6 r.sr else if Hy r.sr=false then 11 else 0
variable{r:hO}
theorem qa(d:Q1 r.tl):KE r=some (NU r):=by
 unfold KE NU;rw[eh d,bs];by_cases h:Du r.kl.d6 r.tl=0
 .simp only[h,ne_eq,not_true_eq_false,if_false,decide_true,Bool.not_true,Bool.false_eq_true];rw[XM,bs];refine Dq fun f=>?_;rw[lY f,bs];exact UZ fun _=>rfl
 .simp[h]
def TO(r:hO):Int:=if Du r.kl.d6 r.tl≠0 then Du r.kl.d6 r.tl else Hz (Cx r.kl.d6 r.tl) r.fu.d6 r.sr
theorem q9(d:Q1 r.tl):Mf r=some (TO r):=by
 unfold Mf TO;rw[af d,bs];refine Dq fun h=>?_
 grind [Wn,cY]
theorem my(h:NU r=0):Du r.kl.d6 r.tl=0/\Hz (Cx r.kl.d6 r.tl) r.fu.d6 r.sr=0/\Hy r.sr=true:=by grind[NU]
def BI(l:Fp)(n:Int):Fp:=((List.range n.toNat).map Int.ofNat).filter fun i=>!hasB l i
variable{i:Int}
theorem Mi(l:Fp)(h:0<=i):BI l (i+1)=BI l i++if(!hasB l i)=true then[i]else[]:=by
 unfold BI;rw[show(i+1).toNat=i.toNat+1 by omega,List.range_succ,List.map_append,List.filter_append]
 grind
theorem FJ{n x:Int}(h:x∈BI l n):0<=x/\x<n:=by
 unfold BI at h
 grind
theorem Ps(l:Fp)(n:Int):(BI l n).length<=n.toNat:=by
 unfold BI
 grind
variable{n:Int}
theorem Wq(q:0<=n)(w:n<=1000){f:Int->K1}(hf:∀i,f i=some (hasB l i)):(pq (fun(j:Int)(o:Fp)=>
 (f j).bind fun d=>
 if (!d)=true then
 (AZ o [j]).bind fun h=>
 some h
 else
 some o) 0 n [])=some (BI l n):=by
 refine Bz (BI l) q (by simp[BI]) (fun i u x=>?_);have:=Ps l i;rw[hf,bs,Mi l u];cases hasB l i
 .rw[az (by decide),az (by decide),AY (by simp;unfold At;omega)];rfl
 .rw[b6 (by decide),b6 (by decide),List.append_nil]
theorem Yb(d:0<=n)(f:n<=1000):JZ l n=some (BI l n):=by
 unfold JZ;rw[Wq d f (fun i=>Ks l i)];rfl
theorem fU(d:0<=n)(f:n<=1000):Kc n l=some (BI l n):=by
 unfold Kc;rw[Wq d f (fun i=>nf l i)];rfl
def D3(r:hO):Fp:=BI r.sr.d5 r.fu.d6.d5.length
def Ip(r:hO):Fp:=BI r.sr.d7 r.fu.d6.d7.length
theorem eu(d:CN r.fu.d6):KD r=some (D3 r,Ip r):=by
 have:=d.ek;have:=d.em;unfold KD;rw[Yb (by omega) (by omega),bs,Yb (by omega) (by omega)];rfl
theorem fO(d:CN r.fu.d6):JL r=some (D3 r,Ip r):=by
 have:=d.ek;have:=d.em;unfold JL;rw[fU (by omega) (by omega),bs,fU (by omega) (by omega)];rfl
def GL(t:ej)(g:d6)(i:Int):Bool:=Iu t (AA g.d7 i).mt (AA g.d5 (AA g.d7 i).nd) (AA g.d5 (AA g.d7 i).To)
def P9(t:ej)(g:d6)(ek em:Fp):Bool:=!(ek.any fun i=>(AA t.d5 (AA g.d5 i)).qo)&&!(em.any fun i=>!GL t g i)
variable{t:ej}{g:d6}
theorem uV(hf:A6 t)(o:CN g)(q:CW t g=true){ek em:Fp}(u:∀x∈ek,0<=x/\x<g.d5.length)(he:∀x∈em,0<=x/\x<g.d7.length):Gy t g ek em=some (P9 t g ek em):=by
 have h:=GN o q;unfold Gy P9;rw[R9 (p:=fun i=>(AA t.d5 (AA g.d5 i)).qo) (fun x f=>by
  have d:=u x f;have j:=h.1 _ (AF d.1 d.2);unfold Kd;rw[AD d.1 d.2,bs,AD j.1 j.2];rfl),bs,R9 (p:=fun i=>!GL t g i) (fun x f=>by
  have d:=he x f;have j:=o.fit _ (AF d.1 d.2);unfold Gp;rw[AD d.1 d.2,bs,AD (by omega) (by omega),bs,AD (by omega) (by omega),bs,ei hf];rfl)]
 grind
theorem ua(hf:A6 t)(q:CN g)(u:CW t g=true){ek em:Fp}(w:∀x∈ek,0<=x/\x<g.d5.length)(he:∀x∈em,0<=x/\x<g.d7.length):KC t g ek em=some (P9 t g ek em):=by
 have j:=GN q u;unfold KC P9;rw[II,II,Br (fun i=>(AA t.d5 (AA g.d5 (AA ek i))).qo) false]
 .rw[Br (fun i=>!GL t g (AA em i)) false]
  .cases n8 (fun i=>(AA t.d5 (AA g.d5 (AA ek i))).qo) 0 ek.length
   .cases n8 (fun i=>!GL t g (AA em i)) 0 em.length<;>rfl
   .rfl
  .intro i f h _;have d:=he _ (AF f h);have o:=q.fit _ (AF d.1 d.2);rw[AD f h,bs,AD d.1 d.2,bs,AD (by omega) (by omega),bs,AD (by omega) (by omega),bs,VF hf,bs,Km];rfl
 .intro i f h _;have d:=w _ (AF f h);have o:=j.1 _ (AF d.1 d.2);rw[AD f h,bs,AD d.1 d.2,bs,AD o.1 o.2,bs,Km]
end Go.Sf.Sc
namespace Go.Sf.Sc
open Go Go.Sf
structure Mz(p:ed):Prop where
 ek:p.d6.d5.length<=45
 em:p.d6.d7.length<=90
 slots:p.ff.length<=15
 tests:p.ns.length<=15
structure bH(m:eb):Prop where
 ek:m.d5.length<=140
 em:m.d7.length<=140
inductive Db:ea->Prop where
 |mk (c:ea) (hq:Mz c.ed) (hm:bH c.Map) (hk:∀k∈c.hV,Db k):Db c
variable{c:ea}
theorem Db.q(h:Db c):Mz c.ed:=by cases h;assumption
theorem Db.m(h:Db c):bH c.Map:=by cases h;assumption
theorem Db.k(h:Db c):∀k∈c.hV,Db k:=by cases h;assumption
theorem ER{c k:ea}(h:k∈c.hV):SizeOf.sizeOf k<SizeOf.sizeOf c:=by
 have:=List.sizeOf_lt_of_mem h;cases c
 grind
theorem Dn(c:ea):0<SizeOf.sizeOf c:=by
 cases c
 grind
def OV(c:ea):Bool:=decide (c.Map.d5.length=0/\c.Map.d7.length=0/\c.ed.d6.d5.length=0/\c.ed.d6.d7.length=0/\c.ed.ff.length=0/\c.ed.ns.length=0/\c.ed.fq=0)
theorem qS(hf:Db c):EX c=some (OV c):=by
 have d:=hf.q;have f:=hf.m;have:=d.ek;have:=d.em;have:=d.slots;have:=d.tests;have:=f.ek;have:=f.em;unfold EX OV;rw[AW (n:=(c.Map.d5.length:Int)+c.Map.d7.length) (by omega) (by omega),AW (n:=(c.Map.d5.length:Int)+c.Map.d7.length+c.ed.d6.d5.length) (by omega) (by omega),
  AW (n:=(c.Map.d5.length:Int)+c.Map.d7.length+c.ed.d6.d5.length+c.ed.d6.d7.length) (by omega) (by omega),
  AW (n:=(c.Map.d5.length:Int)+c.Map.d7.length+c.ed.d6.d5.length+c.ed.d6.d7.length+c.ed.ff.length) (by omega) (by omega),
  AW (n:=(c.Map.d5.length:Int)+c.Map.d7.length+c.ed.d6.d5.length+c.ed.d6.d7.length+c.ed.ff.length+c.ed.ns.length) (by omega) (by omega)]
 congr 1
 grind
theorem jW(hf:Db c):Gx c=some (OV c):=by
 have d:=hf.q;have f:=hf.m;have:=d.ek;have:=d.em;have:=d.slots;have:=d.tests;have:=f.ek;have:=f.em;unfold Gx OV;rw[AW (n:=(c.Map.d5.length:Int)+c.Map.d7.length) (by omega) (by omega),AW (n:=(c.Map.d5.length:Int)+c.Map.d7.length+c.ed.d6.d5.length) (by omega) (by omega),
  AW (n:=(c.Map.d5.length:Int)+c.Map.d7.length+c.ed.d6.d5.length+c.ed.d6.d7.length) (by omega) (by omega),
  AW (n:=(c.ed.ff.length:Int)+c.ed.ns.length) (by omega) (by omega)]
 congr 1
 grind
def RN(c:ea):Bool:=
 if c.o3=1 then decide (c.hV.length=0)&&OV c else if c.o3=2 then decide (c.hV.length=1)&&OV c else
 if c.o3=3\/c.o3=4 then decide (1<=c.hV.length)&&OV c else if c.o3=5 then decide (c.hV.length=1)else false
def Qy:Nat->ea->Bool
 |0,_=>false|n+1,c=>RN c&&c.hV.all (Qy n)
theorem qp:∀(N:Nat)(c:ea),SizeOf.sizeOf c<=N->Db c->∀n,2*N<=n->BS n c=some (Qy N c)
 |0,c,h,_,_,_=>by have:=Dn c;omega|N+1,c,h,hf,n,B=>by
  obtain ⟨n,rfl⟩:∃m,n=m+2:=⟨n-2,by omega⟩;rw[BS,Qy,qS hf];have f:Bs c.hV (Ba (n+1))=some (!c.hV.all (Qy N)):=by
   rw [Xp (p:=fun k=>!Qy N k) (fun k f=>by
    have:=ER f;rw[Ba,qp N k (by omega) (hf.k k f) n (by omega)];rfl),List.all_eq_not_any_not,Bool.not_not]
  rw [f];unfold RN;simp only[bs,zzX];generalize OV c=b;generalize c.hV.all (Qy N)=w;have y:decide ((c.hV.length:Int)=0)=decide (c.hV.length=0):=by rw[decide_eq_decide];omega
  have z:decide ((c.hV.length:Int)=1)=decide (c.hV.length=1):=by rw[decide_eq_decide];omega
  have A:decide (1<=(c.hV.length:Int))=decide (1<=c.hV.length):=by rw[decide_eq_decide];omega
  simp only[show((c.hV.length:Int)=0)↔c.hV.length=0 by omega,show((c.hV.length:Int)=1)↔c.hV.length=1 by omega,show(1<=(c.hV.length:Int))↔1<=c.hV.length by omega];by_cases j:c.o3=1
  .rw[az j,az j];by_cases d:c.hV.length=0<;>cases b<;>cases w<;>simp[d]
  .rw[b6 j,b6 j];by_cases o:c.o3=2
   .rw[az o,az o];by_cases d:c.hV.length=1<;>cases b<;>cases w<;>simp[d]
   .rw[b6 o,b6 o];by_cases u:c.o3=3
    .simp[u,true_or];by_cases d:1<=c.hV.length<;>cases b<;>cases w<;>simp[d]
    .by_cases x:c.o3=4
     .simp[x,or_true,show¬(4:Int)=3 by decide];by_cases d:1<=c.hV.length<;>cases b<;>cases w<;>simp[d]
     .simp only[u,x,if_false,or_false];by_cases q:c.o3=5
      .rw[az q,az q];by_cases d:c.hV.length=1<;>cases w<;>simp[d]
      .rw[b6 q,b6 q];cases w<;>rfl
theorem qu(hf:Db c):LA c=some (RN c):=by
 unfold LA RN;rw[jW hf];simp[zzX];generalize OV c=b;simp[show((c.hV.length:Int)=0)↔c.hV.length=0 by omega,show((c.hV.length:Int)=1)↔c.hV.length=1 by omega,show(0<(c.hV.length:Int))↔1<=c.hV.length by omega]
 grind
theorem pR{α:Type}[Inhabited α]{l:List α}{p:α->Bool}:l.all p=!n8 (fun i=>!p (AA l i)) 0 l.length:=by
 rw [List.all_eq_not_any_not,II]
theorem lb:∀(N:Nat)(c:ea),SizeOf.sizeOf c<=N->Db c->∀n,N<=n->ED n c=some (Qy N c)
 |0,c,h,_,_,_=>by have:=Dn c;omega|N+1,c,h,hf,n,o=>by
  obtain ⟨n,rfl⟩:∃m,n=m+1:=⟨n-1,by omega⟩;rw[ED,Qy,qu hf,bs,pR,Br (fun i=>!Qy N (AA c.hV i)) false]
  .cases RN c
   .rfl
   .cases n8 (fun i=>!Qy N (AA c.hV i)) 0 c.hV.length<;>rfl
  .intro i d f _;have j:=AF (l:=c.hV) d f;have:=ER j;rw[AD d f,bs,lb N _ (by omega) (hf.k _ j) n (by omega),bs,Km]
noncomputable def bB(c:ea):Bool:=Qy (SizeOf.sizeOf c) c
theorem uW(hf:Db c):GX c=some (bB c):=E0 (2*SizeOf.sizeOf c) fun n d=>qp _ c (bk _) hf n d
theorem ud(hf:Db c):ND c=some (bB c):=E0 (SizeOf.sizeOf c) fun n d=>lb _ c (bk _) hf n d
def MJ:Nat->ea->Int×Int
 |0,_=>(0,0)|n+1,c=>
  let s:=c.hV.foldl (fun s k=>(AK (s.1+(MJ n k).1),max s.2 (MJ n k).2)) ((1,0):Int×Int)
  (s.1,if c.o3=5 then AK (s.2+1)else s.2)
theorem Wb{α σ:Type}[Inhabited α]{l:List α}{g:σ->α->σ}{s:σ}{f:Int->σ->Option σ}(h:∀(i:Int)s,0<=i->i<l.length->f i s=some (g s (AA l i))):pq f 0 l.length s=some (l.foldl g s):=by
 rw [Bz (fun i=>(l.take i.toNat).foldl g s) (by omega) (by simp)]
 .rw[Int.toNat_natCast,List.take_length]
 grind [B3]
theorem ez:∀(N:Nat)(c:ea),SizeOf.sizeOf c<=N->∀n,N<=n->CH n c=some (MJ N c)
 |0,c,h,_,_=>by have:=Dn c;omega|N+1,c,h,n,j=>by
  obtain ⟨n,rfl⟩:∃m,n=m+1:=⟨n-1,by omega⟩;rw[CH,MJ,Wb (g:=fun s k=>(AK (s.1+(MJ N k).1),max s.2 (MJ N k).2))]
  .grind
  .intro i s d f;have:=ER (AF (l:=c.hV) d f);rw[AD d f,bs,ez N _ (by omega) n (by omega)];rfl
theorem fR:∀(N:Nat)(c:ea),SizeOf.sizeOf c<=N->∀n,N<=n->Eb n c=some (MJ N c)
 |0,c,h,_,_=>by have:=Dn c;omega|N+1,c,h,n,j=>by
  obtain ⟨n,rfl⟩:∃m,n=m+1:=⟨n-1,by omega⟩;rw[Eb,MJ,Wb (g:=fun s k=>(AK (s.1+(MJ N k).1),max s.2 (MJ N k).2))]
  .grind
  .intro i s d f;have:=ER (AF (l:=c.hV) d f);rw[AD d f,bs,fR N _ (by omega) n (by omega)];rfl
noncomputable def TC(c:ea):Int×Int:=MJ (SizeOf.sizeOf c) c
noncomputable def KI(c:ea):Int:=if bB c=false then 1 else if 12<(TC c).1\/3<(TC c).2 then 3 else 0
theorem nR(hf:Db c):Ez c=some (KI c):=by
 unfold Ez KI;rw[uW hf,bs,show H8 c=some (TC c)from E0 (SizeOf.sizeOf c) fun n d=>ez _ c (bk _) n d,bs]
 grind
theorem np(hf:Db c):K8 c=some (KI c):=by
 unfold K8 KI;rw[ud hf,bs,show OK c=some (TC c)from E0 (SizeOf.sizeOf c) fun n d=>fR _ c (bk _) n d,bs]
 grind
theorem Un(g:d6):Bn g≠9:=by grind[Bn]
variable{t:ej}{p:ed}
theorem T7(d:(A1 t).2=0)(h:EH t p=0\/EH t p=9):0<=p.fq/\p.fq<=12:=by grind[Un,EH]
def P8(t:ej)(q:ed)(v:Int):Int:=if EH t q≠9 then EH t q else if n8 (fun i=>!Gd q i) v q.fq=true then 9 else 0
variable{P:Prop}
theorem vq{α:Type}[Decidable P]{v:α}{X:Option α}{Y:α}(h:P->X=some Y):(if(!decide P)=true then some v else X)=some (if¬P then v else Y):=by grind
theorem uU(hf:A6 t)(f:(A1 t).2=0){q:ed}{v:Int}(u:0<=v)(h:v<=q.fq):D2 t q v=some (P8 t q v):=by
 unfold D2 P8;rw[VA hf,bs];refine vq fun d=>?_;have hv:=T7 f (.inr d);rw[Lx (c:=fun i=>(if(!Gd q i)=true then some ()else none).map fun _=>.inr 9) (a:=v) (b:=q.fq) h]
 .rw[TA,Ny];cases n8 (fun i=>!Gd q i) v q.fq<;>rfl
 .intro i w o _;rw[az (by simpa using o),show(fun j=>G7 j i)=(fun y=>some (decide (y.kg.Var=i)))from rfl,Z0,bs,show(q.ff.any fun y=>decide (y.kg.Var=i))=Gd q i from rfl,d,AW (by omega) (by omega)];cases Gd q i<;>rfl
 .rw[b6 (by simp)]
theorem nj(p:ed)(v:Int):Mc p v=some (Gd p v):=lh p v
theorem uZ(hf:A6 t)(q:ed)(v:Int):K9 t v q=some (if q.fq<v then 20 else P8 t q v):=by
 unfold K9 P8;refine Nv (by simp) fun _=>?_;rw[cZ hf,bs];refine vq fun d=>?_;rw[d,Br (fun i=>!Gd q i) 9]
 .cases n8 (fun i=>!Gd q i) v q.fq<;>rfl
 .intro i f h _;rw[nj,bs,Km]
def G9:Nat->ej->ed->ea->Int
 |0,_,_,_=>0|N+1,t,p,c=>
  if c.o3=5 then
   if c.ed.fq<p.fq then 20 else if P8 t c.ed p.fq≠0 then P8 t c.ed p.fq else
   if Hz p.d6 c.ed.d6 c.Map≠0 then Hz p.d6 c.ed.d6 c.Map else if Hy c.Map=false then 1 else
   (fst (fun i=>nz (G9 N t c.ed (AA c.hV i))) 0 c.hV.length).getD 0
  else (fst (fun i=>nz (G9 N t p (AA c.hV i))) 0 c.hV.length).getD 0
theorem fB(hf:A6 t)(o:(A1 t).2=0):∀(N:Nat)(c:ea)(p:ed),0<=p.fq->SizeOf.sizeOf c<=N->∀n,N<=n->B4 n t p c=some (G9 N t p c)
 |0,c,p,_,h,_,_=>by have:=Dn c;omega|N+1,c,p,C,h,n,D=>by
  obtain ⟨n,rfl⟩:∃m,n=m+1:=⟨n-1,by omega⟩;rw[B4,G9];have j:∀q:ed,0<=q.fq->(fl (kq (ρ:=Int) (fun(y:Int)(_:Unit)=>
    (idx c.hV y).bind fun f=>
    (B4 n t q f).bind fun d=>
    if (!decide (d=0))=true then
    some (.ret d)
    else
    some (.next ())) 0 (c.hV.length:Int) ()) (fun _=>
    some 0) (fun z=>some z))=some ((fst (fun i=>nz (G9 N t q (AA c.hV i))) 0 c.hV.length).getD 0):=by
   intro q B;rw[Bb (fun i=>nz (G9 N t q (AA c.hV i))),Cc];intro i u w _;have:=ER (AF (l:=c.hV) u w);rw[AD u w,bs,fB hf o N _ q B (by omega) n (by omega),bs,Kx]
  by_cases x:c.o3=5
  .rw[az (by simpa using x),az x];refine Nv (by simp) fun hv=>?_;rw[uU hf o C (by omega),bs];refine Dq fun hi=>?_;rw[XM,bs];refine Dq fun A=>?_;rw[lY A,bs]
   grind
  grind
theorem fT(hf:A6 t):∀(N:Nat)(c:ea)(p:ed),SizeOf.sizeOf c<=N->∀n,N<=n->Er n t p c=some (G9 N t p c)
 |0,c,p,h,_,_=>by have:=Dn c;omega|N+1,c,p,h,n,A=>by
  obtain ⟨n,rfl⟩:∃m,n=m+1:=⟨n-1,by omega⟩;rw[Er,G9];have d:∀q:ed,(fl (kq (ρ:=Int) (fun(x:Int)(_:Unit)=>
    (idx c.hV x).bind fun o=>
    (Er n t q o).bind fun f=>
    if (!decide (f=0))=true then
    some (.ret f)
    else
    some (.next ())) 0 (c.hV.length:Int) ()) (fun _=>
    some 0) (fun y=>some y))=some ((fst (fun i=>nz (G9 N t q (AA c.hV i))) 0 c.hV.length).getD 0):=by
   intro q;rw[Bb (fun i=>nz (G9 N t q (AA c.hV i))),Cc];intro i u w _;have:=ER (AF (l:=c.hV) u w);rw[AD u w,bs,fT hf N _ q (by omega) n (by omega),bs,Kx]
  by_cases j:c.o3=5
  .rw[az (by simpa using j),az j,uZ hf,bs];by_cases hv:c.ed.fq<p.fq
   .simp[hv]
   .simp only[b6 hv];refine Dq fun hi=>?_;rw[cY,bs];refine Dq fun z=>?_;rw[uY z,bs];exact UZ fun _=>d _
  .rw[b6 (by simpa using j),b6 j];exact d p
noncomputable def HT(t:ej)(p:ed)(c:ea):Int:=if EH t p≠0 then EH t p else if KI c≠0 then KI c else G9 (SizeOf.sizeOf c) t p c
theorem eo(hf:A6 t)(d:(A1 t).2=0)(p:ed)(f:Db c):C3 t p c=some (HT t p c):=by
 unfold C3 HT;rw[VA hf,bs];refine Dq fun h=>?_;rw[nR f,bs,Option.bind_fun_some];exact Dq fun _=>E0 (SizeOf.sizeOf c) fun n j=>fB hf d _ c p (T7 d (.inl h)).1 (bk _) n j
theorem fN(hf:A6 t)(p:ed)(d:Db c):JX t p c=some (HT t p c):=by
 unfold JX HT;rw[cZ hf,bs];refine Dq fun h=>?_;rw[np d,bs,Option.bind_fun_some];exact Dq fun _=>E0 (SizeOf.sizeOf c) fun n f=>fT hf _ c p (bk _) n f
end Go.Sf.Sc
namespace Go.Sf.Sc
open Go Go.Sf
structure OC(r:hO):Prop where
 name:(r.mr.size:Int)<=60
 left:Mz r.kl
 right:Mz r.fu
 gn:Q1 r.tl
 into:bH r.sr
 cond:Db r.ea
noncomputable def Cy(t:ej)(r:hO):Int:=
 if (A1 t).2≠0 then(A1 t).2 else if DZ r.mr=false then 2 else if EH t r.kl≠0 then EH t r.kl else
 if Hm t r≠0 then Hm t r else if NU r≠0 then NU r else if P9 t r.fu.d6 (D3 r) (Ip r)=false then 13 else HT t r.kl r.ea
variable{t:ej}{r:hO}
theorem UC(h:Hm t r=0):CN r.fu.d6/\CW t r.fu.d6=true:=by grind[Hm,Cp]
theorem Yf(hf:A6 t)(d:OC r):Hn t r=some (Cy t r):=by
 have q:=d.name;unfold Hn Cy;rw[Lv hf,bs];refine Dq fun j=>?_;rw[O9 (by omega),bs];refine UZ fun _=>?_;rw[VA hf,bs];refine Dq fun _=>?_;rw[nQ hf,bs];refine Dq fun f=>?_;have ho:=UC f;rw[qa d.gn,bs];refine Dq fun o=>?_;rw[eu ho.1,bs];dsimp only;rw[uV (ek:=D3 r) (em:=Ip r) hf ho.1 ho.2 (fun x h=>FJ h) (fun x h=>FJ h),bs];refine UZ fun _=>?_;rw[eo hf j _ d.cond,bs]
theorem qy(hf:A6 t)(d:OC r):LB t r=some (Cy t r):=by
 have u:=d.name;unfold LB Cy;rw[Ot hf,bs];refine Dq fun q=>?_;rw[PA (by omega),bs];refine UZ fun _=>?_;rw[cZ hf,bs];refine Dq fun _=>?_;rw[nk hf,bs];refine Dq fun f=>?_;have ho:=UC f;rw[q9 d.gn,bs,cX,bs];simp only[cX,bs];have e:(if(!Jf r.sr.d5)=true then some true else some (!Jf r.sr.d7))=some (!Hy r.sr):=by
  grind [Hy,Jf]
 rw [e,bs];have o:NU r=if TO r≠0 then TO r else if Hy r.sr=false then 11 else 0:=by
  grind [NU,TO,Du]
 rw [o];by_cases j:TO r=0
 .simp only[j,ne_eq,not_true_eq_false,if_false,decide_true,Bool.not_true,Bool.false_eq_true];cases hi:Hy r.sr
  .simp
  .simp only[Bool.not_true,Bool.false_eq_true,if_false,not_true_eq_false,Bool.true_eq_false];rw[fO ho.1,bs];dsimp only;rw[ua (ek:=D3 r) (em:=Ip r) hf ho.1 ho.2 (fun x h=>FJ h) (fun x h=>FJ h),bs];refine UZ fun _=>?_;rw[fN hf _ d.cond,bs]
 .simp[j]
def Aa2(t:ej)(l:Fp):Bool:=!(l.any fun k=>t.d5.any fun n=>decide (n.x8=k))
structure dV(t:ej)(r:hO):Prop where
 left:CN r.kl.d6
 ltyped:CW t r.kl.d6=true
 right:CN r.fu.d6
 Abt:CW t r.fu.d6=true
 rtests:r.fu.ns.length=0
 part:Nt r.kl.d6 r.tl
 mor:Q2 (Cx r.kl.d6 r.tl) r.fu.d6 r.sr
 inj:r.sr.d5.Nodup/\r.sr.d7.Nodup
variable{p:ed}
theorem VC(h:EH t p=0):CN p.d6/\CW t p.d6=true:=by grind[EH,Cp]
theorem aj(h:Cy t r=0):(A1 t).2=0/\dV t r:=by
 unfold Cy at h;split at h
 .omega
 split at h
 .cases h
 split at h
 .omega
 split at h
 .omega
 split at h
 .omega
 rename_i o q u w x;have d:=VC (t:=t) (p:=r.kl) (by omega);have f:=UC (t:=t) (r:=r) (by omega);have j:=my (r:=r) (by omega);have hi:Jf r.sr.d5=true/\Jf r.sr.d7=true:=by
  grind [Hy]
 refine ⟨by omega,d.1,d.2,f.1,f.2,?_,?_,Ux j.2.1,Iq.1 hi.1,Iq.1 hi.2⟩
 .grind[Hm]
 grind [Du,Si]
variable{l:Fp}
theorem Zw{n:Nat}(h:∀x∈l,0<=x/\x<n)(f:l.Pairwise (·<·)):l.length<=n:=by
 have key:∀i:Int,0<=i->i<l.length->i<=AA l i:=by
  intro i d j;obtain⟨k,rfl⟩:=Int.eq_ofNat_of_zero_le d;clear d
  induction k with
  |zero=>exact(h _ (AF (by omega) (by omega))).1|succ k o=>
   grind [Gk]
 by_cases d:l.length=0
 .omega
 .have a:=key ((l.length:Int)-1) (by omega) (by omega)
  grind [AF]
end Go.Sf.Sc
namespace Go.Sf
variable{a b:Int}
theorem bF{ρ:Type}{f:Int->Option (Bu Int ρ)}(p:Int->Bool)(v:ρ)(d:a<=b)(h:∀i,a<=i->i<b->f i=some (if p i=true then .ret v else .next (i+1)))(j:f b=some (.brk b)):C7 f a=some (if n8 p a b=true then .inr v else .inl b):=by
 rw [Lx (c:=fun i=>(if p i=true then some ()else none).map fun _=>.inr v) d]
 .grind[TA,Ny,n8]
 .intro i o q _;rw[h i o q];cases p i<;>rfl
 .exact j
theorem Lt{α:Type}{e:α->TV}{n:Nat}{l:List α}(h:TV.Sm (.list n (l.map e))):(l.length:Int)<=140737488351232/\∀x∈l,(e x).Sm:=by
 simp [TV.Sm]at h;refine⟨by have:=h.1;unfold reachBytes at this;omega,fun x d=>Ja.1 h.2 _ (List.mem_map.2 ⟨x,d,rfl⟩)⟩
end Go.Sf
namespace Go.Sf.Sc
open Go Go.Sf
def Xn(a:mh):Bool:=(decide (40<(a.mr.size:Int))||decide (25<(a.sx.length:Int)))||n8 (fun i=>decide (40<((AA a.sx i).size:Int))) 0 a.sx.length
theorem iC{a:mh}(h:Xn a=false):Q0 a:=by
 unfold Xn at h;simp[decide_eq_false_iff_not,Bk]at h;refine⟨by omega,by omega,fun x d=>?_⟩
 grind [Bh]
variable{t:ej}
theorem SH(U:(AP t).Sm):∃b,J8 t=some b/\(b=true->A6 t):=by
 have L:TV.Sms [_,_]:=U;obtain⟨w,O⟩:=Lt (e:=Ic) L.1;unfold J8;by_cases hl:20<t.d5.length\/30<t.d7.length
 .rw[az (by simp;omega)]
  grind
 rw [b6 (by simp;omega)];rcases O4 (f:=(fun(B:Int)(S:Int)=>
 (idx t.d5 B).bind fun z=>
 (if(decide (30<(AK (S+(z.r0.length:Int)))))=true then some true else((idx t.d5 B).bind fun F=>
 some (decide (40<(F.mr.size:Int))))).bind fun G=>
 if G=true then
 some (Bu.ret false)
 else
 fl (C7 (ρ:=Bool) (fun(x:Int)=>
 (idx t.d5 B).bind fun H=>
 if (decide (x<(H.r0.length:Int)))=true then
 (idx t.d5 B).bind fun I=>
 (idx I.r0 x).bind fun q=>
 if ((decide (40<(q.mr.size:Int)))||(decide (25<(q.sx.length:Int))))=true then
 some (.ret false)
 else
 fl (C7 (ρ:=Bool) (fun(y:Int)=>
 if (decide (y<(q.sx.length:Int)))=true then
 (idx q.sx y).bind fun J=>
 if (decide (40<(J.size:Int)))=true then
 some (.ret false)
 else
 some (.next (AK (y+1)))
 else
 some (.brk y)) 0) (fun y=>
 some (.next (AK (x+1)))) (fun V=>some (.ret V))
 else
 some (.brk x)) 0) (fun x=>
 some (.next (AK (S+(z.r0.length:Int))))) (fun W=>some (.ret W))))
  (fun i s=>0<=s/\s<=30/\∀j,0<=j->j<i->((AA t.d5 j).mr.size:Int)<=40/\(AA t.d5 j).r0.length<=30/\∀a∈(AA t.d5 j).r0,Q0 a) (fun _=>False) (fun r=>r=false) (a:=0) (b:=t.d5.length) (s:=0) (by omega) ⟨by omega,by omega,fun j A d=>by omega⟩ (fun i s C D Z=>by
   have hx:=O _ (AF (l:=t.d5) C D);have M:TV.Sms [_,_,_,_]:=hx;obtain⟨ha,Q⟩:=Lt (e:=HV) M.2.2.2.1;obtain⟨hI1,hI2,hI3⟩:=Z;have hw:AK (s+(AA t.d5 i).r0.length)=s+(AA t.d5 i).r0.length:=AW (by omega) (by omega);simp only[AD C D,bs,hw,YT];by_cases hc:30<s+(AA t.d5 i).r0.length\/40<((AA t.d5 i).mr.size:Int)
   .grind
   rw [b6 (by simpa using hc)];rw[bF (fun j=>Xn (AA (AA t.d5 i).r0 j)) false (b:=(AA t.d5 i).r0.length) (by omega)]
   .cases T:n8 (fun j=>Xn (AA (AA t.d5 i).r0 j)) 0 (AA t.d5 i).r0.length
    .refine .inl ⟨_,rfl,by omega,by omega,fun j K E=>?_⟩
     grind [Bh,iC,Bk]
    .exact .inr (.inr ⟨_,rfl,rfl⟩)
   .intro j K E;rw[az (by simpa using E),AD K E,bs];have hy:=Q _ (AF (l:=(AA t.d5 i).r0) K E);have N:TV.Sms [_,_,_,_]:=hy;obtain⟨hm,_⟩:=Lt (e:=eS) N.2.2.2.1;unfold Xn;cases A:(decide (40<((AA (AA t.d5 i).r0 j).mr.size:Int))||decide (25<((AA (AA t.d5 i).r0 j).sx.length:Int)))
    .rw[b6 (by decide),bF (fun k=>decide (40<((AA (AA (AA t.d5 i).r0 j).sx k).size:Int))) false (b:=(AA (AA t.d5 i).r0 j).sx.length) (by omega)]
     .cases n8 (fun k=>decide (40<((AA (AA (AA t.d5 i).r0 j).sx k).size:Int))) 0 (AA (AA t.d5 i).r0 j).sx.length
      .rw[Bool.or_false,AW (show -9223372036854775808<=j+1 by omega) (by omega)];rfl
      .rfl
     .intro k u o;rw[az (by simpa using o),AD u o,bs,AW (show -9223372036854775808<=k+1 by omega) (by omega),Km]
     .rw[b6 (by simp)]
    .rfl
   .rw[b6 (by simp)])with⟨s',A,d⟩|⟨r,A,d⟩
 .rw[A];rcases d with d|d
  .rw[B6,Br (fun i=>decide (40<((AA t.d7 i).mr.size:Int))) false]
   .cases T:n8 (fun i=>decide (40<((AA t.d7 i).mr.size:Int))) 0 t.d7.length
    .refine⟨true,rfl,fun _=>⟨by omega,by omega,fun n w=>?_,fun n w=>?_,fun n w=>?_,fun e he=>?_⟩⟩
     .obtain⟨k,u,o,rfl⟩:=Bh w;exact(d.2.2 k u o).1
     .obtain⟨k,u,o,rfl⟩:=Bh w;exact(d.2.2 k u o).2.1
     .obtain⟨k,u,o,rfl⟩:=Bh w;exact(d.2.2 k u o).2.2
     .obtain⟨k,u,o,rfl⟩:=Bh he;have:=Bk.1 T k u o;simpa using this
    .exact⟨false,rfl,fun h=>by cases h⟩
   .intro i C D _;rw[AD C D,bs,Km]
  .exact d.elim
 .rw[A];subst d;exact⟨false,rfl,fun h=>by cases h⟩
theorem Ql(p:ed):∃b,Ig p=some b/\(b=true->Mz p):=by
 refine ⟨_,rfl,fun h=>?_⟩;simp[zzX]at h;exact⟨by omega,by omega,by omega,by omega⟩
variable{a b:Int}
theorem Z9(h:0<=a)(d:a<=140737488351232)(j:0<=b)(f:b<=140737488351232):AK (a+b)=a+b:=AW (by omega) (by omega)
variable{m:eb}
theorem Vd(f:(Bm m).Sm):∃b,N7 m 140=some b/\(b=true->bH m):=by
 have d:TV.Sms [_,_]:=f;have j:=(Lt (e:=eI) d.1).1;have o:=(Lt (e:=eI) d.2.1).1;refine⟨_,rfl,fun h=>?_⟩;rw[Z9 (by omega) j (by omega) o]at h;simp[zzX]at h;exact⟨by omega,by omega⟩
theorem iJ{m:Bo}(f:(MB m).Sm):∃b,Pm m 140=some b/\(b=true->Q1 m):=by
 have d:TV.Sms [_,_]:=f;have j:=(Lt (e:=eI) d.1).1;have o:=(Lt (e:=eI) d.2.1).1;refine⟨_,rfl,fun h=>?_⟩;rw[Z9 (by omega) j (by omega) o]at h;simp[zzX]at h;exact⟨by omega,by omega⟩
variable{c:ea}
theorem Z4(h:(AI c).Sm):(Bm c.Map).Sm/\(c.hV.length:Int)<=140737488351232/\∀k∈c.hV,(AI k).Sm:=by
 have f:TV.Sms [_,_,_,_,_,_,_,_,_]:=h;obtain⟨_,d,j,o,_⟩:=f;rw[PY]at d;obtain⟨q,u⟩:=Lt d;exact⟨⟨j,o,trivial⟩,q,u⟩
theorem X2:∀(N:Nat)(c:ea),SizeOf.sizeOf c<=N->(AI c).Sm->∀Aad:Int,0<=Aad->Aad<=1000->∃r,(∀n,N<=n->Cd n c Aad=some r)/\-1<=r/\r<=Aad-1/\(0<=r->Db c)
 |0,c,h,_,_,_,_=>by have:=Dn c;omega|N+1,c,h,hs,Aad,m0,m1=>by
  obtain ⟨L,M,B⟩:=Z4 hs;obtain⟨O,E,Q⟩:=Ql c.ed;obtain⟨S,H,T⟩:=Vd L;have step:∀n,N+1<=n->∃m,n=m+1/\N<=m:=fun n d=>⟨n-1,by omega,by omega⟩;cases O
  .refine⟨-1,fun n d=>?_,by omega,by omega,fun h=>by omega⟩;obtain⟨n,rfl,_⟩:=step n d;rw[Cd,E];rfl
  cases S
  .refine⟨-1,fun n d=>?_,by omega,by omega,fun h=>by omega⟩;obtain⟨n,rfl,_⟩:=step n d;rw[Cd,E,bs,H];rfl
  have loop:∀(m:Nat)(k left:Int),0<=k->k+m=c.hV.length->-1<=left->left<=1000->∃f u,(∀n,N<=n->Kk (ρ:=Int) (fun(q:Int×Int)=>
    if ((decide (q.2<(c.hV.length:Int)))&&(decide (0<=q.1)))=true then
    (idx c.hV q.2).bind fun x=>
    (Cd n x q.1).bind fun y=>
    some (.next (y,AK (q.2+1)))
    else
    some (.brk (q.1,q.2))) (left,k) (.inl (f,u)))/\-1<=f/\f<=left/\(0<=f->∀j,k<=j->j<c.hV.length->Db (AA c.hV j)):=by
   intro m
   induction m with
   |zero=>
    intro k left C I D l1;refine⟨left,k,fun n d=>.brk ?_,D,by omega,fun _ j z w=>by omega⟩;rw[b6 (by simp;omega)]
   |succ m Z=>
    intro k left C I D l1;by_cases J:0<=left
    .have o:=AF (l:=c.hV) C (by omega);have:=ER o;obtain⟨r,U,V,r3,W⟩:=X2 N _ (by omega) (B _ o) left J l1;obtain⟨f,u,a1,a2,a3,F⟩:=Z (k+1) r (by omega) (by omega) V (by omega);refine⟨f,u,fun n d=>.next (s':=(r,k+1)) ?_ (a1 n d),a2,by omega,fun A j z w=>?_⟩
     .rw[az (by simp;omega),AD C (by omega),bs,U n d,bs,AW (by omega) (by omega)]
     .by_cases K:j=k
      .subst K;exact W (by omega)
      .exact F A j (by omega) w
    .refine⟨left,k,fun n d=>.brk ?_,D,by omega,fun h=>by omega⟩;rw[b6 (by simp;omega)]
  obtain ⟨f,u,a1,a2,a3,F⟩:=loop c.hV.length 0 (Aad-1) (by omega) (by omega) (by omega) (by omega);refine⟨f,fun n d=>?_,a2,a3,fun A=>.mk c (Q rfl) (T rfl) (fun k B=>?_)⟩
  .obtain⟨n,rfl,G⟩:=step n d;rw[Cd,E,bs,H];simp only[bs,Bool.not_true,Bool.false_eq_true,if_false];rw[AW (n:=Aad-1) (by omega) (by omega),(a1 n G).eq,B6]
  .obtain⟨j,z,w,rfl⟩:=Bh B;exact F A j z w
theorem iI(d:(AI c).Sm):∃b,Ih c=some b/\(b=true->Db c):=by
 obtain ⟨r,f,_,_,j⟩:=X2 (SizeOf.sizeOf c) c (bk _) d 40 (by omega) (by omega);have e:Ob c 40=some r:=E0 (SizeOf.sizeOf c) f;unfold Ih;rw[e];exact⟨_,rfl,fun h=>j (by simpa using h)⟩
theorem Jt{b:Bool}{o:K1}{c:Bool}(h:o=some c):(if b=true then o.bind fun x=>some x else some false)=some (b&&c):=by
 subst h;cases b<;>rfl
variable{r:hO}
theorem iK(d:(CP r).Sm):∃b,N9 r=some b/\(b=true->OC r):=by
 have f:TV.Sms [_,_,_,_,_,_,_,_,_,_,_,_,_,_,_,_,_,_,_,_,_,_,_,_,_]:=d;obtain⟨_,_,_,_,_,_,_,_,_,_,_,j,o,q,u,_,w,x,c3,c4,c5,c6,c7,c8,c9,_⟩:=f;obtain⟨I,y,z⟩:=Ql r.kl;obtain⟨J,A,B⟩:=Ql r.fu;obtain⟨K,C,D⟩:=iJ (m:=r.tl) ⟨j,o,trivial⟩;obtain⟨L,E,F⟩:=Vd (m:=r.sr) ⟨q,u,trivial⟩;obtain⟨M,G,H⟩:=iI (c:=r.ea) ⟨w,x,c3,c4,c5,c6,c7,c8,c9,trivial⟩;unfold N9;rw[Jt y,bs,Jt A,bs,Jt C,bs,Jt E,bs,Jt G,bs];refine⟨_,rfl,fun h=>?_⟩;simp[zzX]at h;exact⟨h.1.1.1.1.1,z h.1.1.1.1.2,B h.1.1.1.2,D h.1.1.2,F h.1.2,H h.2⟩
end Go.Sf.Sc
