/- Plain lemmas: what the functions of the program and of the reference compute. -/
import Derived.Test.YtbgedoajacpdbaaGreatDoorSfRead
import Derived.Test.YtbgedoajacpdbaaGreatDoorFns
import Derived.Test.YtbgedoajacpdbaaGreatDoorSfPl
set_option linter.all false
set_option maxRecDepth 100000
namespace Go.Sf
theorem Vj{ρ τ:Type}{d:Int->Option ρ}{g:ρ->τ}:∀(n:Nat)(a:Int),Ek (fun i=>(d i).map g) n a=(Ek d n a).map g
 |0,_=>rfl|n+1,a=>by
  rw [Ek,Ek];cases d a with
  |some r=>rfl|none=>exact Vj n (a+1)
variable{a b:Int}
theorem OX{ρ τ:Type}{d:Int->Option ρ}{g:ρ->τ}:fst (fun i=>(d i).map g) a b=(fst d a b).map g:=Vj _ _
theorem UK{ρ:Type}{d:Int->Option ρ}{r:ρ}:∀{n:Nat}{a:Int},Ek d n a=some r->∃i,a<=i/\i<a+n/\d i=some r/\∀j,a<=j->j<i->d j=none
 |0,_,h=>by cases h
 |n+1,a,h=>by
  rw [Ek]at h;cases hd:d a with
  |some w=>
   grind
  |none=>
   rw [hd]at h;obtain⟨i,f,o,q,u⟩:=UK h
   grind
theorem C7{ρ:Type}{d:Int->Option ρ}{r:ρ}(h:fst d a b=some r):∃i,a<=i/\i<b/\d i=some r/\∀j,a<=j->j<i->d j=none:=by
 obtain ⟨i,f,o,q,u⟩:=UK h
 grind
def Ke(p:Int->Bool)(s:ByteArray):Int:=(fst (fun i=>if p (bt s i)then none else some i) 0 s.size).getD s.size
theorem SP(p:Int->Bool)(s:ByteArray):0<=Ke p s/\Ke p s<=s.size/\(∀j,0<=j->j<Ke p s->p (bt s j)=true)/\(Ke p s<s.size->p (bt s (Ke p s))=false):=by
 unfold Ke;cases h:fst (fun i=>if p (bt s i)then none else some i) 0 s.size with
 |none=>
  rw [B3]at h
  grind
 |some r=>
  grind [C7,bt,Option.getD]
variable{s:ByteArray}
theorem YT(h:s≠⟨#[]⟩):0<s.size:=by
 rcases Nat.eq_zero_or_pos s.size with f|f
 .exfalso;apply h;cases s with|mk d=>congr 1;exact Array.eq_empty_of_size_eq_zero f
 .exact f
end Go.Sf
namespace Go.Sf.Sc
open Go Go.Sf
def FT(c:Int):Bool:=((decide (97<=c))&&(decide (c<=122)))||((decide (65<=c))&&(decide (c<=90)))
def Aan(c:Int):Bool:=(decide (48<=c))&&(decide (c<=57))
def PQ(c:Int):Bool:=FT c||Aan c||decide (c=95)
theorem Xy(c:Int):KC c=some (FT c):=rfl
theorem VJ(c:Int):JW c=some (Aan c):=rfl
theorem YC(c:Int):Jz c=some (FT c):=rfl
theorem Zo(c:Int):Hy c=some (Aan c):=rfl
theorem nk(c:Int):Md c=some (PQ c):=by
 unfold Md PQ;rw[Xy,bs,VJ]
 grind
variable{s:ByteArray}
theorem bA(d:(s.size:Int)<=4611686018427387904){ok:Int->K1}{p:Int->Bool}(h:∀c,ok c=some (p c)):Ge s ok=some (Ke p s):=by
 unfold Ge;rw[Lp (c:=fun i=>(if p (bt s i)then none else some i).map .inl) (a:=0) (b:=s.size) (by omega)]
 .rw[OX];unfold Ke;cases fst (fun i=>if p (bt s i)=true then none else some i) 0 s.size<;>rfl
 .grind[Oc,bt,Dv,Am]
 .simp
def Ee(s:ByteArray):Bool:=decide (0<s.size)&&FT (bt s 0)&&decide (s.size<=20)&&decide (Ke PQ s=s.size)
theorem VG(l:List ByteArray)(v:ByteArray):∃k,slices_Index_string l v=some k/\(0<=k↔v∈l):=by
 unfold slices_Index_string;rw[BV (fun i=>if(v==AA l i)=true then some i else none)]
 .cases h:fst (fun i=>if(v==AA l i)=true then some i else none) 0 l.length with
  |none=>
   rw [B3]at h;refine⟨-1,rfl,by omega,fun o=>?_⟩
   grind [BW]
  |some k=>
   obtain ⟨i,d,f,q,_⟩:=C7 h;have j:(v==AA l i)=true/\i=k:=by
    grind
   obtain ⟨j,rfl⟩:=j;refine⟨i,rfl,fun _=>?_,fun _=>d⟩
   grind [AJ]
 .intro i d f _;simp only[AD d f,bs];split<;>rfl
theorem N9(l:List ByteArray)(v:ByteArray):slices_Contains_string l v=some (l.contains v):=by
 unfold slices_Contains_string;obtain⟨k,d,f⟩:=VG l v
 grind
theorem ni(z:0<s.size)(w:(s.size:Int)<=4611686018427387904):∃k n e,Hq s=some (k,n,e)/\(((decide (e=0))&&(decide (k=1)))&&(decide (n=(s.size:Int))))=Ee s:=by
 have F:=SP PQ s;unfold Hq Ee;simp only[Oc (Int.le_refl 0) (show(0:Int)<s.size by omega),bs,Xy,VJ,bA w nk,bA w VJ,z,decide_true,Bool.true_and];by_cases d:FT (bt s 0)=true
 .rw[ae d];by_cases f:20<Ke PQ s
  .refine⟨0,0,3,by simp[f],?_⟩;simp[d];intro E h;omega
  .refine⟨1,_,0,by rw[az (by simpa using f)],?_⟩;simp only[d,decide_true,Bool.true_and];rw[Bool.eq_iff_iff];simp only[zzX,tg];omega
 .rw[az d];have j:FT (bt s 0)=false:=by simpa using d
  rw [j,Bool.false_and,Bool.false_and];by_cases hd:Aan (bt s 0)=true
  .rw[ae hd];by_cases x:9<Ke Aan s
   .exact⟨0,0,3,by simp[x],by simp⟩
   .exact⟨2,_,0,by rw[az (by simpa using x)],by simp⟩
  .rw[az hd];by_cases y:bt s 0=34
   .have A:=WY (s:=s) (a:=1) (b:=s.size) (by omega) (by omega) (by omega);have o:∀c,KW c=some (((decide (32<=c))&&(decide (c<=126)))&&(!decide (c=34))):=fun _=>rfl;have B:=SP (fun c=>((decide (32<=c))&&(decide (c<=126)))&&(!decide (c=34))) (s.extract (1:Int).toNat (s.size:Int).toNat);have q:∃n e,Fx s=some (n,e):=by
     unfold Fx;rw[Ll (by omega) (by omega) (by omega),bs,bA (by omega) o,bs];rw[Am (by omega) (by omega)];by_cases he:1+Ke (fun c=>((decide (32<=c))&&(decide (c<=126)))&&(!decide (c=34))) (s.extract (1:Int).toNat (s.size:Int).toNat)=s.size
     .refine⟨0,2,?_⟩;simp only[he,decide_true,if_true,bs]
     .simp only[he,decide_false,Bool.false_eq_true,if_false];rw[Oc (by omega) (by omega)];simp only[bs];split
      .exact⟨_,_,rfl⟩
      .split
       .exact⟨_,_,rfl⟩
       .exact⟨_,_,rfl⟩
    obtain ⟨n,e,u⟩:=q;refine⟨3,n,e,by rw[ae (by simpa using y),u];rfl,by simp⟩
   .rw[az (by simpa using y)];have C:∃b,Mc s=some b:=by
     unfold Mc;by_cases h:2<=(s.size:Int)
     .rw[ae (by simpa using h),Ll (by omega) (by omega) h];simp only[bs,N9];exact⟨_,rfl⟩
     .rw[az (by simpa using h)];exact⟨_,rfl⟩
    obtain ⟨b,D⟩:=C;rw[D,bs];cases b
    .simp only[Bool.false_eq_true,if_false,strings_IndexByte,bs];split
     .exact⟨_,_,_,rfl,rfl⟩
     .exact⟨_,_,_,rfl,rfl⟩
    .exact⟨_,_,_,rfl,rfl⟩
theorem Ox(d:(s.size:Int)<=4611686018427387904):DB s=some (Ee s):=by
 unfold DB H5;simp only[show decide ((1:Int)=3)=false from rfl,Bool.false_eq_true,if_false,bs];by_cases he:s=⟨#[]⟩
 .subst he;rfl
 grind [ni,YT]
theorem oL(q:(s.size:Int)<=4611686018427387904)(d:Bool):∃n,Np s 0 d=some n/\0<=n/\n<=s.size/\(d=false->n=Ke PQ s):=by
 have h:=SP (fun c=>Aan c||(!d&&(FT c||decide (c=95)))) s;refine⟨Ke (fun c=>Aan c||(!d&&(FT c||decide (c=95)))) s,?_,h.1,h.2.1,fun hd=>?_⟩
 .unfold Np;rw[Lp (c:=fun i=>(if(Aan (bt s i)||(!d&&(FT (bt s i)||decide (bt s i=95))))then none else some i).map .inl) (a:=0) (b:=s.size) (by omega)]
  .rw[OX];unfold Ke;cases fst (fun i=>if(Aan (bt s i)||(!d&&(FT (bt s i)||decide (bt s i=95))))=true then none else some i) 0 s.size<;>rfl
  .intro i o f _;have j:Ad (0+i)=i:=by rw[Am (by omega) (by omega)];omega
   simp only[j,f,decide_true,if_true,Oc o f,bs,Zo,YC]
   grind [Aan,bt,FT,Dv,Am]
  .have j:Ad (0+(s.size:Int))=s.size:=by rw[Am (by omega) (by omega)];omega
   grind
 .subst hd;congr 1
  grind [PQ,FT,Aan]
theorem gE(q:0<s.size)(u:(s.size:Int)<=4611686018427387904):∃n,J0 s 0=some n/\(n=0\/(2<=n/\n<=s.size)):=by
 unfold J0;rw[Lp (c:=fun i=>if decide (bt s i=34)=true then some (Sum.inr (i+1):Int ⊕ Int)else if(decide (bt s i<32)||decide (126<bt s i))=true then some (Sum.inr 0)else none) (a:=1) (b:=s.size) (by omega)]
 .cases h:fst (fun i=>if decide (bt s i=34)=true then some (Sum.inr (i+1):Int ⊕ Int)else if(decide (bt s i<32)||decide (126<bt s i))=true then some (Sum.inr 0)else none) 1 s.size with
  |none=>exact⟨0,rfl,.inl rfl⟩|some r=>
   obtain ⟨i,o,f,d,_⟩:=C7 h;split at d
   .cases d;exact⟨_,rfl,.inr (by omega)⟩
   .split at d
    .cases d;exact⟨_,rfl,.inl rfl⟩
    .cases d
 .intro i o f _;have j:Ad (0+i)=i:=by rw[Am (by omega) (by omega)];omega
  simp only[j,f,decide_true,if_true,Oc (show 0<=i by omega) f,bs,Am (show -9223372036854775808<=i+1 by omega) (by omega)];split
  .rfl
  .split<;>rfl
 .have j:Ad (0+(s.size:Int))=s.size:=by rw[Am (by omega) (by omega)];omega
  grind
theorem r8(O:0<s.size)(Q:(s.size:Int)<=4611686018427387904):∃t n e,Nn s 0=some (t,n,e)/\(((decide (e=0))&&(decide (n=(s.size:Int))))&&(decide (t.mo=1)))=Ee s:=by
 obtain ⟨m,M,u,w,N⟩:=oL Q (Aan (bt s 0));unfold Nn Ee;simp only[Oc (Int.le_refl 0) (show(0:Int)<s.size by omega),bs,YC,Zo,O,decide_true,Bool.true_and,M];have S:Ad (0+m)=m:=by rw[Am (by omega) (by omega)];omega
 by_cases F:FT (bt s 0)=true
 .have hd:Aan (bt s 0)=false:=by
   unfold FT at F;unfold Aan
   grind
  have W:=N hd;subst W;simp only[F,if_true,hd,Bool.false_eq_true,if_false,bs,S];by_cases q:20<Ke PQ s
  .refine⟨_,_,_,by rw[ae (by simpa using q)],?_⟩
   grind
  .rw[az (by simpa using q),Ll (Int.le_refl _) u w];refine⟨_,_,_,rfl,?_⟩
   grind
 .have G:FT (bt s 0)=false:=by simpa using F
  simp only[G,Bool.false_eq_true,if_false,bs,Bool.false_and,S];by_cases hd:Aan (bt s 0)=true
  .simp only[hd,if_true,bs];by_cases T:9<m
   .exact⟨_,_,_,by rw[ae (by simpa using T)],by simp⟩
   .rw[az (by simpa using T),Ll (Int.le_refl _) u w];exact⟨_,_,_,rfl,by simp⟩
  .have H:Aan (bt s 0)=false:=by simpa using hd
   simp only[H,Bool.false_eq_true,if_false,bs];by_cases U:bt s 0=34
   .obtain⟨n,hn,y⟩:=gE O Q;rw[ae (by simpa using U),hn,bs];rcases y with rfl|y
    .grind
    .rw[az (by simp;omega)];split
     .grind
     .have Z:Ad (0+1)=1:=by decide
      have e2:Ad (0+n)=n:=by rw[Am (by omega) (by omega)];omega
      rw [Z,e2,Am (show -9223372036854775808<=n-1 by omega) (by omega),Ll (by omega) (by omega) (by omega)];exact⟨_,_,_,rfl,by simp⟩
   .rw[az (by simpa using U)];unfold NI;rw[bs];generalize hL:([(⟨#[45,62]⟩:ByteArray),(⟨#[60,61]⟩:ByteArray),(⟨#[62,61]⟩:ByteArray),(⟨#[61,61]⟩:ByteArray),(⟨#[33,61]⟩:ByteArray),(⟨#[123]⟩:ByteArray),(⟨#[125]⟩:ByteArray),(⟨#[40]⟩:ByteArray),(⟨#[41]⟩:ByteArray),(⟨#[91]⟩:ByteArray),(⟨#[93]⟩:ByteArray),(⟨#[44]⟩:ByteArray),(⟨#[59]⟩:ByteArray),(⟨#[58]⟩:ByteArray),(⟨#[61]⟩:ByteArray),(⟨#[43]⟩:ByteArray),(⟨#[45]⟩:ByteArray),(⟨#[42]⟩:ByteArray),(⟨#[60]⟩:ByteArray),(⟨#[62]⟩:ByteArray),(⟨#[33]⟩:ByteArray),(⟨#[38]⟩:ByteArray),(⟨#[124]⟩:ByteArray),(⟨#[46]⟩:ByteArray),(⟨#[63]⟩:ByteArray)]:List ByteArray)=L;have I:∀x∈L,x.size<=2:=by subst hL;decide
    rcases Ms (f:=(fun(h:Int)(V:EL)=>
      (idx L h).bind fun A=>
      (if(decide ((Ad (0+(A.size:Int)))<=(s.size:Int)))=true then((idx L h).bind fun B=>
      (AaH s 0 (Ad (0+(B.size:Int)))).bind fun C=>
      (idx L h).bind fun D=>
      some (C==D))else some false).bind fun E=>
      if E=true then
      (idx L h).bind fun j=>
      (idx L h).bind fun o=>
      some (Bk.ret (EL.mk 4 j 0,(o.size:Int),(0:Int)))
      else
      some (Bk.next V))) (fun _ s=>True) (fun _=>True) (fun r=>r.1.mo=4) (a:=0) (b:=L.length) (s:=EL.mk 0 (⟨#[]⟩:ByteArray) 0) (by omega) trivial (fun i t d z _=>by
      have hx:=I _ (AJ d z);have J:Ad (0+((AA L i).size:Int))=(AA L i).size:=by rw[Am (by omega) (by omega)];omega
      simp only[AD d z,bs,J];by_cases K:((AA L i).size:Int)<=s.size
      .rw[ae (by simpa using K),Ll (by omega) (by omega) K];simp only[bs];split
       .exact .inr (.inr ⟨_,rfl,rfl⟩)
       .exact .inl ⟨_,rfl,trivial⟩
      .rw[az (by simpa using K)];simp only[bs];exact .inl ⟨_,rfl,trivial⟩)with⟨s',d,_⟩|⟨r,d,z⟩
    .rw[d];exact⟨_,_,_,rfl,by simp⟩
    .rw[d];exact⟨_,_,_,rfl,by simp[z]⟩
theorem Oy(d:(s.size:Int)<=4611686018427387904):E2 s=some (Ee s):=by
 unfold E2 NG OL;simp only[show decide ((1:Int)=3)=false from rfl,Bool.false_eq_true,if_false,bs];by_cases he:s=⟨#[]⟩
 .subst he;rfl
 grind [r8,YT]
end Go.Sf.Sc
namespace Go.Sf
variable{ρ β:Type}
def nz(e:Int):QQ:=if e=0 then none else some e
theorem Kj(e:Int):(if(!decide (e=0))=true then some (Bk.ret e)else some (Bk.next ()))=some (Pb (nz e)):=by grind[nz,Pb]
theorem mj(b:Bool)(r:ρ):(if b=true then some (Bk.ret r)else some (Bk.next ()))=some (Pb (if b=true then some r else none)):=by
 cases b<;>rfl
variable{kr:ρ->Option β}
theorem BT{σ:Type}{s:σ}{k:σ->Option β}:ff (some (.inl s)) k kr=k s:=rfl
theorem Ln{σ:Type}{r:ρ}{k:σ->Option β}:ff (some (.inr r)) k kr=kr r:=rfl
theorem Dk(o:Option ρ)(k:Unit->Option β)(kr:ρ->Option β):ff (some (ij o)) k kr=match o with|none=>k ()|some r=>kr r:=by
 cases o<;>rfl
theorem CS(o:QQ):ff (some (ij o)) (fun _=>some 0) (fun v=>some v)=some (o.getD 0):=by
 cases o<;>rfl
variable{a b:Int}
theorem UL{c:Int->Int}(h:(fst (fun i=>nz (c i)) a b).getD 0=0):∀i,a<=i->i<b->c i=0:=by
 have:fst (fun i=>nz (c i)) a b=none:=by
  cases hf:fst (fun i=>nz (c i)) a b with
  |none=>rfl|some r=>
   grind [Option.getD,C7,nz]
 grind [B3,nz]
variable{e:Int}
theorem OZ:nz e=none↔e=0:=by grind[nz]
theorem TT{α:Type}[Inhabited α]{l:List α}{f:α->K1}{p:α->Bool}(h:∀x∈l,f x=some (p x)):
  (ff (j4 (ρ:=Int) (fun(o:Int)(_:Unit)=>(idx l o).bind fun d=>(f d).bind fun j=>if j=true then some (.ret o)else some (.next ())) 0 (l.length:Int) ()) (fun _=>some (-1)) (fun w=>some w))=
   some ((fst (fun i=>if p (AA l i)=true then some i else none) 0 l.length).getD (-1)):=by
 rw [BV (fun i=>if p (AA l i)=true then some i else none)]
 .rw[Dk];cases fst (fun i=>if p (AA l i)=true then some i else none) 0 l.length<;>rfl
 .intro i q u _;rw[AD q u,bs,h _ (AJ q u),bs,mj]
theorem Vp{α:Type}[Inhabited α]{l:List α}{p:α->Bool}:decide (0<=(fst (fun i=>if p (AA l i)=true then some i else none) 0 l.length).getD (-1))=l.any p:=by
 rw [HP,ne];cases h:fst (fun i=>if p (AA l i)=true then some i else none) 0 l.length with
 |none=>
  grind [B3,Option.isSome,Option.isSome_eq_false_iff,Option.isNone_iff_eq_none,AA]
 |some k=>
  grind [C7,AA,Option.getD,Option.isSome,Option.isSome_iff_ne_none,B3]
theorem Em{α:Type}[Inhabited α]{l:List α}{f:α->K1}{p:α->Bool}(h:∀x∈l,f x=some (p x)):
  ((ff (j4 (ρ:=Int) (fun(o:Int)(_:Unit)=>(idx l o).bind fun d=>(f d).bind fun j=>if j=true then some (.ret o)else some (.next ())) 0 (l.length:Int) ()) (fun _=>some (-1)) (fun q=>some q)).bind fun u=>some (decide (0<=u)))=some (l.any p):=by
 rw [TT h,bs,Vp]
end Go.Sf
namespace Go.Sf.Sc
open Go Go.Sf
instance:Inhabited kl:=⟨⟨⟨#[]⟩,0,0,[]⟩⟩
instance:Inhabited B0:=⟨⟨⟨#[]⟩,0,false,[]⟩⟩
instance:Inhabited B9:=⟨⟨⟨#[]⟩,0,0,0,0,0,0⟩⟩
instance:Inhabited Bj:=⟨⟨0,0,0⟩⟩
instance:Inhabited CT:=⟨⟨0,0,⟨0,0⟩⟩⟩
instance:Inhabited Test:=⟨⟨0,⟨0,0⟩,⟨0,0⟩⟩⟩
instance:Inhabited d7:=⟨⟨0,[],⟨[],[]⟩,⟨⟨[],[]⟩,[],0,[]⟩⟩⟩
variable{l:Fp}
theorem Rk{f:Int->K1}{p:Int->Bool}(h:∀x∈l,f x=some (p x)):Al l f=some (l.any p):=Em h
theorem ZG{l:List Bj}{f:Bj->K1}{p:Bj->Bool}(h:∀x∈l,f x=some (p x)):BL l f=some (l.any p):=Em h
theorem XF{l:List d7}{f:d7->K1}{p:d7->Bool}(h:∀x∈l,f x=some (p x)):Bh l f=some (l.any p):=Em h
theorem Yk{l:List B0}{p:B0->Bool}:B5 l (fun x=>some (p x))=some (l.any p):=Em (fun _ _=>rfl)
theorem Yj{l:List B9}{p:B9->Bool}:B4 l (fun x=>some (p x))=some (l.any p):=Em (fun _ _=>rfl)
theorem jw{l:List kl}{p:kl->Bool}:CP l (fun x=>some (p x))=some (l.any p):=Em (fun _ _=>rfl)
theorem XG{p:Int->Bool}:Al l (fun x=>some (p x))=some (l.any p):=Em (fun _ _=>rfl)
theorem ZH{l:List Bj}{p:Bj->Bool}:BL l (fun x=>some (p x))=some (l.any p):=Em (fun _ _=>rfl)
theorem ZI{l:List CT}{p:CT->Bool}:CC l (fun x=>some (p x))=some (l.any p):=Em (fun _ _=>rfl)
theorem nA(l:Fp)(v:Int):slices_Index_int l v=some ((fst (fun i=>if decide (v=AA l i)=true then some i else none) 0 l.length).getD (-1)):=by
 have:=TT (l:=l) (f:=fun x=>some (decide (v=x))) (p:=fun x=>decide (v=x)) (fun _ _=>rfl);unfold slices_Index_int
 grind
theorem Kf(l:Fp)(v:Int):slices_Contains_int l v=some (l.any fun x=>decide (v=x)):=by grind[slices_Contains_int,nA,Vp]
theorem jy(l:a6)(v:Bool):E6 l v=some (l.any fun x=>v==x):=by
 have:=Em (l:=l) (f:=fun x=>some (v==x)) (p:=fun x=>v==x) (fun _ _=>rfl);unfold E6 ID
 grind
structure TH(a:kl):Prop where
 name:(a.o4.size:Int)<=40
 names:a.up.length<=25
 each:∀x∈a.up,(x.size:Int)<=40
structure Ap(t:AC):Prop where
 ei:t.d3.length<=20
 em:t.d4.length<=30
 name:∀n∈t.d3,(n.o4.size:Int)<=40
 AbY:∀n∈t.d3,n.tn.length<=30
 each:∀n∈t.d3,∀a∈n.tn,TH a
 ename:∀e∈t.d4,(e.o4.size:Int)<=40
def par(t:AC)(i:Int):Int:=(AA t.d3 i).Aad
def Ew(t:AC)(k:Int):Prop:=∀i,0<=i->i<k->-1<=par t i/\par t i<i
def By(t:AC):Nat->Int->List kl
 |0,_=>[]|n+1,a=>if a<0 then[]else By t n (par t a)++(AA t.d3 a).tn
def Ax(t:AC)(a:Int):List kl:=By t (a+1).toNat a
variable{t:AC}{a:Int}
theorem Is{n:Nat}(h:a<0):By t n a=[]:=by
 cases n with
 |zero=>rfl|succ n=>rw[By,ae h]
variable{k:Int}
theorem LV(d:Ew t k):∀(n m:Nat)(a:Int),a<k->a<n->a<m->By t n a=By t m a
 |n,m,a,h,j,o=>by
  by_cases f:a<0
  .grind[Is]
  .cases n with
   |zero=>omega|succ n=>
    cases m with
    |zero=>omega|succ m=>
     rw [By,By,az f,az f];have:=d a (by omega) h;rw[LV d n m (par t a) (by omega) (by omega) (by omega)]
theorem Lt(hf:Ap t)(f:k<=t.d3.length)(d:Ew t k):∀(n:Nat)(a:Int),a<k->((By t n a).length:Int)<=30*n
 |0,_,_=>by simp[By]|n+1,a,h=>by
  rw [By];split
  .simp;omega
  .rename_i j;have o:=d a (by omega) h;have q:=Lt hf f d n (par t a) (by omega);have u:=hf.AbY _ (AJ (l:=t.d3) (show 0<=a by omega) (by omega))
   grind
theorem T4(hf:Ap t)(h:k<=t.d3.length)(f:Ew t k):∀(n:Nat)(a:Int),a<k->∀x∈By t n a,TH x
 |0,_,_=>by simp[By]|n+1,a,j=>by
  rw [By];split
  .simp
  .rename_i o;have q:=f a (by omega) j;intro x d;rcases List.mem_append.1 d with d|d
   .exact T4 hf h f n (par t a) (by omega) x d
   .exact hf.each _ (AJ (l:=t.d3) (show 0<=a by omega) (by omega)) x d
theorem HQ(hf:Ap t)(d:k<=t.d3.length)(f:Ew t k)(h:a<k):(Ax t a).length<=600:=by
 have:=Lt hf d f (a+1).toNat a h;have:=hf.ei;unfold Ax;omega
theorem Lu(hf:Ap t)(d:k<=t.d3.length)(f:Ew t k)(h:a<k):∀x∈Ax t a,TH x:=T4 hf d f _ a h
theorem Xv(hf:Ap t)(j:k<=t.d3.length)(h:Ew t k):∀(n:Nat)(a:Int),0<=a->a<k->a<n->C0 n t a=some (By t n a)
 |0,_,_,_,_=>by omega|n+1,a,q,z,D=>by
  have A:=h a (by omega) z;have u:=Lt hf j h n (par t a) (by omega);have B:=hf.AbY _ (AJ (l:=t.d3) q (by omega));have C:=hf.ei;rw[C0,By,az (by omega),AD q (by omega)];simp only[bs];show((if decide (0<=par t a)=true then(C0 n t (par t a)).bind fun f=>some f else some []).bind _)=_;have e:(if decide (0<=par t a)=true then(C0 n t (par t a)).bind fun f=>some f else some [])=some (By t n (par t a)):=by
   by_cases o:0<=par t a
   .rw[ae (by simpa using o),Xv hf j h n (par t a) o (by omega) (by omega)];rfl
   .rw[az (by simpa using o),Is (by omega)]
  have w:(By t n (par t a)).length+(AA t.d3 a).tn.length<=Ae:=by
   unfold Ae;have:((By t n (par t a)).length:Int)<=30*n:=u;have x:By t n (par t a)=By t 20 (par t a):=by
    by_cases d:par t a<0
    .rw[Is d,Is d]
    .exact LV h n 20 (par t a) (by omega) (by omega) (by omega)
   have y:=Lt hf j h 20 (par t a) (by omega);rw[<-x]at y;omega
  rw [e,bs,Af w];rfl
theorem Zd(hf:Ap t)(d:k<=t.d3.length)(f:Ew t k)(h:0<=a)(j:a<k):JX t a=some (Ax t a):=
 EG (a+1).toNat fun n o=>by
  grind [Xv,Ax,LV]
theorem X6(hf:Ap t)(h:k<=t.d3.length)(f:Ew t k):∀(n:Nat)(a:Int),-1<=a->a<k->a+1<n->Ft n t a=some (By t n a)
 |0,_,_,_,_=>by omega|n+1,a,z,u,A=>by
  rw [Ft,By];by_cases d:a<0
  .grind
  .have w:=f a (by omega) u;have x:=hf.AbY _ (AJ (l:=t.d3) (show 0<=a by omega) (by omega));have y:=hf.ei;rw[az (by simpa using d),az d,AD (by omega) (by omega)];simp only[bs];have j:By t n (par t a)=By t 20 (par t a):=by
    by_cases d:par t a<0
    .rw[Is d,Is d]
    .exact LV f n 20 (par t a) (by omega) (by omega) (by omega)
   have o:=Lt hf h f 20 (par t a) (by omega);rw[<-j]at o;have q:(By t n (par t a)).length+(AA t.d3 a).tn.length<=Ae:=by unfold Ae;omega
   rw [show(AA t.d3 a).Aad=par t a from rfl,X6 hf h f n (par t a) (by omega) (by omega) (by omega),bs,Af (by simp;unfold Ae;omega)];simp only[bs,List.nil_append];rw[Af q];rfl
theorem Zn(hf:Ap t)(d:k<=t.d3.length)(f:Ew t k)(h:0<=a)(j:a<k):NJ t a=some (Ax t a):=
 EG (a+2).toNat fun n o=>by
  grind [X6,Ax,LV]
end Go.Sf.Sc
namespace Go.Sf.Sc
open Go Go.Sf
def Jx(l:List ByteArray):Int:=
 if (20:Int)<l.length then 3 else(fst (fun i=>if Ee (AA l i)=false then some 2 else if ne (fun j=>AA l j==AA l i) 0 i=true then some 5 else none) 0 l.length).getD 0
variable{b:Int}
theorem XK{l:List ByteArray}{x:ByteArray}(d:0<=b)(f:b<=l.length):(l.take b.toNat).contains x=ne (fun j=>AA l j==x) 0 b:=by
 rw [List.contains_eq_any_beq,Oh d f]
 grind
theorem kh{l:List ByteArray}(o:∀x∈l,(x.size:Int)<=40):Gg l=some (Jx l):=by
 unfold Gg Jx;by_cases d:(20:Int)<l.length
 .grind
 .rw[az (by simpa using d),az d];rw[BV (fun i=>if Ee (AA l i)=false then some 2 else if ne (fun j=>AA l j==AA l i) 0 i=true then some 5 else none),CS];intro i f h _;have q:=o _ (AJ f h);rw[AD f h,bs,Ox (by omega),bs,LQ f (by omega)];simp only[bs,N9,XK f (show i<=l.length by omega)];cases Ee (AA l i)<;>cases ne (fun j=>AA l j==AA l i) 0 i<;>rfl
theorem lF{l:List ByteArray}(o:∀x∈l,(x.size:Int)<=40):Kq l=some (Jx l):=by
 unfold Kq Jx;by_cases d:(20:Int)<l.length
 .grind
 .rw[az (by simpa using d),az d];rw[BV (fun i=>if Ee (AA l i)=false then some 2 else if ne (fun j=>AA l j==AA l i) 0 i=true then some 5 else none),CS];intro i f h _;have q:=o _ (AJ f h);rw[AD f h,bs,Oy (by omega),bs,BJ (fun j=>AA l j==AA l i) 5]
  .cases Ee (AA l i)<;>cases ne (fun j=>AA l j==AA l i) 0 i<;>rfl
  grind [AD]
def M8(all:List kl)(k:Int):Int:=
 let x:=AA all k
 if Ee x.o4=false then 2 else if ne (fun j=>(AA all j).o4==x.o4) 0 k=true then 5 else
 if x.up.length=0 then(if -1000000<=x.Low/\x.Low<=x.AaD/\x.AaD<=1000000 then 0 else 6)else
 if Jx x.up≠0 then Jx x.up else if x.Low=0/\x.AaD=x.up.length-1 then 0 else 6
variable{k:Int}
theorem Yx{d:List kl}(q:∀x∈d,TH x)(o:0<=k)(u:k<d.length):D9 (AA d k) (d.take k.toNat)=some (M8 d k):=by
 have j:=q _ (AJ o u);have A:=j.name;unfold D9 M8;dsimp only;rw[Ox (by omega),bs,show(fun f=>IE f (AA d k))=(fun f=>some (f.o4==(AA d k).o4))from rfl,jw,bs,Oh o (by omega),kh j.each,bs];have w:=j.names;have y:Ad ((AA d k).up.length-1)=(AA d k).up.length-1:=Am (by omega) (by omega);rw[y];have z:(AA d k).up.length=0->Jx (AA d k).up=0:=fun h=>by rw[List.eq_nil_of_length_eq_zero h];rfl
 generalize Jx (AA d k).up=e at z|-;simp only[bs,zzX,Bool.or_eq_true,tg,Bool.not_eq_true',decide_eq_false_iff_not,Bool.not_eq_false',Bool.or_eq_false_iff,Bool.and_eq_false_iff,ne_eq]
 repeat' (first|rfl|(exfalso;omega;done)|split)
 all_goals (first|rfl|(exfalso;omega)|omega|simp_all|(simp_all;omega))
theorem Yz{x:kl}(d:TH x):Hg x=some (
 if x.up.length=0 then(if -1000000<=x.Low/\x.Low<=x.AaD/\x.AaD<=1000000 then 0 else 6)else
 if Jx x.up≠0 then Jx x.up else if x.Low=0/\x.AaD=x.up.length-1 then 0 else 6):=by
 have f:=d.names;have h:Ad (x.up.length-1)=x.up.length-1:=Am (by omega) (by omega);unfold Hg DM;simp only[bs,h,lF d.each];generalize Jx x.up=e;simp only[bs,zzX,Bool.or_eq_true,tg,Bool.not_eq_true',decide_eq_false_iff_not,Bool.not_eq_false',Bool.or_eq_false_iff,Bool.and_eq_false_iff,ne_eq]
 repeat' (first|rfl|(exfalso;omega;done)|split)
 all_goals (first|rfl|(exfalso;omega)|omega|simp_all|(simp_all;omega))
def IC(t:AC)(i:Int):Int:=
 let n:=AA t.d3 i
 if Ee n.o4=false then 2 else if ne (fun j=>(AA t.d3 j).o4==n.o4) 0 i=true then 5 else
 if n.Aad< -1\/i<=n.Aad then 6 else if 4<n.tn.length\/8<(Ax t i).length then 3 else
 (fst (fun k=>nz (M8 (Ax t i) k)) ((Ax t i).length-n.tn.length) (Ax t i).length).getD 0
variable{t:AC}{i:Int}
theorem T7(d:0<=i):(AA t.d3 i).tn.length<=(Ax t i).length:=by
 unfold Ax;rw[show(i+1).toNat=i.toNat+1 by omega,By,az (by omega),cE];omega
theorem Ew.next(h:Ew t i)(f:-1<=par t i)(o:par t i<i):Ew t (i+1):=by
 intro j d q;by_cases u:j=i
 .grind
 .exact h j d (by omega)
theorem nj(hf:Ap t)(f:0<=i)(w:i<t.d3.length)(A:Ew t i):Hs t i=some (IC t i):=by
 have C:=hf.name _ (AJ f w);unfold Hs IC;dsimp only;rw[AD f w,bs,Ox (by omega),bs,LQ f (by omega),bs,show(fun q=>Mf q (AA t.d3 i))=(fun q=>some (q.o4==(AA t.d3 i).o4))from rfl,Yk,bs,Oh f (by omega)];cases Ee (AA t.d3 i).o4
 .rfl
 .cases ne (fun j=>(AA t.d3 j).o4==(AA t.d3 i).o4) 0 i
  .by_cases h:(AA t.d3 i).Aad< -1\/i<=(AA t.d3 i).Aad
   .rcases h with h|h<;>simp[h]
   .have d:Ew t (i+1):=A.next (by unfold par;omega) (by unfold par;omega)
    have u:(decide ((AA t.d3 i).Aad< -1)||decide (i<=(AA t.d3 i).Aad))=false:=by
     rw [Bool.eq_false_iff];simpa using h
    rw [Zd hf (k:=i+1) (by omega) d f (by omega),bs];have y:=HQ hf (k:=i+1) (a:=i) (by omega) d (by omega);have z:=T7 (t:=t) f;have o:=Lu hf (k:=i+1) (a:=i) (by omega) d (by omega);rw[Am (by omega) (by omega),BV (fun k=>nz (M8 (Ax t i) k)),CS]
    .simp only[u,h,Bool.not_true,Bool.false_eq_true,if_false];simp only[bs,zzX,Bool.or_eq_true,tg,Bool.not_eq_true',decide_eq_false_iff_not,Bool.not_eq_false',Bool.or_eq_false_iff,Bool.and_eq_false_iff,ne_eq]
     repeat' (first|rfl|(exfalso;omega;done)|split)
     all_goals (first|rfl|(exfalso;omega)|omega|simp_all|(simp_all;omega))
    .intro k B x _;rw[AD (by omega) x,bs,LQ (by omega) (by omega),bs,Yx o (by omega) x,bs,Kj]
  .rfl
theorem oJ(hf:Ap t)(h:0<=i)(q:i<t.d3.length)(A:Ew t i):ML t i=some (IC t i):=by
 have E:=hf.name _ (AJ h q);have F:=hf.ei;unfold ML IC DM;dsimp only;rw[AD h q,bs,Oy (by omega),bs,BJ (fun j=>(AA t.d3 j).o4==(AA t.d3 i).o4) 5]
 .cases Ee (AA t.d3 i).o4
  .rfl
  .cases ne (fun j=>(AA t.d3 j).o4==(AA t.d3 i).o4) 0 i
   .simp only[Bool.not_true,Bool.false_eq_true,if_false,BT,bs];rw[Am (by omega) (by omega)];by_cases w:(AA t.d3 i).Aad< -1\/i<=(AA t.d3 i).Aad
    .rw[ae,az (by decide),ae w];simp;omega
    .have d:Ew t (i+1):=A.next (by unfold par;omega) (by unfold par;omega)
     rw [az (by simp;omega),az (by decide),az w];rw[Zn hf (k:=i+1) (by omega) d h (by omega),bs];have x:=HQ hf (k:=i+1) (a:=i) (by omega) d (by omega);have y:=T7 (t:=t) h;have f:=Lu hf (k:=i+1) (a:=i) (by omega) d (by omega);rw[Am (by omega) (by omega)];rw[BV (fun k=>nz (M8 (Ax t i) k)),CS]
     .simp only[bs,zzX,Bool.or_eq_true,tg,Bool.not_eq_true',decide_eq_false_iff_not,Bool.not_eq_false',Bool.or_eq_false_iff,Bool.and_eq_false_iff,ne_eq]
      repeat' (first|rfl|(exfalso;omega;done)|split)
      all_goals (first|rfl|(exfalso;omega)|omega|simp_all|(simp_all;omega))
     .intro k u o _;have z:=f _ (AJ (show 0<=k by omega) o);have C:=z.name;simp only[AD (show 0<=k by omega) o,bs];rw[Oy (by omega),bs,BJ (fun j=>(AA (Ax t i) j).o4==(AA (Ax t i) k).o4) 5]
      .rw[Yz z];simp only[bs,Kj];unfold M8;dsimp only;cases Ee (AA (Ax t i) k).o4
       .rfl
       .cases ne (fun j=>(AA (Ax t i) j).o4==(AA (Ax t i) k).o4) 0 k<;>rfl
      .intro j B D _;rw[AD B (by omega),bs];split<;>rfl
   .rfl
 .intro j u o _;rw[AD u (by omega),bs];split<;>rfl
def Lv(low high:Int):Bool:=((decide (0<=low))&&(decide (low<=40)))&&((decide (high=(-1)))||((decide (low<=high))&&(decide (high<=40))))
theorem kz(low high:Int):JM low high=some (Lv low high):=by
 unfold JM Lv DM
 grind
def KF(t:AC)(i:Int):Int:=
 let x:=AA t.d4 i
 if Ee x.o4=false then 2 else if ne (fun j=>(AA t.d4 j).o4==x.o4) 0 i=true then 5 else
 if (0<=x.kq/\x.kq<t.d3.length)/\(0<=x.To/\x.To<t.d3.length)/\Lv x.Abi x.AaX=true/\Lv x.Abz x.Abf=true then 0 else 6
theorem nY(hf:Ap t)(d:0<=i)(h:i<t.d4.length):Hr t i=some (KF t i):=by
 have o:=hf.ename _ (AJ d h);unfold Hr KF KD;dsimp only;rw[AD d h,bs,Ox (by omega),bs,LQ d (by omega),bs,show(fun f=>Me f (AA t.d4 i))=(fun f=>some (f.o4==(AA t.d4 i).o4))from rfl,Yj,bs,Oh d (by omega)];simp[show∀a b,JI a b=some (Lv a b)from fun _ _=>rfl];generalize Ee (AA t.d4 i).o4=b1;generalize ne (fun j=>(AA t.d4 j).o4==(AA t.d4 i).o4) 0 i=b2;generalize Lv (AA t.d4 i).Abi (AA t.d4 i).AaX=b3;generalize Lv (AA t.d4 i).Abz (AA t.d4 i).Abf=b4;cases b1
 .rfl
 grind
theorem oB(hf:Ap t)(o:0<=i)(q:i<t.d4.length):MK t i=some (KF t i):=by
 have w:=hf.ename _ (AJ o q);have x:=hf.ei;unfold MK KF DM;dsimp only;rw[AD o q,bs,Oy (by omega),bs,BJ (fun j=>(AA t.d4 j).o4==(AA t.d4 i).o4) 5]
 .simp only[Am (show -9223372036854775808<=(t.d3.length:Int)-1 by omega) (by omega),kz,bs];generalize Ee (AA t.d4 i).o4=b1;generalize ne (fun j=>(AA t.d4 j).o4==(AA t.d4 i).o4) 0 i=b2;generalize Lv (AA t.d4 i).Abi (AA t.d4 i).AaX=b3;generalize Lv (AA t.d4 i).Abz (AA t.d4 i).Abf=b4;cases b1
  .rfl
  .cases b2
   .cases b3<;>cases b4
    all_goals
     by_cases f:0<=(AA t.d4 i).kq/\(AA t.d4 i).kq<t.d3.length
     .have d:(AA t.d4 i).kq<=(t.d3.length:Int)-1:=by omega
      by_cases u:0<=(AA t.d4 i).To/\(AA t.d4 i).To<t.d3.length
      .have h:(AA t.d4 i).To<=(t.d3.length:Int)-1:=by omega
       simp [f,u,d,h,BT]
      .have:(decide (0<=(AA t.d4 i).To)&&decide ((AA t.d4 i).To<=(t.d3.length:Int)-1))=false:=by rw[Bool.eq_false_iff];simp;omega
       simp [f,u,d,this,BT]
     .have:(decide (0<=(AA t.d4 i).kq)&&decide ((AA t.d4 i).kq<=(t.d3.length:Int)-1))=false:=by rw[Bool.eq_false_iff];simp;omega
      simp [f,this,BT]
   .rfl
 grind [AD]
def Au(t:AC):ByteArray×Int:=
 if t.d3.length=0 then(⟨#[]⟩,7)else if 12<t.d3.length\/20<t.d4.length then(⟨#[]⟩,3)else
 match fst (fun i=>(nz (IC t i)).map fun e=>((AA t.d3 i).o4,e)) 0 t.d3.length with
 |some r=>r|none=>(fst (fun i=>(nz (KF t i)).map fun e=>((AA t.d4 i).o4,e)) 0 t.d4.length).getD (⟨#[]⟩,0)
theorem cf(h:IC t i=0):-1<=par t i/\par t i<i:=by grind[IC,par,AA]
theorem Mu{α β:Type}{o:Option α}{g:α->β}:o.map g=none↔o=none:=by cases o<;>simp
theorem TZ(h:∀j,0<=j->j<i->IC t j=0):Ew t i:=fun j d f=>cf (h j d f)
theorem Sk{ρ:Type}(e:Int)(n:ByteArray):(if(!decide (e=0))=true then some (Bk.ret (n,e))else some (Bk.next ()))=some (Pb ((nz e).map fun e=>(n,e))):=by grind[nz,Pb]
theorem Ld(hf:Ap t):C2 t=some (Au t):=by
 unfold C2 Au;rw[BV (fun i=>(nz (IC t i)).map fun e=>((AA t.d3 i).o4,e)),Dk]
 .rw[BV (fun i=>(nz (KF t i)).map fun e=>((AA t.d4 i).o4,e)),Dk]
  .cases fst (fun i=>(nz (IC t i)).map fun e=>((AA t.d3 i).o4,e)) 0 t.d3.length<;>cases fst (fun i=>(nz (KF t i)).map fun e=>((AA t.d4 i).o4,e)) 0 t.d4.length
   all_goals dsimp only
   all_goals try simp only[Option.getD]
   all_goals
    simp only[bs,zzX,Bool.or_eq_true,tg,Bool.not_eq_true',decide_eq_false_iff_not,Bool.not_eq_false',Bool.or_eq_false_iff,Bool.and_eq_false_iff,ne_eq]
    repeat' (first|rfl|(exfalso;omega;done)|split)
    all_goals (first|rfl|(exfalso;omega)|omega|simp_all|(simp_all;omega))
  .intro i d f _;rw[AD d f,bs,nY hf d f,bs];exact Sk (ρ:=Unit) _ _
 .intro i d f q;have u:Ew t i:=TZ fun j h o=>OZ.1 (Mu.1 (q j h o));rw[AD d f,bs,nj hf d f u,bs];exact Sk (ρ:=Unit) _ _
theorem Ob(hf:Ap t):Eo t=some (Au t):=by
 unfold Eo Au;rw[BV (fun i=>(nz (IC t i)).map fun e=>((AA t.d3 i).o4,e)),Dk]
 .rw[BV (fun i=>(nz (KF t i)).map fun e=>((AA t.d4 i).o4,e)),Dk]
  .cases fst (fun i=>(nz (IC t i)).map fun e=>((AA t.d3 i).o4,e)) 0 t.d3.length<;>cases fst (fun i=>(nz (KF t i)).map fun e=>((AA t.d4 i).o4,e)) 0 t.d4.length
   all_goals dsimp only
   all_goals try simp only[Option.getD]
   all_goals
    simp only[bs,zzX,Bool.or_eq_true,tg,Bool.not_eq_true',decide_eq_false_iff_not,Bool.not_eq_false',Bool.or_eq_false_iff,Bool.and_eq_false_iff,ne_eq]
    repeat' (first|rfl|(exfalso;omega;done)|split)
    all_goals (first|rfl|(exfalso;omega)|omega|simp_all|(simp_all;omega))
  .intro i d f _;simp only[oB hf d f,AD d f,bs];exact Sk (ρ:=Unit) _ _
 .intro i d f q;have u:Ew t i:=TZ fun j h o=>OZ.1 (Mu.1 (q j h o));simp only[oJ hf d f u,AD d f,bs];exact Sk (ρ:=Unit) _ _
end Go.Sf.Sc
namespace Go.Sf.Sc
open Go Go.Sf
theorem Hw{α:Type}{c:Bool}{a b:α}:(if c=true then some a else some b)=some (if c=true then a else b):=by cases c<;>rfl
def NA(n:Int):Bool:=(decide (0<=n))&&(decide (n<=99))
def Ru(e:Bj)(n:Int):Bool:=NA e.kp&&(decide (0<=e.kq)&&decide (e.kq<n))&&(decide (0<=e.To)&&decide (e.To<n))
def Bt(g:d5):Int:=
 if 40<g.d3.length\/80<g.d4.length then 3 else if(g.d3.any fun n=>!NA n)=true then 6 else if(g.d4.any fun e=>!Ru e g.d3.length)=true then 6 else 0
structure Do(g:d5):Prop where
 ei:g.d3.length<=40
 em:g.d4.length<=80
 kind:∀n∈g.d3,0<=n/\n<=99
 fit:∀e∈g.d4,(0<=e.kp/\e.kp<=99)/\(0<=e.kq/\e.kq<g.d3.length)/\(0<=e.To/\e.To<g.d3.length)
variable{g:d5}
theorem DF(h:Bt g=0):Do g:=by
 unfold Bt at h;split at h
 .cases h
 .split at h
  .cases h
  .split at h
   .cases h
   .rename_i o f d;refine⟨by omega,by omega,fun n j=>?_,fun e he=>?_⟩
    .rw[Bool.not_eq_true,List.any_eq_false]at f
     grind [NA]
    .rw[Bool.not_eq_true,List.any_eq_false]at d;have:=d e he;simp[Ru,NA,Bool.not_eq_true',zzX]at this;omega
theorem nc{e:Bj}{n:Nat}(h:n<=40):L8 e n=some (Ru e n):=by
 unfold L8 Gp Ru NA;simp only[bs,Am (show -9223372036854775808<=(n:Int)-1 by omega) (by omega)];have d:decide (e.kq<=(n:Int)-1)=decide (e.kq<n):=by rw[decide_eq_decide];omega
 have f:decide (e.To<=(n:Int)-1)=decide (e.To<n):=by rw[decide_eq_decide];omega
 rw [d,f];generalize (decide (0<=e.kp)&&decide (e.kp<=99))=b1;generalize (decide (0<=e.kq)&&decide (e.kq<n))=b2;cases b1<;>cases b2<;>simp
theorem Lc(g:d5):CU g=some (Bt g):=by
 unfold CU Bt;by_cases h:40<g.d3.length\/80<g.d4.length
 .grind
 .rw[az (by simp;omega),az h,show K7=(fun n=>some (!NA n))from rfl,XG,ZG (p:=fun e=>!Ru e g.d3.length) (fun e _=>by
   grind [K8,nc])]
  grind
theorem Lf(g:d5):Dm g=some (Bt g):=by
 unfold Dm Bt;by_cases h:40<g.d3.length\/80<g.d4.length
 .grind
 .rw[az (by simp;omega),az h,HP,HP,BJ (fun i=>!NA (AA g.d3 i)) 6]
  .rw[BJ (fun i=>!Ru (AA g.d4 i) g.d3.length) 6]
   .cases ne (fun i=>!NA (AA g.d3 i)) 0 g.d3.length
    .cases ne (fun i=>!Ru (AA g.d4 i) g.d3.length) 0 g.d4.length<;>rfl
    .rfl
   .intro i d f _;rw[AD d f,bs];unfold NM Ru;simp[show∀n,KM n=some (NA n)from fun _=>rfl]
    grind
  grind [AD,KM,AA,NA]
def Ci(t:AC)(g:d5):Bool:=!(g.d3.any fun n=>decide (t.d3.length<=n))&&!(g.d4.any fun e=>decide (t.d4.length<=e.kp))
variable{t:AC}
theorem H6(d:Do g)(h:Ci t g=true):(∀n∈g.d3,0<=n/\n<t.d3.length)/\∀e∈g.d4,0<=e.kp/\e.kp<t.d4.length:=by
 unfold Ci at h;simp[Bool.not_eq_true',zzX]at h;refine⟨fun n f=>?_,fun e he=>?_⟩
 .have:=h.1 n f;have:=d.kind n f;omega
 .have:=h.2 e he;have:=d.fit e he;omega
theorem ko(t:AC)(g:d5):Hn t g=some (Ci t g):=by grind[Hn,Ci,MY,XG,MZ,Bj,ZH]
theorem VO(h:Do g):Gb t g=some (Ci t g):=by
 unfold Gb Ci;rw[HP,HP,BJ (fun i=>decide (t.d3.length<=AA g.d3 i)) false]
 .rw[BJ (fun i=>decide (t.d4.length<=(AA g.d4 i).kp)) false]
  .cases ne (fun i=>decide (t.d3.length<=AA g.d3 i)) 0 g.d3.length
   .cases ne (fun i=>decide (t.d4.length<=(AA g.d4 i).kp)) 0 g.d4.length<;>rfl
   .rfl
  .intro i d f _;have:=(h.fit _ (AJ d f)).1.1;simp[AD d f]
   grind
 .intro i d f _;have:=(h.kind _ (AJ d f)).1;simp[AD d f]
  grind
structure F1(t:AC):Prop where
 ei:t.d3.length<=12
 em:t.d4.length<=20
 node:∀i:Int,0<=i->i<t.d3.length->IC t i=0
 edge:∀i:Int,0<=i->i<t.d4.length->KF t i=0
theorem Cz(h:(Au t).2=0):F1 t:=by
 unfold Au at h;split at h
 .cases h
 .split at h
  .cases h
  .rename_i u w;have f:∀i:Int,0<=i->i<t.d3.length->IC t i=0:=by
    grind [C7,nz,OZ,Mu,B3]
   have he:∀i:Int,0<=i->i<t.d4.length->KF t i=0:=by
    split at h
    .rename_i r d;obtain⟨i,o,q,j,_⟩:=C7 d;rw[f i o q]at j;cases j
    .cases d:fst (fun i=>(nz (KF t i)).map fun e=>((AA t.d4 i).o4,e)) 0 t.d4.length with
     |some r=>
      grind [C7,nz]
     |none=>
      grind [OZ,Mu,B3]
   exact ⟨by omega,by omega,f,he⟩
theorem F1.par(h:F1 t):Ew t t.d3.length:=TZ h.node
variable{i:Int}
theorem F1.ends(h:F1 t)(d:0<=i)(f:i<t.d4.length):(0<=(AA t.d4 i).kq/\(AA t.d4 i).kq<t.d3.length)/\(0<=(AA t.d4 i).To/\(AA t.d4 i).To<t.d3.length):=by
 have:=h.edge i d f
 grind [KF]
def Jc(t:AC)(a:Int):Bool:=decide (0<=a)&&decide (a<t.d3.length)
variable{a:Int}
theorem LZ:Jc t a=true↔0<=a/\a<t.d3.length:=by unfold Jc;simp
theorem VK(hf:Ap t)(l:Fp):Et t l=some (if(Au t).2≠0 then(Au t).2 else if(l.all (Jc t))=true then 0 else 6):=by
 unfold Et;rw[Ld hf,bs,Rk (p:=fun a=>!Jc t a) (fun a _=>by unfold LG Jc;rw[show decide (a<0)=!decide (0<=a)from by rw[<-decide_not,decide_eq_decide];omega,show decide ((t.d3.length:Int)<=a)=!decide (a<t.d3.length)from by rw[<-decide_not,decide_eq_decide];omega,Bool.not_and]),bs]
 grind
theorem Zp(hf:Ap t)(a b:Int):JN t a b=some (if(Au t).2≠0 then(Au t).2 else if(Jc t a&&Jc t b)=true then 0 else 6):=by
 have d:=hf.ei;have e:∀a,decide (a<=(t.d3.length:Int)-1)=decide (a<(t.d3.length:Int)):=fun a=>by rw[decide_eq_decide];omega
 unfold JN DM;rw[Ob hf,bs]
 grind [Am,Au,Jc]
theorem dn{α:Type}[Inhabited α]{l:List α}(d:0<=i)(f:i<l.length):BC l i (AA l i)=l:=by grind[BC,AA,List.getElem?_eq_getElem,List.set_getElem_self]
theorem CQ{α:Type}[Inhabited α]{l:List α}(d:0<=i)(f:i<l.length):l.take (i+1).toNat=l.take i.toNat++[AA l i]:=by
 unfold AA;rw[show(i+1).toNat=i.toNat+1 by omega,List.take_add_one,List.getD_eq_getElem?_getD,List.getElem?_eq_getElem (by omega)];rfl
theorem BY{α:Type}{l:List α}(h:l.length<=Ae):Ah [] l=some l:=by grind[Af]
def GD(t:AC)(a:Int):List kl×Int:=if(Au t).2≠0 then([],(Au t).2)else if Jc t a=true then(Ax t a,0)else([],6)
theorem P5(hf:Ap t)(a:Int):Dn t a=some (GD t a):=by
 unfold Dn GD;rw[VK hf,bs];by_cases h:(Au t).2=0
 .have j:=Cz h;have e:[a].all (Jc t)=Jc t a:=by simp
  rw [e];simp[h];cases hi:Jc t a
  .rfl
  .rw[ae rfl,ae rfl];have o:=LZ.1 hi;have D:=HQ hf (Int.le_refl _) j.par o.2;have B:=Lu hf (Int.le_refl _) j.par o.2;rw[az (by decide),Zd hf (Int.le_refl _) j.par o.1 o.2,bs];obtain⟨s',C,rfl⟩:=Qv (f:=(fun(q:Int)(u:List kl)=>
 (idx u q).bind fun w=>
 (slices_Clone_string w.up).bind fun x=>
 (idx u q).bind fun d=>
 some (BC u q (kl.mk d.o4 d.Low d.AaD x)))) (fun _ s=>s=Ax t a) (a:=0) (b:=(Ax t a).length) (s:=Ax t a) (by omega) rfl (fun i s y z A=>by
     subst A;have:=(B _ (AJ y z)).names;refine⟨Ax t a,?_,rfl⟩;unfold slices_Clone_string;rw[AD y z,bs,BY (by unfold Ae;omega),bs,bs];congr 1;exact dn y z)
   rw [C];rfl
 .simp[h,not_false_eq_true,decide_false]
theorem P7(hf:Ap t)(a:Int):Fd t a=some (GD t a):=by
 unfold Fd GD;rw[Zp hf,bs];by_cases h:(Au t).2=0
 .have d:=Cz h;rw[Bool.and_self];simp only[h,ne_eq,not_true_eq_false,if_false];cases hi:Jc t a
  .rfl
  .rw[ae rfl,ae rfl];have f:=LZ.1 hi;have u:=HQ hf (Int.le_refl _) d.par f.2;have q:=Lu hf (Int.le_refl _) d.par f.2;rw[az (by decide),Zn hf (Int.le_refl _) d.par f.1 f.2,bs];rw[Bo (fun i=>(Ax t a).take i.toNat) (by omega) (by simp)]
   .rw[bs,Int.toNat_natCast,List.take_length]
   .intro i j o;have:=(q _ (AJ j o)).names;rw[AD j o,bs,BY (by unfold Ae;omega),bs,Af (by rw[c7];simp;unfold Ae;omega),CQ j o];rfl
 grind
end Go.Sf.Sc
namespace Go.Sf.Sc
open Go Go.Sf
def O4(t:AC):Nat->Int->Fp
 |0,_=>[]|n+1,a=>if a<0 then[]else a::O4 t n (par t a)
theorem Z5(t:AC):∀(n:Nat)(a:Int),(O4 t n a).length<=n
 |0,_=>by simp[O4]|n+1,a=>by
  rw [O4];split
  .simp
  .have:=Z5 t n (par t a);simp;omega
def If(t:AC)(a b:Int):Bool:=(O4 t (a+1).toNat a).any fun x=>decide (b=x)
variable{t:AC}
theorem ZV(f:t.d3.length<=12)(q:Ew t t.d3.length):∀(n:Nat)(a:Int)(l:Fp),a<t.d3.length->a<n->l.length+n<=1000 ->
  ∃x,LK (ρ:=Fp) (fun(d:Int×Fp)=>
 if (decide (0<=d.1))=true then
 (Ah d.2 [d.1]).bind fun h=>
 (idx t.d3 d.1).bind fun j=>
 some (.next (j.Aad,h))
 else
 some (.brk (d.1,d.2))) (a,l) (.inl (x,l++O4 t n a))
 |0,a,l,o,u,_=>by
  refine ⟨a,.brk ?_⟩
  grind [O4]
 |n+1,a,l,o,u,A=>by
  by_cases w:a<0
  .refine⟨a,.brk ?_⟩
   grind [O4]
  .have y:=q a (by omega) o;obtain⟨x,z⟩:=ZV f q n (par t a) (l++[a]) (by omega) (by omega) (by simp;omega);refine⟨x,.next (s':=(par t a,l++[a])) ?_ ?_⟩
   .rw[ae (by simp;omega),Af (by simp;unfold Ae;omega),bs,AD (by omega) o];rfl
   grind [O4,par]
variable{a b:Int}
theorem fl(h:F1 t)(o:0<=a)(d:a<t.d3.length):H7 t a b=some (If t a b):=by
 have f:=h.ei;obtain⟨x,j⟩:=ZV f h.par (a+1).toNat a [] d (by omega) (by simp;omega);have q:=Z5 t (a+1).toNat a;unfold H7 I4;rw[j.eq,BT]
 grind [slices_Reverse_int,Ae,Kf,If]
theorem X8(d:Ew t t.d3.length)(j:0<=b):∀(n m:Nat)(a:Int),-1<=a->a<t.d3.length->a+1<n->a<m->FE n t a b=some ((O4 t m a).any fun x=>decide (b=x))
 |0,_,_,_,_,_,_=>by omega|n+1,m,a,q,h,u,w=>by
  rw [FE];by_cases f:a<0
  .rw[az (by simp;omega),az (by simp;omega)];cases m<;>simp[O4,f]
  .cases m with
   |zero=>omega|succ m=>
    have o:=d a (by omega) h;rw[O4,az f,List.any_cons,ae (show decide (0<=a)=true by simp;omega),AD (by omega) h];simp;rw[show(AA t.d3 a).Aad=par t a from rfl,X8 d j n m (par t a) (by omega) (by omega) (by omega) (by omega)]
    grind
theorem Su(h:F1 t)(j:0<=a)(d:a<t.d3.length)(f:0<=b):Gq t a b=some (If t a b):=
 EG (a+2).toNat fun n o=>X8 h.par f n (a+1).toNat a (by omega) d (by omega) (by omega)
def Qu(t:AC)(e f g:Int):Bool:=
 decide ((Au t).2=0)&&(Jc t f&&Jc t g)&&(decide (0<=e)&&decide (e<t.d4.length))&&(If t f (AA t.d4 e).kq&&If t g (AA t.d4 e).To)
theorem cq(hf:Ap t)(e f g:Int):GU t e f g=some (Qu t e f g):=by
 unfold GU Qu;rw[VK hf,bs,show[f,g].all (Jc t)=(Jc t f&&Jc t g)by simp];by_cases h:(Au t).2=0
 .simp only[h,ne_eq,not_true_eq_false,if_false];have d:=Cz h;cases hi:(Jc t f&&Jc t g)
  .rfl
  .rw[tg,LZ,LZ]at hi;by_cases he:0<=e/\e<t.d4.length
   .rw[az (by simp;omega),AD he.1 he.2];simp[fl d hi.1.1 hi.1.2,fl d hi.2.1 hi.2.2,he.1,he.2,decide_true]
    grind
   grind
 .simp[h]
theorem dH(hf:Ap t)(e f g:Int):KL t e f g=some (Qu t e f g):=by
 have u:=hf.em;unfold KL Qu DM;rw[Zp hf,bs];by_cases h:(Au t).2=0
 .simp only[h,ne_eq,not_true_eq_false,if_false];have d:=Cz h;cases hi:(Jc t f&&Jc t g)
  .rfl
  .rw[tg,LZ,LZ]at hi;rw[Am (by omega) (by omega)];simp only[bs];by_cases he:0<=e/\e<t.d4.length
   .have j:=d.ends he.1 he.2;have o:e<=(t.d4.length:Int)-1:=by omega
    rw [az (by simp),bs,az (by simp[he.1,o]),AD he.1 he.2];simp[Su d hi.1.1 hi.1.2 j.1.1,Su d hi.2.1 hi.2.2 j.2.1,he.1,he.2,decide_true];cases If t f (AA t.d4 e).kq<;>rfl
   .have:(decide (0<=e)&&decide (e<t.d4.length))=false:=by rw[Bool.eq_false_iff];simpa using he
    have q:(decide (0<=e)&&decide (e<=(t.d4.length:Int)-1))=false:=by rw[Bool.eq_false_iff];simp;omega
    rw [this,q];simp
 .simp[h]
def Mb(n:Int)(x:j0):Bool:=(((decide ((-1)<=x.Var))&&(decide (x.Var<n)))&&(decide ((-1000000)<=x.Add)))&&(decide (x.Add<=1000000))
def NY(n:Int)(x:Test):Int:=if¬x.mo=1/\¬x.mo=2 then 1 else if(Mb n x.kg&&Mb n x.fd)=true then 0 else 6
def JH(n:Int)(l:List Test):Int:=if n<0\/12<n then 6 else if 40<l.length then 3 else(fst (fun i=>nz (NY n (AA l i))) 0 l.length).getD 0
theorem nt(n:Int)(x:Test):IK n x=some (NY n x):=by
 unfold IK NY;simp only[show∀n x,HU n x=some (Mb n x)from fun _ _=>rfl,bs];generalize Mb n x.kg=b1;generalize Mb n x.fd=b2;cases b1<;>cases b2
 all_goals
  simp only[bs,zzX,Bool.or_eq_true,tg,Bool.not_eq_true',decide_eq_false_iff_not,Bool.not_eq_false',Bool.or_eq_false_iff,Bool.and_eq_false_iff,ne_eq]
  repeat' (first|rfl|(exfalso;omega;done)|split)
  all_goals (first|rfl|(exfalso;omega)|omega|simp_all|(simp_all;omega))
theorem gG(n:Int)(x:j0):IQ n x=some (if Mb n x=true then 0 else 6):=by
 unfold IQ Mb;simp only[bs,zzX,Bool.or_eq_true,tg,Bool.not_eq_true',decide_eq_false_iff_not,Bool.not_eq_false',Bool.or_eq_false_iff,Bool.and_eq_false_iff,ne_eq]
 repeat' (first|rfl|(exfalso;omega;done)|split)
 all_goals (first|rfl|(exfalso;omega)|omega|simp_all|(simp_all;omega))
theorem oQ(n:Int)(x:Test):Nq n x=some (NY n x):=by
 unfold Nq NY;simp only[gG,bs];generalize Mb n x.kg=b1;generalize Mb n x.fd=b2;cases b1<;>cases b2
 all_goals
  simp only[bs,zzX,Bool.or_eq_true,tg,Bool.not_eq_true',decide_eq_false_iff_not,Bool.not_eq_false',Bool.or_eq_false_iff,Bool.and_eq_false_iff,ne_eq]
  repeat' (first|rfl|(exfalso;omega;done)|split)
  all_goals (first|rfl|(exfalso;omega)|omega|simp_all|(simp_all;omega))
theorem km(n:Int)(l:List Test):Gn n l=some (JH n l):=by
 unfold Gn JH;rw[BV (fun i=>nz (NY n (AA l i))),CS]
 .simp only[bs,zzX,Bool.or_eq_true,tg,Bool.not_eq_true',decide_eq_false_iff_not,Bool.not_eq_false',Bool.or_eq_false_iff,Bool.and_eq_false_iff,ne_eq]
  repeat' (first|rfl|(exfalso;omega;done)|split)
  all_goals (first|rfl|(exfalso;omega)|omega|simp_all|(simp_all;omega))
 .intro i d f _;rw[AD d f,bs,nt,bs,Kj]
theorem lK(n:Int)(l:List Test):Ko n l=some (JH n l):=by
 unfold Ko JH;rw[BV (fun i=>nz (NY n (AA l i))),CS]
 .simp only[bs,zzX,Bool.or_eq_true,tg,Bool.not_eq_true',decide_eq_false_iff_not,Bool.not_eq_false',Bool.or_eq_false_iff,Bool.and_eq_false_iff,ne_eq]
  repeat' (first|rfl|(exfalso;omega;done)|split)
  all_goals (first|rfl|(exfalso;omega)|omega|simp_all|(simp_all;omega))
 .intro i d f _;rw[AD d f,bs,oQ,bs,Kj]
def QL(t:AC)(p:ec)(node ix:Int):kl×Bool:=
 if node<0\/p.d5.d3.length<=node then(default,false)else
 let l:=(GD t (AA p.d5.d3 node)).1
 if ix<0\/l.length<=ix then(default,false)else(AA l ix,true)
theorem T6(hf:Ap t)(a:Int):(GD t a).1.length<=600/\((GD t a).2≠0->(GD t a).1=[]):=by
 unfold GD;split
 .simp
 .rename_i h;have d:=Cz (t:=t) (by omega);split
  .rename_i hi;exact⟨HQ hf (Int.le_refl _) d.par (LZ.1 hi).2,by simp⟩
  .simp
variable{p:ec}
theorem kX(hf:Ap t)(d:Do p.d5)(s:CT):EY t p s=some (QL t p s.sx s.kl):=by
 have j:=d.ei;unfold EY QL CO;dsimp only;rw[Am (by omega) (by omega),bs];by_cases h:s.sx<0\/p.d5.d3.length<=s.sx
 .rw[ae (by simp;omega),ae h];rfl
 .rw[az (by simp;omega),az h,AD (by omega) (by omega),bs,P5 hf,bs];have o:=(T6 hf (AA p.d5.d3 s.sx)).1;rw[Am (by omega) (by omega),bs];by_cases f:s.kl<0\/(GD t (AA p.d5.d3 s.sx)).1.length<=s.kl
  .rw[ae (by simp;omega),ae f];rfl
  grind [AD]
theorem kw(hf:Ap t)(node d:Int):MQ t p node d=some (QL t p node d):=by
 unfold MQ QL;dsimp only;by_cases h:node<0\/p.d5.d3.length<=node
 .rw[ae (by simp;omega),ae h];rfl
 .rw[az (by simp;omega),az h,AD (by omega) (by omega),bs,P7 hf,bs];have j:=(T6 hf (AA p.d5.d3 node)).2;by_cases f:d<0\/(GD t (AA p.d5.d3 node)).1.length<=d
  .rw[ae (by simp;omega),ae f];rfl
  grind [GD,AA,AD]
end Go.Sf.Sc
namespace Go.Sf
variable{σ ρ:Type}
def dw(s:σ)(o:Option ρ):Bk σ ρ:=match o with
 |none=>.next s|some r=>.ret r
def jU(s:σ)(o:Option ρ):σ ⊕ ρ:=match o with
 |none=>.inl s|some r=>.inr r
theorem XY{f:Int->σ->Option (Bk σ ρ)}(g:Int->σ)(c:Int->Option ρ):∀(n:Nat)(a:Int),
  (∀i,a<=i->i<a+n->(∀j,a<=j->j<i->c j=none)->f i (g i)=some (dw (g (i+1)) (c i)))->Aac f n a (g a)=some (jU (g (a+n)) (Ek c n a))
 |0,a,_=>by simp[Aac,Ek,jU]|n+1,a,h=>by
  have q:=h a (Int.le_refl _) (by omega) (fun j d o=>by omega);rw[EN,q,Ek];cases y:c a with
  |some r=>rfl|none=>
   simp only[dw];rw[show a+((n+1:Nat):Int)=a+1+n by omega];refine XY g c n (a+1) (fun i d o u=>h i (by omega) (by omega) (fun j w x=>?_))
   grind
variable{a b:Int}
theorem KG{f:Int->σ->Option (Bk σ ρ)}(g:Int->σ)(c:Int->Option ρ){s:σ}(d:a<=b)(o:s=g a)(h:∀i,a<=i->i<b->(∀j,a<=j->j<i->c j=none)->f i (g i)=some (dw (g (i+1)) (c i))):j4 f a b s=some (jU (g b) (fst c a b)):=by
 subst o;unfold j4 fst;have:=XY g c (b-a).toNat a (fun i q w u=>h i q (by omega) u)
 grind
variable{α:Type}
variable{e:Int}
theorem DY{X:QQ}{Y:Int}(h:e=0->X=some Y):(if(!decide (e=0))=true then some e else X)=some (if e≠0 then e else Y):=by grind
variable{v:α}{X:Option α}{Y:α}
theorem C8(h:e=0->X=some Y):(if(!decide (e=0))=true then some v else X)=some (if e≠0 then v else Y):=by grind
variable{P:Prop}
theorem Nb[Decidable P]{b:Bool}(d:b=true↔P)(h:¬P->X=some Y):(if b=true then some v else X)=some (if P then v else Y):=by grind
theorem UB{b:Bool}(h:b=true->X=some Y):(if(!b)=true then some v else X)=some (if b=false then v else Y):=by grind
theorem XH{b:Bool}(h:b=false->X=some Y):(if b=true then some v else X)=some (if b=true then v else Y):=by grind
end Go.Sf
namespace Go.Sf.Sc
open Go Go.Sf
def QM(t:AC)(p:ec)(s:CT):Bool:=!(QL t p s.sx s.kl).2||decide (s.j0.Var< -1)||decide (p.hT<=s.j0.Var)||(decide (s.j0.Add< -1000000)||decide (1000000<s.j0.Add))
def Jy(p:ec)(v:Int):Bool:=p.fq.any fun s=>decide (s.j0.Var=v)
def G8(t:AC)(p:ec):Int:=
 if (Au t).2≠0 then(Au t).2 else if Bt p.d5≠0 then Bt p.d5 else if Ci t p.d5=false then 13 else
 if p.hT<0\/12<p.hT then 6 else if 10<p.fq.length\/10<p.pq.length then 3 else
 if (p.fq.any (QM t p))=true then 6 else if JH p.hT p.pq≠0 then JH p.hT p.pq else
 if ne (fun v=>!Jy p v) 0 p.hT=true then 9 else 0
def I5(p:ec)(i:Int):a6:=(List.range p.hT.toNat).map fun(v:Nat)=>(p.fq.take i.toNat).any fun s=>decide (s.j0.Var=(v:Int))
variable{p:ec}
theorem bg:I5 p 0=List.replicate p.hT.toNat false:=by
 unfold I5;refine List.ext_getElem (by simp) (fun n d f=>by simp)
theorem eT(p:ec)(i:Int):(I5 p i).length=p.hT.toNat:=by simp[I5]
variable{i:Int}
theorem eU(d:0<=i)(f:i<p.fq.length)(hv:0<=(AA p.fq i).j0.Var):BC (I5 p i) (AA p.fq i).j0.Var true=I5 p (i+1):=by
 unfold BC;refine List.ext_getElem (by simp[I5]) (fun n h j=>?_);simp[I5,CQ d f]
 grind
theorem bf(d:0<=i)(f:i<p.fq.length)(hv:(AA p.fq i).j0.Var<0):I5 p i=I5 p (i+1):=by
 refine List.ext_getElem (by simp[I5]) (fun n h j=>?_);simp[I5,CQ d f]
 grind
theorem eR(p:ec):((I5 p p.fq.length).any fun x=>false==x)=ne (fun v=>!Jy p v) 0 p.hT:=by
 rw [Bool.eq_iff_iff,List.any_eq_true,Dy];simp only[I5,Int.toNat_natCast,List.take_length,List.mem_map,List.mem_range];constructor
 .rintro⟨x,⟨v,hv,rfl⟩,d⟩;refine⟨v,by omega,by omega,?_⟩
  grind [Jy]
 .rintro⟨v,f,h,d⟩;refine⟨_,⟨v.toNat,by omega,rfl⟩,?_⟩
  grind [Int.toNat_of_nonneg,Jy]
theorem ZR{α ρ:Type}[Inhabited α]{l:List α}{q:α->Bool}{v:ρ}:fst (fun i=>if q (AA l i)=true then some v else none) 0 l.length=if l.any q=true then some v else none:=by
 rw [LY,HP]
variable{t:AC}
theorem Uh(hf:Ap t)(p:ec):Cc t p=some (G8 t p):=by
 unfold Cc G8;rw[Ld hf,bs,Lc,bs];refine DY fun F=>DY fun D=>?_;have x:=DF D;have e:((Al p.d5.d3 (fun d=>GA d t)).bind fun o=>
   (if o=true then some true else((BL p.d5.d4 (fun d=>GB d t)).bind fun q=>some (q))))=some (!Ci t p.d5):=by
  unfold Ci;rw[show(fun d=>GA d t)=(fun(n:Int)=>some (decide (t.d3.length<=n)))from rfl,XG,show(fun d=>GB d t)=(fun(e:Bj)=>some (decide (t.d4.length<=e.kp)))from rfl,ZH];simp only[bs];cases p.d5.d3.any fun n=>decide (t.d3.length<=n)<;>simp
 rw [<-Option.bind_assoc,e,bs];refine UB fun E=>?_;unfold CO;simp only[bs];refine Nb (by simp;try omega) fun hv=>Nb (by simp;try omega) fun G=>?_;unfold GW;rw[ae (by omega),bs,<-bg,Am (show -9223372036854775808<=p.hT-1 by omega) (by omega),KG (I5 p) (fun i=>if QM t p (AA p.fq i)=true then some 6 else none) (by omega) rfl,ZR]
 .cases f:p.fq.any (QM t p)
  .simp only[Bool.false_eq_true,if_false,jU,BT,km,bs,jy,eR];by_cases h:JH p.hT p.pq=0
   .simp[h];cases ne (fun v=>!Jy p v) 0 p.hT<;>rfl
   .simp[h]
  .rfl
 .intro i u w _;rw[AD u w,bs,kX hf x,bs];unfold QM;by_cases f:(QL t p (AA p.fq i).sx (AA p.fq i).kl).2=true
  .by_cases C:(AA p.fq i).j0.Var< -1\/p.hT<=(AA p.fq i).j0.Var
   .have y:(decide (-1<=(AA p.fq i).j0.Var)&&decide ((AA p.fq i).j0.Var<=p.hT-1))=false:=by rw[Bool.eq_false_iff];simp;omega
    have z:(decide ((AA p.fq i).j0.Var< -1)||decide (p.hT<=(AA p.fq i).j0.Var))=true:=by simp;omega
    rw [f,y,Bool.or_assoc (!true),z];rfl
   .have y:(decide (-1<=(AA p.fq i).j0.Var)&&decide ((AA p.fq i).j0.Var<=p.hT-1))=true:=by simp;omega
    have z:(decide ((AA p.fq i).j0.Var< -1)||decide (p.hT<=(AA p.fq i).j0.Var))=false:=by rw[Bool.eq_false_iff];simp;omega
    rw [f,y,Bool.or_assoc (!true),z];by_cases H:(AA p.fq i).j0.Add< -1000000\/1000000<(AA p.fq i).j0.Add
    .have A:(decide (-1000000<=(AA p.fq i).j0.Add)&&decide ((AA p.fq i).j0.Add<=1000000))=false:=by rw[Bool.eq_false_iff];simp;omega
     have B:(decide ((AA p.fq i).j0.Add< -1000000)||decide (1000000<(AA p.fq i).j0.Add))=true:=by simp;omega
     rw [A,B];rfl
    .have A:(decide (-1000000<=(AA p.fq i).j0.Add)&&decide ((AA p.fq i).j0.Add<=1000000))=true:=by simp;omega
     have B:(decide ((AA p.fq i).j0.Add< -1000000)||decide (1000000<(AA p.fq i).j0.Add))=false:=by rw[Bool.eq_false_iff];simp;omega
     rw [A,B];by_cases j:0<=(AA p.fq i).j0.Var
     .simp[j,decide_true];rw[AD j (by rw[eT];omega),bs,eU u w j];rfl
     .simp[j,decide_false];rw[bf u w (by omega)];rfl
  .rw[Bool.not_eq_true]at f;rw[f];rfl
theorem jE(p:ec)(v:Int):J4 p v=some (Jy p v):=by
 unfold J4 Jy;rw[BJ (fun i=>decide ((AA p.fq i).j0.Var=v)) true,HP]
 .cases ne (fun i=>decide ((AA p.fq i).j0.Var=v)) 0 p.fq.length<;>rfl
 .intro i d f _;rw[AD d f,bs,Hw]
theorem Wq(hf:Ap t)(p:ec):Gd t p=some (G8 t p):=by
 unfold Gd G8;rw[Ob hf,bs,Lf,bs];refine DY fun u=>DY fun o=>?_;have f:=DF o;rw[VO f,bs];refine UB fun q=>Nb (by simp;try omega) fun hv=>Nb (by simp;try omega) fun w=>?_;rw[BJ (fun i=>QM t p (AA p.fq i)) 6,<-HP]
 .cases x:p.fq.any (QM t p)
  .simp only[Bool.false_eq_true,if_false,BT,lK,bs];by_cases d:JH p.hT p.pq=0
   .simp only[d];rw[BJ (fun v=>!Jy p v) 9]
    .cases ne (fun v=>!Jy p v) 0 p.hT<;>rfl
    .intro i h j _;rw[jE,bs,Hw]
   .simp[d]
  .rfl
 .intro i h j _;rw[AD h j,bs,kw hf,bs];unfold QM K9
  grind
def NV(t:AC)(p:ec)(i:Int):Int:=
 let s:=AA p.fq i
 if s.sx<0\/p.d5.d3.length<=s.sx then 6 else
 let l:=(GD t (AA p.d5.d3 s.sx)).1
 if ((((((decide (s.kl<0))||(decide ((l.length:Int)<=s.kl)))||(decide (s.j0.Var<(-1))))||(decide (p.hT<=s.j0.Var)))||(decide (s.j0.Add<(-1000000))))||(decide (1000000<s.j0.Add)))=true then 6 else
 if ne (fun j=>(decide ((AA p.fq j).sx=s.sx))&&(decide ((AA p.fq j).kl=s.kl))) 0 i=true then 5 else 0
theorem np(hf:Ap t)(r:gt)(d:0<=i)(f:i<r.fd.fq.length):Ik t r i=some (NV t r.fd i):=by
 unfold Ik NV;dsimp only;rw[AD d f,bs];refine Nb (by simp) fun h=>?_;rw[AD (by omega) (by omega),bs,P5 hf,bs,LQ d (by omega),bs,
  show (fun j=>NU j (AA r.fd.fq i))=(fun y=>some ((decide (y.sx=(AA r.fd.fq i).sx))&&(decide (y.kl=(AA r.fd.fq i).kl))))from rfl,ZI,bs,Oh d (by omega)]
 grind
theorem oM(hf:Ap t)(p:ec)(d:0<=i)(f:i<p.fq.length):MS t p i=some (NV t p i):=by
 unfold MS NV;dsimp only;rw[AD d f,bs];refine Nb (by simp) fun h=>?_;rw[AD (by omega) (by omega),bs,P7 hf,bs,
  BJ (fun j=>(decide ((AA p.fq j).sx=(AA p.fq i).sx))&&(decide ((AA p.fq j).kl=(AA p.fq i).kl))) 5]
 .refine XH fun _=>?_;cases ne (fun j=>(decide ((AA p.fq j).sx=(AA p.fq i).sx))&&(decide ((AA p.fq j).kl=(AA p.fq i).kl))) 0 i<;>rfl
 grind [AD,AA,kl]
def JF(t:AC)(r:gt):Int:=
 if Bt r.fd.d5≠0 then Bt r.fd.d5 else if Ci t r.fd.d5=false then 13 else
 if r.fd.hT≠r.kg.hT\/0<r.fd.pq.length then 1 else if 10<r.fd.fq.length then 3 else
 (fst (fun i=>nz (NV t r.fd i)) 0 r.fd.fq.length).getD 0
theorem ki(hf:Ap t)(r:gt):Hm t r=some (JF t r):=by
 unfold Hm JF;rw[Lc,bs,ko,bs,BV (fun i=>nz (NV t r.fd i)),CS]
 .grind
 grind [np,Kj]
theorem lH(hf:Ap t)(r:gt):Kz t r=some (JF t r):=by
 unfold Kz JF;rw[Lf,bs];refine DY fun d=>?_;rw[VO (DF d),bs,BV (fun i=>nz (NV t r.fd i)),CS]
 .grind
 grind [oM,Kj]
end Go.Sf.Sc
namespace Go.Sf
variable{a b:Int}
theorem aU{ρ:Type}{c d:Int->Option ρ}(h:∀i,c i=d i):fst c a b=fst d a b:=by rw[funext h]
def Cw(l:Fp)(v:Int):Int:=(fst (fun i=>if decide (v=AA l i)=true then some i else none) 0 l.length).getD (-1)
variable{l:Fp}
theorem IN{v:Int}(h:v∈l):0<=Cw l v/\Cw l v<l.length/\AA l (Cw l v)=v/\∀j,0<=j->j<Cw l v->AA l j≠v:=by
 unfold Cw;cases hf:fst (fun i=>if decide (v=AA l i)=true then some i else none) 0 l.length with
 |none=>
  grind [BW,B3]
 |some k=>
  grind [C7,AA]
variable{R:Int->Int->Prop}
theorem Kl(h:l.Pairwise R){i j:Int}(d:0<=i)(f:i<j)(o:j<l.length):R (AA l i) (AA l j):=by grind[List.pairwise_iff_getElem,AA,List.getElem?_eq_getElem]
theorem S1(h:∀i j:Int,0<=i->i<j->j<l.length->R (AA l i) (AA l j)):l.Pairwise R:=by
 refine List.pairwise_iff_getElem.2 (fun i j d f o=>?_);have:=h i j (by omega) (by omega) (by omega);unfold AA at this
 grind
theorem TO(u:l.Pairwise (·<·)){v:Int}(h:v∈l):(l.countP (fun x=>decide (x<v)):Int)=Cw l v:=by
 obtain ⟨w,y,o,_⟩:=IN h;generalize E:Cw l v=k at w y o;have e:l=l.take k.toNat++l.drop k.toNat:=(List.take_append_drop _ _).symm;have z:(l.take k.toNat).countP (fun x=>decide (x<v))=k.toNat:=by
  rw [List.countP_eq_length.2 (fun x d=>?_),c7]
  .omega
  .obtain⟨i,C,D,rfl⟩:=BW d;rw[c7]at D;rw[OV (by omega),zzX,<-o];exact Kl u C (by omega) y
 have A:(l.drop k.toNat).countP (fun x=>decide (x<v))=0:=by
  rw [List.countP_eq_zero];intro x d;obtain⟨n,q⟩:=List.getElem?_of_mem d;rw[List.getElem?_drop]at q;have B:=(List.getElem?_eq_some_iff.1 q).1;have f:x=AA l (k+n):=by
   unfold AA;rw[List.getD_eq_getElem?_getD,show(k+(n:Int)).toNat=k.toNat+n by omega,q];rfl
  rw [zzX,f,<-o];by_cases j:n=0
  .subst j;simp
  .have:=Kl u w (show k<k+(n:Int)by omega) (by omega);omega
 rw [e,List.countP_append,z,A];omega
end Go.Sf
namespace Go.Sf.Sc
open Go Go.Sf
theorem kH(l:Fp)(n:Int):(ff (j4 (ρ:=Int) (fun(h:Int)(_:Unit)=>
 (idx l h).bind fun d=>
 if (decide (d=n))=true then
 some (.ret h)
 else
 some (.next ())) 0 (l.length:Int) ()) (fun _=>
 some (-1)) (fun j=>some j))=some (Cw l n):=by
 have:=TT (l:=l) (f:=fun x=>some (decide (x=n))) (p:=fun x=>decide (x=n)) (fun _ _=>rfl);simp only[bs]at this;rw[this];unfold Cw;congr 2;exact aU fun i=>by simp[eq_comm]
theorem oH(l:Fp)(v:Int):H0 l v=some (Cw l v):=kH l v
def hasB(l:Fp)(v:Int):Bool:=l.any fun x=>decide (v=x)
variable{l:Fp}
theorem CG{v:Int}:hasB l v=true↔v∈l:=by
 unfold hasB
 grind
theorem Mt(l:Fp)(n:Int):(ff (j4 (ρ:=Bool) (fun(f:Int)(_:Unit)=>
 (idx l f).bind fun d=>
 if (decide (d=n))=true then
 some (.ret true)
 else
 some (.next ())) 0 (l.length:Int) ()) (fun _=>
 some false) (fun h=>some h))=some (hasB l n):=by
 unfold hasB;rw[BJ (fun i=>decide (n=AA l i)) true,HP]
 .cases ne (fun i=>decide (n=AA l i)) 0 l.length<;>rfl
 .intro i j o _;rw[AD j o,bs,Hw];simp[eq_comm]
theorem lC(l:Fp)(v:Int):PU l v=some (hasB l v):=Mt l v
theorem k9(l:Fp)(v:Int):Nr l v=some (hasB l v):=Mt l v
def Oi(l:Fp)(n:Int):Int:=(fst (fun i=>if AA l i<0\/n<=AA l i then some 6 else if 0<i/\AA l i<=AA l (i-1)then some 12 else none) 0 l.length).getD 0
theorem iz(q:l.length<=1000)(n:Int):HK l n=some (Oi l n):=by
 unfold HK Oi;rw[BV (fun i=>if AA l i<0\/n<=AA l i then some 6 else if 0<i/\AA l i<=AA l (i-1)then some 12 else none),CS];intro i j o _;rw[AD j o,bs];by_cases h:AA l i<0\/n<=AA l i
 .rw[ae (by simpa using h),ae h];rfl
 .rw[az (by simpa using h),az h];by_cases d:0<i
  .rw[ae (by simpa using d),Am (by omega) (by omega),AD (by omega) (by omega),bs,bs];by_cases f:AA l i<=AA l (i-1)
   .rw[ae (by simpa using f),ae ⟨d,f⟩];rfl
   .rw[az (by simpa using f),az (fun h=>f h.2)];rfl
  .rw[az (by simpa using d),bs,az (by decide),az (fun h=>d h.1)];rfl
theorem jC(u:l.length<=1000)(n:Int):F6 l n=some (Oi l n):=by
 unfold F6 Oi;rw[BV (fun i=>if AA l i<0\/n<=AA l i then some 6 else if 0<i/\AA l i<=AA l (i-1)then some 12 else none),CS];intro i j o _;rw[AD j o];simp only[bs];by_cases h:AA l i<0\/n<=AA l i
 .have:(if decide (AA l i<0)=true then some true else some (decide (n<=AA l i)))=some true:=by
   rcases h with h|h
   .simp[h]
   .by_cases q:AA l i<0<;>simp[h,q]
  rw [this,bs,ae rfl,ae h];rfl
 .have:(if decide (AA l i<0)=true then some true else some (decide (n<=AA l i)))=some false:=by
   rw [az (by simp;omega),decide_eq_false (by omega)]
  rw [this,bs,az (by decide),az h];by_cases d:0<i
  .rw[ae (by simpa using d),Am (by omega) (by omega),AD (by omega) (by omega),bs,bs];by_cases f:AA l i<=AA l (i-1)
   .rw[ae (by simpa using f),ae ⟨d,f⟩];rfl
   .rw[az (by simpa using f),az (fun h=>f h.2)];rfl
  .rw[az (by simpa using d),bs,az (by decide),az (fun h=>d h.1)];rfl
variable{a b:Int}
theorem PH{c:Int->QQ}(d:∀i,c i≠some 0)(h:(fst c a b).getD 0=0):∀i,a<=i->i<b->c i=none:=by
 have:fst c a b=none:=by
  cases hf:fst c a b with
  |none=>rfl|some r=>
   grind [Option.getD,C7]
 exact B3.1 this
variable{n:Int}
theorem Rb(h:Oi l n=0):(∀x∈l,0<=x/\x<n)/\l.Pairwise (·<·):=by
 have y:=PH (c:=fun i=>if AA l i<0\/n<=AA l i then some 6 else if 0<i/\AA l i<=AA l (i-1)then some 12 else none) (fun i=>by
  split
  .simp
  .split<;>simp) h
 have f:∀i:Int,0<=i->i<l.length->(0<=AA l i/\AA l i<n)/\(0<i->AA l (i-1)<AA l i):=by
  intro i o w;have:=y i o w;split at this
  .cases this
  .split at this
   .cases this
   .omega
 refine ⟨fun x q=>?_,S1 (fun i j o d u=>?_)⟩
 .obtain⟨i,z,A,rfl⟩:=BW q;exact(f i z A).1
 .obtain⟨k,B⟩:∃k:Nat,j=i+1+k:=⟨(j-i-1).toNat,by omega⟩;subst B;clear d
  induction k with
  |zero=>
   have:=(f (i+1) (by omega) (by omega)).2 (by omega);rw[show i+1-1=i by omega]at this;simpa using this
  |succ k C=>
   have a:=C (by omega);have b:=(f (i+1+((k+1:Nat):Int)) (by omega) u).2 (by omega);rw[show i+1+((k+1:Nat):Int)-1=i+1+k by omega]at b;omega
theorem RD(f:l.length<=1000)(d:l.Pairwise (·<·))(v:Int):slices_BinarySearch_int l v=some (((l.countP (fun x=>decide (x<v)):Nat):Int),hasB l v):=by
 unfold slices_BinarySearch_int;rw[ae ⟨by unfold Ae;omega,d.imp (fun h=>by omega)⟩];congr 2;rw[Bool.eq_iff_iff,CG,List.contains_iff_mem]
def ND(g:d5)(p:BA):Int:=
 if Oi p.d3 g.d3.length≠0 then Oi p.d3 g.d3.length else if Oi p.d4 g.d4.length≠0 then Oi p.d4 g.d4.length else
 (fst (fun i=>if(hasB p.d3 (AA g.d4 (AA p.d4 i)).kq&&hasB p.d3 (AA g.d4 (AA p.d4 i)).To)=true then none else some 14) 0 p.d4.length).getD 0
structure Wx(g:d5)(p:BA):Prop where
 ei:(∀x∈p.d3,0<=x/\x<g.d3.length)/\p.d3.Pairwise (·<·)
 em:(∀x∈p.d4,0<=x/\x<g.d4.length)/\p.d4.Pairwise (·<·)
 ends:∀x∈p.d4,(AA g.d4 x).kq∈p.d3/\(AA g.d4 x).To∈p.d3
variable{g:d5}
theorem Uk{p:BA}(h:ND g p=0):Wx g p:=by
 unfold ND at h;split at h
 .omega
 .split at h
  .omega
  .rename_i q u;refine⟨Rb (by omega),Rb (by omega),fun x f=>?_⟩;obtain⟨i,j,o,rfl⟩:=BW f;have:=PH (c:=fun i=>if(hasB p.d3 (AA g.d4 (AA p.d4 i)).kq&&hasB p.d3 (AA g.d4 (AA p.d4 i)).To)=true then none else some 14) (fun i=>by
    split<;>simp) h i j o
   split at this
   .rename_i d;rw[tg,CG,CG]at d;exact d
   .cases this
def EP(g:d5)(p:BA):Int:=if Bt g≠0 then Bt g else ND g p
structure Pa(p:BA):Prop where
 ei:p.d3.length<=1000
 em:p.d4.length<=1000
theorem Zg{p:BA}(d:Pa p):Du g p=some (EP g p):=by
 unfold Du EP;rw[Lc,bs];refine DY fun o=>?_;have w:=DF o;unfold LF ND;rw[iz d.ei,bs,iz d.em,bs,Option.bind_fun_some];refine DY fun q=>DY fun u=>?_;obtain⟨a1,x⟩:=Rb q;obtain⟨y,z⟩:=Rb u;rw[BV (fun i=>if(hasB p.d3 (AA g.d4 (AA p.d4 i)).kq&&hasB p.d3 (AA g.d4 (AA p.d4 i)).To)=true then none else some 14),CS];intro i f h _;have j:=y _ (AJ f h);unfold KB;rw[AD f h,bs,AD j.1 j.2];simp[RD d.ei x];cases hasB p.d3 (AA g.d4 (AA p.d4 i)).kq<;>cases hasB p.d3 (AA g.d4 (AA p.d4 i)).To<;>rfl
theorem VN{p:BA}(d:Pa p):Hz g p=some (EP g p):=by
 unfold Hz EP;rw[Lf,bs];refine DY fun o=>?_;have u:=DF o;unfold NN ND;rw[jC d.ei,bs,jC d.em,bs,Option.bind_fun_some];refine DY fun x=>DY fun q=>?_;obtain⟨w,y⟩:=Rb q;rw[BV (fun i=>if(hasB p.d3 (AA g.d4 (AA p.d4 i)).kq&&hasB p.d3 (AA g.d4 (AA p.d4 i)).To)=true then none else some 14),CS];intro i f h _;have j:=w _ (AJ f h);rw[AD f h,bs,AD j.1 j.2];simp[k9];cases hasB p.d3 (AA g.d4 (AA p.d4 i)).kq<;>cases hasB p.d3 (AA g.d4 (AA p.d4 i)).To<;>rfl
def MJ(g:d5)(p:BA):d5:=⟨p.d3.map (AA g.d3),p.d4.map fun x=>⟨(AA g.d4 x).kp,Cw p.d3 (AA g.d4 x).kq,Cw p.d3 (AA g.d4 x).To⟩⟩
variable{i:Int}
theorem HD{α:Type}{f:Int->α}(d:0<=i)(h:i<l.length):(l.take (i+1).toNat).map f=(l.take i.toNat).map f++[f (AA l i)]:=by grind[CQ]
theorem Qz(z:l.length<=1000)(h:∀x∈l,0<=x/\x<g.d3.length)(es:List Bj):(pr (fun(y:Int)(u:d5)=>
 (idx l y).bind fun d=>
 (idx g.d3 d).bind fun f=>
 (Ah u.d3 [f]).bind fun j=>
 some (d5.mk j u.d4)) 0 (l.length:Int) (d5.mk [] es))=some (d5.mk (l.map (AA g.d3)) es):=by
 rw [Bo (fun i=>d5.mk ((l.take i.toNat).map (AA g.d3)) es) (by omega) (by simp)]
 .rw[Int.toNat_natCast,List.take_length]
 .intro i o q;have w:=h _ (AJ o q);rw[AD o q,bs,AD w.1 w.2,bs,Af (by simp;unfold Ae;omega),bs,HD o q]
theorem UP(B:l.length<=1000)(h:∀x∈l,0<=x/\x<g.d4.length)(o:Fp)(F:Bj->Bj){f:Bj->List Bj->Option (List Bj)}(hf:∀x∈l,∀s,s.length<=1000->f (AA g.d4 x) s=some (s++[F (AA g.d4 x)])):(pr (fun(A:Int)(y:d5)=>
 (idx l A).bind fun q=>
 (idx g.d4 q).bind fun u=>
 (f u y.d4).bind fun w=>
 some (d5.mk y.d3 w)) 0 (l.length:Int) (d5.mk o []))=some (d5.mk o (l.map fun x=>F (AA g.d4 x))):=by
 rw [Bo (fun i=>d5.mk o ((l.take i.toNat).map fun x=>F (AA g.d4 x))) (by omega) (by simp)]
 .rw[Int.toNat_natCast,List.take_length]
 .intro i d j;have z:=h _ (AJ d j);rw[AD d j,bs,AD z.1 z.2,bs,hf _ (AJ d j) _ (by simp;omega),bs,HD d j]
theorem cp{p:BA}(d:Pa p):Dj g p=some (if EP g p≠0 then(⟨[],[]⟩,⟨[],[]⟩,EP g p)else(MJ g p,⟨p.d3,p.d4⟩,0)):=by
 unfold Dj;rw[Zg d,bs];refine C8 fun h=>?_;have w:Bt g=0/\ND g p=0:=by
  grind [EP]
 have ho:=Uk w.2;rw[Qz d.ei ho.ei.1,bs];have:=UP (g:=g) (l:=p.d4) d.em ho.em.1 (p.d3.map (AA g.d3)) (fun x=>⟨x.kp,Cw p.d3 x.kq,Cw p.d3 x.To⟩) (f:=fun j s=>
  (slices_BinarySearch_int p.d3 j.kq).bind fun o=>
  (slices_BinarySearch_int p.d3 j.To).bind fun q=>
  Ah s [Bj.mk j.kp o.1 q.1]) (fun x u s y=>by
   have he:=ho.ends x u;rw[RD d.ei ho.ei.2,bs,RD d.ei ho.ei.2,bs,Af (by simp;unfold Ae;omega),TO ho.ei.2 he.1,TO ho.ei.2 he.2])
 simp [Option.bind_assoc]at this;rw[this,bs];unfold slices_Clone_int;have z:=d.ei;have A:=d.em;rw[BY (by unfold Ae;omega),bs,BY (by unfold Ae;omega)];rfl
theorem V3{p:BA}(j:Pa p):HE g p=some (if EP g p≠0 then(⟨[],[]⟩,⟨[],[]⟩,EP g p)else(MJ g p,⟨p.d3,p.d4⟩,0)):=by
 unfold HE;rw[VN j,bs];refine C8 fun h=>?_;have u:Bt g=0/\ND g p=0:=by
  grind [EP]
 have ho:=Uk u.2;rw[Qz j.ei ho.ei.1,bs];have:=UP (g:=g) (l:=p.d4) j.em ho.em.1 (p.d3.map (AA g.d3)) (fun x=>⟨x.kp,Cw p.d3 x.kq,Cw p.d3 x.To⟩) (f:=fun d s=>
  (H0 p.d3 d.kq).bind fun o=>
  (H0 p.d3 d.To).bind fun q=>
  Ah s [Bj.mk d.kp o q]) (fun x w s y=>by
   grind [oH,Af,Ae])
 simp [Option.bind_assoc]at this;rw[this,bs];have z:=j.ei;have A:=j.em;rw[BY (by unfold Ae;omega),bs,BY (by unfold Ae;omega)];rfl
end Go.Sf.Sc
namespace Go.Sf.Sc
open Go Go.Sf
def Ki(a b:d5)(m:d6)(i:Int):QQ:=
 if AA m.d3 i<0\/b.d3.length<=AA m.d3 i then some 6 else if AA b.d3 (AA m.d3 i)≠AA a.d3 i then some 13 else none
def Fm(a b:d5)(m:d6)(i:Int):QQ:=
 if AA m.d4 i<0\/b.d4.length<=AA m.d4 i then some 6 else
 if (AA a.d4 i).kp≠(AA b.d4 (AA m.d4 i)).kp then some 13 else
 if AA m.d3 (AA a.d4 i).kq≠(AA b.d4 (AA m.d4 i)).kq\/AA m.d3 (AA a.d4 i).To≠(AA b.d4 (AA m.d4 i)).To then some 11 else none
def IP(a b:d5)(m:d6):Int:=
 if Bt a≠0 then Bt a else if Bt b≠0 then Bt b else if m.d3.length≠a.d3.length\/m.d4.length≠a.d4.length then 20 else
 match fst (Ki a b m) 0 m.d3.length with
 |some e=>e|none=>(fst (Fm a b m) 0 m.d4.length).getD 0
structure Wb(a b:d5)(m:d6):Prop where
 ga:Do a
 gb:Do b
 AaQ:m.d3.length=a.d3.length
 Aa7:m.d4.length=a.d4.length
 node:∀i:Int,0<=i->i<m.d3.length->(0<=AA m.d3 i/\AA m.d3 i<b.d3.length)/\AA b.d3 (AA m.d3 i)=AA a.d3 i
 edge:∀i:Int,0<=i->i<m.d4.length->(0<=AA m.d4 i/\AA m.d4 i<b.d4.length)/\(AA a.d4 i).kp=(AA b.d4 (AA m.d4 i)).kp/\
  AA m.d3 (AA a.d4 i).kq=(AA b.d4 (AA m.d4 i)).kq/\AA m.d3 (AA a.d4 i).To=(AA b.d4 (AA m.d4 i)).To
variable{m:d6}
theorem Sh{a b:d5}(h:IP a b m=0):Wb a b m:=by
 unfold IP at h;split at h
 .omega
 split at h
 .omega
 split at h
 .cases h
 rename_i o q u;have j:fst (Ki a b m) 0 m.d3.length=none:=by
  grind [C7,Ki]
 rw [j]at h;have he:=PH (fun i=>by
  grind [Fm]) h
 refine ⟨DF (by omega),DF (by omega),by omega,by omega,fun i d f=>?_,fun i d f=>?_⟩
 .grind[B3,Ki]
 grind [Fm]
theorem Wh(a b:d5)(m:d6):Cx a b m=some (IP a b m):=by
 unfold Cx IP;rw[Lc,bs,Lc,bs];refine DY fun u=>DY fun w=>Nb (by simp;try omega) fun z=>?_;have ga:=DF u;have gb:=DF w;rw[BV (Ki a b m),Dk]
 .cases x:fst (Ki a b m) 0 m.d3.length with
  |some e=>rfl|none=>
   have y:=B3.1 x;dsimp only;rw[BV (Fm a b m),CS];intro i h q _;unfold Fm;rw[AD h q,bs];by_cases d:AA m.d4 i<0\/b.d4.length<=AA m.d4 i
   .rw[ae (by simpa using d),ae d];rfl
   .have hf:=ga.fit _ (AJ (l:=a.d4) h (by omega));rw[az (by simpa using d),az d,AD h (by omega),bs,AD (by omega) (by omega),bs];by_cases f:(AA a.d4 i).kp=(AA b.d4 (AA m.d4 i)).kp
    .rw[az (by simpa using f),az (by simpa using f),AD (by omega) (by omega),bs];by_cases j:AA m.d3 (AA a.d4 i).kq=(AA b.d4 (AA m.d4 i)).kq
     .rw[az (by simpa using j),AD (by omega) (by omega),bs,bs];by_cases o:AA m.d3 (AA a.d4 i).To=(AA b.d4 (AA m.d4 i)).To
      .rw[az (by simpa using o),az (by simp[j,o])];rfl
      .rw[ae (by simpa using o),ae (.inr o)];rfl
     .rw[ae (by simpa using j),bs,ae rfl,ae (.inl j)];rfl
    .rw[ae (by simpa using f),ae f];rfl
 .intro i h q _;unfold Ki;rw[AD h q,bs];by_cases d:AA m.d3 i<0\/b.d3.length<=AA m.d3 i
  .rw[ae (by simpa using d),ae d];rfl
  .rw[az (by simpa using d),az d,AD (by omega) (by omega),bs,AD h (by omega),bs];by_cases f:AA b.d3 (AA m.d3 i)=AA a.d3 i
   .rw[az (by simpa using f),az (by simpa using f)];rfl
   .rw[ae (by simpa using f),ae f];rfl
theorem SE{x y:Prop}[Decidable x][Decidable y]:(if decide x=true then some true else some (decide y))=some (decide (x\/y)):=by grind
theorem Wp(a b:d5)(m:d6):GY a b m=some (IP a b m):=by
 unfold GY IP;rw[Lf,bs,Lf,bs];refine DY fun u=>DY fun w=>Nb (by simp;try omega) fun z=>?_;have ga:=DF u;have gb:=DF w;rw[show(a.d3.length:Int)=m.d3.length by omega,show(a.d4.length:Int)=m.d4.length by omega,BV (Ki a b m),Dk]
 .cases x:fst (Ki a b m) 0 m.d3.length with
  |some e=>rfl|none=>
   have y:=B3.1 x;dsimp only;rw[BV (Fm a b m),CS];intro i h q _;unfold Fm;rw[AD h q];simp only[bs,SE];by_cases d:AA m.d4 i<0\/b.d4.length<=AA m.d4 i
   .rw[ae (by simpa using d),ae d];rfl
   .have hf:=ga.fit _ (AJ (l:=a.d4) h (by omega));rw[az (by simpa using d),az d,AD h (by omega),bs,AD (by omega) (by omega),bs];by_cases f:(AA a.d4 i).kp=(AA b.d4 (AA m.d4 i)).kp
    .rw[az (by simpa using f),az (by simpa using f),AD (by omega) (by omega),bs];by_cases j:AA m.d3 (AA a.d4 i).kq=(AA b.d4 (AA m.d4 i)).kq
     .rw[az (by simpa using j),AD (by omega) (by omega),bs,bs];by_cases o:AA m.d3 (AA a.d4 i).To=(AA b.d4 (AA m.d4 i)).To
      .rw[az (by simpa using o),az (by simp[j,o])];rfl
      .rw[ae (by simpa using o),ae (.inr o)];rfl
     .rw[ae (by simpa using j),bs,ae rfl,ae (.inl j)];rfl
    .rw[ae (by simpa using f),ae f];rfl
 .intro i h q _;unfold Ki;rw[AD h q];simp only[bs,SE];by_cases d:AA m.d3 i<0\/b.d3.length<=AA m.d3 i
  .rw[ae (by simpa using d),ae d];rfl
  .rw[az (by simpa using d),az d,AD (by omega) (by omega),bs,AD h (by omega),bs];by_cases f:AA b.d3 (AA m.d3 i)=AA a.d3 i
   .rw[az (by simpa using f),az (by simpa using f)];rfl
   .rw[ae (by simpa using f),ae f];rfl
def IL(l:Fp):Bool:=!ne (fun i=>ne (fun j=>decide (AA l i=AA l j)) 0 i) 0 l.length
variable{l:Fp}
theorem Om:IL l=true↔l.Nodup:=by grind[IL,Bool.not_eq_true',Bf,S1,Kl]
theorem Wo(l:Fp):Ef l=some (IL l):=by
 unfold Ef IL;rw[BJ (fun i=>ne (fun j=>decide (AA l i=AA l j)) 0 i) false]
 .cases ne (fun i=>ne (fun j=>decide (AA l i=AA l j)) 0 i) 0 l.length<;>rfl
 .intro i d f _;rw[BJ (fun j=>decide (AA l i=AA l j)) false]
  .cases ne (fun j=>decide (AA l i=AA l j)) 0 i<;>rfl
  .intro j h o _;rw[AD d f,bs,AD h (by omega),bs,Hw]
theorem Xx(f:l.length<=1000):∃k,F4 l=some k/\decide (k=(l.length:Int))=IL l:=by
 have d:(PK l).length=l.length:=(OJ l).length_eq;refine⟨((Go.Lib.compact (PK l)).length:Int),?_,?_⟩
 .grind[F4,slices_Clone_int,slices_Sort_int,slices_Compact_int,BY,Ae]
 .rw[Bool.eq_iff_iff,Om,zzX,<-(OJ l).nodup_iff,<-RP (Oo l),d];omega
def JZ(m:d6):Bool:=IL m.d3&&IL m.d4
theorem i7{a b:d5}(h:IP a b m=0):Cg a b m=some (JZ m):=by
 have ho:=Sh h;have:=ho.ga.ei;have:=ho.ga.em;have:=ho.AaQ;have:=ho.Aa7;obtain⟨k,d,f⟩:=Xx (l:=m.d3) (by omega);obtain⟨j,o,q⟩:=Xx (l:=m.d4) (by omega);unfold Cg JZ;rw[Wh,h,bs,ae (decide_eq_true rfl),d];simp[o,f,q];cases IL m.d3<;>rfl
theorem r0{a b:d5}(h:IP a b m=0):Hi a b m=some (JZ m):=by grind[Hi,JZ,Wp,Wo,IL]
def PM(r:gt):Int:=
 if EP r.kg.d5 r.x3≠0 then EP r.kg.d5 r.x3 else
 if IP (MJ r.kg.d5 r.x3) r.fd.d5 r.sc≠0 then IP (MJ r.kg.d5 r.x3) r.fd.d5 r.sc else if JZ r.sc=false then 11 else 0
variable{r:gt}
theorem nf(d:Pa r.x3):Ij r=some (PM r):=by
 unfold Ij PM;rw[cp d,bs];by_cases h:EP r.kg.d5 r.x3=0
 .simp only[h,ne_eq,not_true_eq_false,if_false,decide_true,Bool.not_true,Bool.false_eq_true];rw[Wh,bs];refine DY fun f=>?_;rw[i7 f,bs];exact UB fun _=>rfl
 .simp[h]
def Sw(r:gt):Int:=if EP r.kg.d5 r.x3≠0 then EP r.kg.d5 r.x3 else IP (MJ r.kg.d5 r.x3) r.fd.d5 r.sc
theorem oN(d:Pa r.x3):MT r=some (Sw r):=by
 unfold MT Sw;rw[VN d,bs];refine DY fun h=>?_
 grind [V3,Wp]
theorem kJ(h:PM r=0):EP r.kg.d5 r.x3=0/\IP (MJ r.kg.d5 r.x3) r.fd.d5 r.sc=0/\JZ r.sc=true:=by grind[PM]
def BB(l:Fp)(n:Int):Fp:=((List.range n.toNat).map Int.ofNat).filter fun i=>!hasB l i
variable{i:Int}
theorem MV(l:Fp)(h:0<=i):BB l (i+1)=BB l i++if(!hasB l i)=true then[i]else[]:=by
 unfold BB;rw[show(i+1).toNat=i.toNat+1 by omega,List.range_succ,List.map_append,List.filter_append]
 grind
theorem Hl{n x:Int}(h:x∈BB l n):0<=x/\x<n:=by
 unfold BB at h
 grind
theorem PX(l:Fp)(n:Int):(BB l n).length<=n.toNat:=by
 unfold BB
 grind
variable{n:Int}
theorem SN(q:0<=n)(w:n<=1000){f:Int->K1}(hf:∀i,f i=some (hasB l i)):(pr (fun(j:Int)(o:Fp)=>
 (f j).bind fun d=>
 if (!d)=true then
 (Ah o [j]).bind fun h=>
 some h
 else
 some o) 0 n [])=some (BB l n):=by
 refine Bo (BB l) q (by simp[BB]) (fun i u x=>?_);have:=PX l i;rw[hf,bs,MV l u];cases hasB l i
 .rw[ae (by decide),ae (by decide),Af (by simp;unfold Ae;omega)];rfl
 .rw[az (by decide),az (by decide),List.append_nil]
theorem Xz(d:0<=n)(f:n<=1000):JV l n=some (BB l n):=by
 unfold JV;rw[SN d f (fun i=>Kf l i)];rfl
theorem dR(d:0<=n)(f:n<=1000):KP n l=some (BB l n):=by
 unfold KP;rw[SN d f (fun i=>lC l i)];rfl
def Iv(r:gt):Fp:=BB r.sc.d3 r.fd.d5.d3.length
def Ol(r:gt):Fp:=BB r.sc.d4 r.fd.d5.d4.length
theorem cu(d:Do r.fd.d5):J9 r=some (Iv r,Ol r):=by
 have:=d.ei;have:=d.em;unfold J9;rw[Xz (by omega) (by omega),bs,Xz (by omega) (by omega)];rfl
theorem dK(d:Do r.fd.d5):JE r=some (Iv r,Ol r):=by
 have:=d.ei;have:=d.em;unfold JE;rw[dR (by omega) (by omega),bs,dR (by omega) (by omega)];rfl
def LM(t:AC)(g:d5)(i:Int):Bool:=Qu t (AA g.d4 i).kp (AA g.d3 (AA g.d4 i).kq) (AA g.d3 (AA g.d4 i).To)
def Xk(t:AC)(g:d5)(ei em:Fp):Bool:=!(ei.any fun i=>(AA t.d3 (AA g.d3 i)).Aao)&&!(em.any fun i=>!LM t g i)
variable{t:AC}{g:d5}
theorem rx(hf:Ap t)(o:Do g)(q:Ci t g=true){ei em:Fp}(u:∀x∈ei,0<=x/\x<g.d3.length)(he:∀x∈em,0<=x/\x<g.d4.length):Fv t g ei em=some (Xk t g ei em):=by
 have h:=H6 o q;unfold Fv Xk;rw[Rk (p:=fun i=>(AA t.d3 (AA g.d3 i)).Aao) (fun x f=>by
  have d:=u x f;have j:=h.1 _ (AJ d.1 d.2);unfold KU;rw[AD d.1 d.2,bs,AD j.1 j.2];rfl),bs,Rk (p:=fun i=>!LM t g i) (fun x f=>by
  have d:=he x f;have j:=o.fit _ (AJ d.1 d.2);unfold FW;rw[AD d.1 d.2,bs,AD (by omega) (by omega),bs,AD (by omega) (by omega),bs,cq hf];rfl)]
 grind
theorem r7(hf:Ap t)(q:Do g)(u:Ci t g=true){ei em:Fp}(w:∀x∈ei,0<=x/\x<g.d3.length)(he:∀x∈em,0<=x/\x<g.d4.length):J6 t g ei em=some (Xk t g ei em):=by
 have j:=H6 q u;unfold J6 Xk;rw[HP,HP,BJ (fun i=>(AA t.d3 (AA g.d3 (AA ei i))).Aao) false]
 .rw[BJ (fun i=>!LM t g (AA em i)) false]
  .cases ne (fun i=>(AA t.d3 (AA g.d3 (AA ei i))).Aao) 0 ei.length
   .cases ne (fun i=>!LM t g (AA em i)) 0 em.length<;>rfl
   .rfl
  .intro i f h _;have d:=he _ (AJ f h);have o:=q.fit _ (AJ d.1 d.2);rw[AD f h,bs,AD d.1 d.2,bs,AD (by omega) (by omega),bs,AD (by omega) (by omega),bs,dH hf,bs,Hw];rfl
 .intro i f h _;have d:=w _ (AJ f h);have o:=j.1 _ (AJ d.1 d.2);rw[AD f h,bs,AD d.1 d.2,bs,AD o.1 o.2,bs,Hw]
end Go.Sf.Sc
namespace Go.Sf.Sc
open Go Go.Sf
structure Mm(p:ec):Prop where
 ei:p.d5.d3.length<=45
 em:p.d5.d4.length<=90
 slots:p.fq.length<=15
 tests:p.pq.length<=15
structure aC(m:d6):Prop where
 ei:m.d3.length<=140
 em:m.d4.length<=140
inductive DV:d7->Prop where
 |mk (c:d7) (hq:Mm c.ec) (hm:aC c.Map) (hk:∀k∈c.gp,DV k):DV c
variable{c:d7}
theorem DV.q(h:DV c):Mm c.ec:=by cases h;assumption
theorem DV.m(h:DV c):aC c.Map:=by cases h;assumption
theorem DV.k(h:DV c):∀k∈c.gp,DV k:=by cases h;assumption
theorem E5{c k:d7}(h:k∈c.gp):SizeOf.sizeOf k<SizeOf.sizeOf c:=by
 have:=List.sizeOf_lt_of_mem h;cases c
 grind
theorem D7(c:d7):0<SizeOf.sizeOf c:=by
 cases c
 grind
def OD(c:d7):Bool:=decide (c.Map.d3.length=0/\c.Map.d4.length=0/\c.ec.d5.d3.length=0/\c.ec.d5.d4.length=0/\c.ec.fq.length=0/\c.ec.pq.length=0/\c.ec.hT=0)
theorem nV(hf:DV c):EZ c=some (OD c):=by
 have d:=hf.q;have f:=hf.m;have:=d.ei;have:=d.em;have:=d.slots;have:=d.tests;have:=f.ei;have:=f.em;unfold EZ OD;rw[Am (n:=(c.Map.d3.length:Int)+c.Map.d4.length) (by omega) (by omega),Am (n:=(c.Map.d3.length:Int)+c.Map.d4.length+c.ec.d5.d3.length) (by omega) (by omega),
  Am (n:=(c.Map.d3.length:Int)+c.Map.d4.length+c.ec.d5.d3.length+c.ec.d5.d4.length) (by omega) (by omega),
  Am (n:=(c.Map.d3.length:Int)+c.Map.d4.length+c.ec.d5.d3.length+c.ec.d5.d4.length+c.ec.fq.length) (by omega) (by omega),
  Am (n:=(c.Map.d3.length:Int)+c.Map.d4.length+c.ec.d5.d3.length+c.ec.d5.d4.length+c.ec.fq.length+c.ec.pq.length) (by omega) (by omega)]
 congr 1
 grind
theorem gF(hf:DV c):Gu c=some (OD c):=by
 have d:=hf.q;have f:=hf.m;have:=d.ei;have:=d.em;have:=d.slots;have:=d.tests;have:=f.ei;have:=f.em;unfold Gu OD;rw[Am (n:=(c.Map.d3.length:Int)+c.Map.d4.length) (by omega) (by omega),Am (n:=(c.Map.d3.length:Int)+c.Map.d4.length+c.ec.d5.d3.length) (by omega) (by omega),
  Am (n:=(c.Map.d3.length:Int)+c.Map.d4.length+c.ec.d5.d3.length+c.ec.d5.d4.length) (by omega) (by omega),
  Am (n:=(c.ec.fq.length:Int)+c.ec.pq.length) (by omega) (by omega)]
 congr 1
 grind
def Q1(c:d7):Bool:=
 if c.mo=1 then decide (c.gp.length=0)&&OD c else if c.mo=2 then decide (c.gp.length=1)&&OD c else
 if c.mo=3\/c.mo=4 then decide (1<=c.gp.length)&&OD c else if c.mo=5 then decide (c.gp.length=1)else false
def QG:Nat->d7->Bool
 |0,_=>false|n+1,c=>Q1 c&&c.gp.all (QG n)
theorem nv:∀(N:Nat)(c:d7),SizeOf.sizeOf c<=N->DV c->∀n,2*N<=n->BI n c=some (QG N c)
 |0,c,h,_,_,_=>by have:=D7 c;omega|N+1,c,h,hf,n,B=>by
  obtain ⟨n,rfl⟩:∃m,n=m+2:=⟨n-2,by omega⟩;rw[BI,QG,nV hf];have f:Bh c.gp (BS (n+1))=some (!c.gp.all (QG N)):=by
   rw [XF (p:=fun k=>!QG N k) (fun k f=>by
    have:=E5 f;rw[BS,nv N k (by omega) (hf.k k f) n (by omega)];rfl),List.all_eq_not_any_not,Bool.not_not]
  rw [f];unfold Q1;simp only[bs,zzX];generalize OD c=b;generalize c.gp.all (QG N)=w;have y:decide ((c.gp.length:Int)=0)=decide (c.gp.length=0):=by rw[decide_eq_decide];omega
  have z:decide ((c.gp.length:Int)=1)=decide (c.gp.length=1):=by rw[decide_eq_decide];omega
  have A:decide (1<=(c.gp.length:Int))=decide (1<=c.gp.length):=by rw[decide_eq_decide];omega
  simp only[show((c.gp.length:Int)=0)↔c.gp.length=0 by omega,show((c.gp.length:Int)=1)↔c.gp.length=1 by omega,show(1<=(c.gp.length:Int))↔1<=c.gp.length by omega];by_cases j:c.mo=1
  .rw[ae j,ae j];by_cases d:c.gp.length=0<;>cases b<;>cases w<;>simp[d]
  .rw[az j,az j];by_cases o:c.mo=2
   .rw[ae o,ae o];by_cases d:c.gp.length=1<;>cases b<;>cases w<;>simp[d]
   .rw[az o,az o];by_cases u:c.mo=3
    .simp[u,true_or];by_cases d:1<=c.gp.length<;>cases b<;>cases w<;>simp[d]
    .by_cases x:c.mo=4
     .simp[x,or_true,show¬(4:Int)=3 by decide];by_cases d:1<=c.gp.length<;>cases b<;>cases w<;>simp[d]
     .simp only[u,x,if_false,or_false];by_cases q:c.mo=5
      .rw[ae q,ae q];by_cases d:c.gp.length=1<;>cases w<;>simp[d]
      .rw[az q,az q];cases w<;>rfl
theorem oF(hf:DV c):Ky c=some (Q1 c):=by
 unfold Ky Q1;rw[gF hf];simp[zzX];generalize OD c=b;simp[show((c.gp.length:Int)=0)↔c.gp.length=0 by omega,show((c.gp.length:Int)=1)↔c.gp.length=1 by omega,show(0<(c.gp.length:Int))↔1<=c.gp.length by omega]
 grind
theorem me{α:Type}[Inhabited α]{l:List α}{p:α->Bool}:l.all p=!ne (fun i=>!p (AA l i)) 0 l.length:=by
 rw [List.all_eq_not_any_not,HP]
theorem jB:∀(N:Nat)(c:d7),SizeOf.sizeOf c<=N->DV c->∀n,N<=n->D5 n c=some (QG N c)
 |0,c,h,_,_,_=>by have:=D7 c;omega|N+1,c,h,hf,n,o=>by
  obtain ⟨n,rfl⟩:∃m,n=m+1:=⟨n-1,by omega⟩;rw[D5,QG,oF hf,bs,me,BJ (fun i=>!QG N (AA c.gp i)) false]
  .cases Q1 c
   .rfl
   .cases ne (fun i=>!QG N (AA c.gp i)) 0 c.gp.length<;>rfl
  .intro i d f _;have j:=AJ (l:=c.gp) d f;have:=E5 j;rw[AD d f,bs,jB N _ (by omega) (hf.k _ j) n (by omega),bs,Hw]
noncomputable def jW(c:d7):Bool:=QG (SizeOf.sizeOf c) c
theorem ry(hf:DV c):E0 c=some (jW c):=EG (2*SizeOf.sizeOf c) fun n d=>nv _ c (bk _) hf n d
theorem sA(hf:DV c):M0 c=some (jW c):=EG (SizeOf.sizeOf c) fun n d=>jB _ c (bk _) hf n d
def MB:Nat->d7->Int×Int
 |0,_=>(0,0)|n+1,c=>
  let s:=c.gp.foldl (fun s k=>(Ad (s.1+(MB n k).1),max s.2 (MB n k).2)) ((1,0):Int×Int)
  (s.1,if c.mo=5 then Ad (s.2+1)else s.2)
theorem Vw{α σ:Type}[Inhabited α]{l:List α}{g:σ->α->σ}{s:σ}{f:Int->σ->Option σ}(h:∀(i:Int)s,0<=i->i<l.length->f i s=some (g s (AA l i))):pr f 0 l.length s=some (l.foldl g s):=by
 rw [Bo (fun i=>(l.take i.toNat).foldl g s) (by omega) (by simp)]
 .rw[Int.toNat_natCast,List.take_length]
 grind [CQ]
theorem cx:∀(N:Nat)(c:d7),SizeOf.sizeOf c<=N->∀n,N<=n->CA n c=some (MB N c)
 |0,c,h,_,_=>by have:=D7 c;omega|N+1,c,h,n,j=>by
  obtain ⟨n,rfl⟩:∃m,n=m+1:=⟨n-1,by omega⟩;rw[CA,MB,Vw (g:=fun s k=>(Ad (s.1+(MB N k).1),max s.2 (MB N k).2))]
  .grind
  .intro i s d f;have:=E5 (AJ (l:=c.gp) d f);rw[AD d f,bs,cx N _ (by omega) n (by omega)];rfl
theorem dP:∀(N:Nat)(c:d7),SizeOf.sizeOf c<=N->∀n,N<=n->Eg n c=some (MB N c)
 |0,c,h,_,_=>by have:=D7 c;omega|N+1,c,h,n,j=>by
  obtain ⟨n,rfl⟩:∃m,n=m+1:=⟨n-1,by omega⟩;rw[Eg,MB,Vw (g:=fun s k=>(Ad (s.1+(MB N k).1),max s.2 (MB N k).2))]
  .grind
  .intro i s d f;have:=E5 (AJ (l:=c.gp) d f);rw[AD d f,bs,dP N _ (by omega) n (by omega)];rfl
noncomputable def Wf(c:d7):Int×Int:=MB (SizeOf.sizeOf c) c
noncomputable def O1(c:d7):Int:=if jW c=false then 1 else if 12<(Wf c).1\/3<(Wf c).2 then 3 else 0
theorem kj(hf:DV c):D3 c=some (O1 c):=by
 unfold D3 O1;rw[ry hf,bs,show GE c=some (Wf c)from EG (SizeOf.sizeOf c) fun n d=>cx _ c (bk _) n d,bs]
 grind
theorem lJ(hf:DV c):Kw c=some (O1 c):=by
 unfold Kw O1;rw[sA hf,bs,show N5 c=some (Wf c)from EG (SizeOf.sizeOf c) fun n d=>dP _ c (bk _) n d,bs]
 grind
theorem UO(g:d5):Bt g≠9:=by grind[Bt]
variable{t:AC}{p:ec}
theorem X5(d:(Au t).2=0)(h:G8 t p=0\/G8 t p=9):0<=p.hT/\p.hT<=12:=by grind[UO,G8]
def R3(t:AC)(q:ec)(v:Int):Int:=if G8 t q≠9 then G8 t q else if ne (fun i=>!Jy q i) v q.hT=true then 9 else 0
variable{P:Prop}
theorem tZ{α:Type}[Decidable P]{v:α}{X:Option α}{Y:α}(h:P->X=some Y):(if(!decide P)=true then some v else X)=some (if¬P then v else Y):=by grind
theorem ru(hf:Ap t)(f:(Au t).2=0){q:ec}{v:Int}(u:0<=v)(h:v<=q.hT):DI t q v=some (R3 t q v):=by
 unfold DI R3;rw[Uh hf,bs];refine tZ fun d=>?_;have hv:=X5 f (.inr d);rw[Lp (c:=fun i=>(if(!Jy q i)=true then some ()else none).map fun _=>.inr 9) (a:=v) (b:=q.hT) h]
 .rw[OX,LY];cases ne (fun i=>!Jy q i) v q.hT<;>rfl
 .intro i w o _;rw[ae (by simpa using o),show(fun j=>G6 j i)=(fun y=>some (decide (y.j0.Var=i)))from rfl,ZI,bs,show(q.fq.any fun y=>decide (y.j0.Var=i))=Jy q i from rfl,d,Am (by omega) (by omega)];cases Jy q i<;>rfl
 .rw[az (by simp)]
theorem lG(p:ec)(v:Int):MR p v=some (Jy p v):=jE p v
theorem r6(hf:Ap t)(q:ec)(v:Int):Kx t v q=some (if q.hT<v then 20 else R3 t q v):=by
 unfold Kx R3;refine Nb (by simp) fun _=>?_;rw[Wq hf,bs];refine tZ fun d=>?_;rw[d,BJ (fun i=>!Jy q i) 9]
 .cases ne (fun i=>!Jy q i) v q.hT<;>rfl
 .intro i f h _;rw[lG,bs,Hw]
def Jk:Nat->AC->ec->d7->Int
 |0,_,_,_=>0|N+1,t,p,c=>
  if c.mo=5 then
   if c.ec.hT<p.hT then 20 else if R3 t c.ec p.hT≠0 then R3 t c.ec p.hT else
   if IP p.d5 c.ec.d5 c.Map≠0 then IP p.d5 c.ec.d5 c.Map else if JZ c.Map=false then 1 else
   (fst (fun i=>nz (Jk N t c.ec (AA c.gp i))) 0 c.gp.length).getD 0
  else (fst (fun i=>nz (Jk N t p (AA c.gp i))) 0 c.gp.length).getD 0
theorem cz(hf:Ap t)(o:(Au t).2=0):∀(N:Nat)(c:d7)(p:ec),0<=p.hT->SizeOf.sizeOf c<=N->∀n,N<=n->Bw n t p c=some (Jk N t p c)
 |0,c,p,_,h,_,_=>by have:=D7 c;omega|N+1,c,p,C,h,n,D=>by
  obtain ⟨n,rfl⟩:∃m,n=m+1:=⟨n-1,by omega⟩;rw[Bw,Jk];have j:∀q:ec,0<=q.hT->(ff (j4 (ρ:=Int) (fun(y:Int)(_:Unit)=>
    (idx c.gp y).bind fun f=>
    (Bw n t q f).bind fun d=>
    if (!decide (d=0))=true then
    some (.ret d)
    else
    some (.next ())) 0 (c.gp.length:Int) ()) (fun _=>
    some 0) (fun z=>some z))=some ((fst (fun i=>nz (Jk N t q (AA c.gp i))) 0 c.gp.length).getD 0):=by
   intro q B;rw[BV (fun i=>nz (Jk N t q (AA c.gp i))),CS];intro i u w _;have:=E5 (AJ (l:=c.gp) u w);rw[AD u w,bs,cz hf o N _ q B (by omega) n (by omega),bs,Kj]
  by_cases x:c.mo=5
  .rw[ae (by simpa using x),ae x];refine Nb (by simp) fun hv=>?_;rw[ru hf o C (by omega),bs];refine DY fun hi=>?_;rw[Wh,bs];refine DY fun A=>?_;rw[i7 A,bs]
   grind
  grind
theorem dQ(hf:Ap t):∀(N:Nat)(c:d7)(p:ec),SizeOf.sizeOf c<=N->∀n,N<=n->Ep n t p c=some (Jk N t p c)
 |0,c,p,h,_,_=>by have:=D7 c;omega|N+1,c,p,h,n,A=>by
  obtain ⟨n,rfl⟩:∃m,n=m+1:=⟨n-1,by omega⟩;rw[Ep,Jk];have d:∀q:ec,(ff (j4 (ρ:=Int) (fun(x:Int)(_:Unit)=>
    (idx c.gp x).bind fun o=>
    (Ep n t q o).bind fun f=>
    if (!decide (f=0))=true then
    some (.ret f)
    else
    some (.next ())) 0 (c.gp.length:Int) ()) (fun _=>
    some 0) (fun y=>some y))=some ((fst (fun i=>nz (Jk N t q (AA c.gp i))) 0 c.gp.length).getD 0):=by
   intro q;rw[BV (fun i=>nz (Jk N t q (AA c.gp i))),CS];intro i u w _;have:=E5 (AJ (l:=c.gp) u w);rw[AD u w,bs,dQ hf N _ q (by omega) n (by omega),bs,Kj]
  by_cases j:c.mo=5
  .rw[ae (by simpa using j),ae j,r6 hf,bs];by_cases hv:c.ec.hT<p.hT
   .simp[hv]
   .simp only[az hv];refine DY fun hi=>?_;rw[Wp,bs];refine DY fun z=>?_;rw[r0 z,bs];exact UB fun _=>d _
  .rw[az (by simpa using j),az j];exact d p
noncomputable def Lz(t:AC)(p:ec)(c:d7):Int:=if G8 t p≠0 then G8 t p else if O1 c≠0 then O1 c else Jk (SizeOf.sizeOf c) t p c
theorem cr(hf:Ap t)(d:(Au t).2=0)(p:ec)(f:DV c):Ce t p c=some (Lz t p c):=by
 unfold Ce Lz;rw[Uh hf,bs];refine DY fun h=>?_;rw[kj f,bs,Option.bind_fun_some];exact DY fun _=>EG (SizeOf.sizeOf c) fun n j=>cz hf d _ c p (X5 d (.inl h)).1 (bk _) n j
theorem dJ(hf:Ap t)(p:ec)(d:DV c):JP t p c=some (Lz t p c):=by
 unfold JP Lz;rw[Wq hf,bs];refine DY fun h=>?_;rw[lJ d,bs,Option.bind_fun_some];exact DY fun _=>EG (SizeOf.sizeOf c) fun n f=>dQ hf _ c p (bk _) n f
end Go.Sf.Sc
namespace Go.Sf.Sc
open Go Go.Sf
structure LJ(r:gt):Prop where
 name:(r.o4.size:Int)<=60
 left:Mm r.kg
 right:Mm r.fd
 hV:Pa r.x3
 into:aC r.sc
 cond:DV r.d7
noncomputable def El(t:AC)(r:gt):Int:=
 if (Au t).2≠0 then(Au t).2 else if Ee r.o4=false then 2 else if G8 t r.kg≠0 then G8 t r.kg else
 if JF t r≠0 then JF t r else if PM r≠0 then PM r else if Xk t r.fd.d5 (Iv r) (Ol r)=false then 13 else Lz t r.kg r.d7
variable{t:AC}{r:gt}
theorem Tf(h:JF t r=0):Do r.fd.d5/\Ci t r.fd.d5=true:=by grind[JF,DF]
theorem X3(hf:Ap t)(d:LJ r):GO t r=some (El t r):=by
 have q:=d.name;unfold GO El;rw[Ld hf,bs];refine DY fun j=>?_;rw[Ox (by omega),bs];refine UB fun _=>?_;rw[Uh hf,bs];refine DY fun _=>?_;rw[ki hf,bs];refine DY fun f=>?_;have ho:=Tf f;rw[nf d.hV,bs];refine DY fun o=>?_;rw[cu ho.1,bs];dsimp only;rw[rx (ei:=Iv r) (em:=Ol r) hf ho.1 ho.2 (fun x h=>Hl h) (fun x h=>Hl h),bs];refine UB fun _=>?_;rw[cr hf j _ d.cond,bs]
theorem YF(hf:Ap t)(d:LJ r):JQ t r=some (El t r):=by
 have u:=d.name;unfold JQ El;rw[Ob hf,bs];refine DY fun q=>?_;rw[Oy (by omega),bs];refine UB fun _=>?_;rw[Wq hf,bs];refine DY fun _=>?_;rw[lH hf,bs];refine DY fun f=>?_;have ho:=Tf f;rw[oN d.hV,bs,Wo,bs];simp only[Wo,bs];have e:(if(!IL r.sc.d3)=true then some true else some (!IL r.sc.d4))=some (!JZ r.sc):=by
  grind [JZ,IL]
 rw [e,bs];have o:PM r=if Sw r≠0 then Sw r else if JZ r.sc=false then 11 else 0:=by
  grind [PM,Sw,EP]
 rw [o];by_cases j:Sw r=0
 .simp only[j,ne_eq,not_true_eq_false,if_false,decide_true,Bool.not_true,Bool.false_eq_true];cases hi:JZ r.sc
  .simp
  .simp only[Bool.not_true,Bool.false_eq_true,if_false,not_true_eq_false,Bool.true_eq_false];rw[dK ho.1,bs];dsimp only;rw[r7 (ei:=Iv r) (em:=Ol r) hf ho.1 ho.2 (fun x h=>Hl h) (fun x h=>Hl h),bs];refine UB fun _=>?_;rw[dJ hf _ d.cond,bs]
 .simp[j]
def Aa2(t:AC)(l:Fp):Bool:=!(l.any fun k=>t.d3.any fun n=>decide (n.Aad=k))
structure bu(t:AC)(r:gt):Prop where
 left:Do r.kg.d5
 ltyped:Ci t r.kg.d5=true
 right:Do r.fd.d5
 AbR:Ci t r.fd.d5=true
 rtests:r.fd.pq.length=0
 part:Wx r.kg.d5 r.x3
 mor:Wb (MJ r.kg.d5 r.x3) r.fd.d5 r.sc
 inj:r.sc.d3.Nodup/\r.sc.d4.Nodup
variable{p:ec}
theorem nw(h:G8 t p=0):Do p.d5/\Ci t p.d5=true:=by grind[G8,DF]
theorem Zs(h:El t r=0):(Au t).2=0/\bu t r:=by
 unfold El at h;split at h
 .omega
 split at h
 .cases h
 split at h
 .omega
 split at h
 .omega
 split at h
 .omega
 rename_i o q u w x;have d:=nw (t:=t) (p:=r.kg) (by omega);have f:=Tf (t:=t) (r:=r) (by omega);have j:=kJ (r:=r) (by omega);have hi:IL r.sc.d3=true/\IL r.sc.d4=true:=by
  grind [JZ]
 refine ⟨by omega,d.1,d.2,f.1,f.2,?_,?_,Sh j.2.1,Om.1 hi.1,Om.1 hi.2⟩
 .grind[JF]
 grind [EP,Uk]
end Go.Sf.Sc
namespace Go.Sf
variable{a b:Int}
theorem S0{ρ:Type}{f:Int->Option (Bk Int ρ)}(p:Int->Bool)(v:ρ)(d:a<=b)(h:∀i,a<=i->i<b->f i=some (if p i=true then .ret v else .next (i+1)))(j:f b=some (.brk b)):EA f a=some (if ne p a b=true then .inr v else .inl b):=by
 rw [Lp (c:=fun i=>(if p i=true then some ()else none).map fun _=>.inr v) d]
 .grind[OX,LY,ne]
 .intro i o q _;rw[h i o q];cases p i<;>rfl
 .exact j
theorem HC{α:Type}{e:α->TV}{n:Nat}{l:List α}(h:TV.Sm (.list n (l.map e))):(l.length:Int)<=140737488351232/\∀x∈l,(e x).Sm:=by
 simp [TV.Sm]at h;refine⟨by have:=h.1;unfold reachBytes at this;omega,fun x d=>Sv.1 h.2 _ (List.mem_map.2 ⟨x,d,rfl⟩)⟩
end Go.Sf
namespace Go.Sf.Sc
open Go Go.Sf
def XD(a:kl):Bool:=(decide (40<(a.o4.size:Int))||decide (25<(a.up.length:Int)))||ne (fun i=>decide (40<((AA a.up i).size:Int))) 0 a.up.length
theorem e8{a:kl}(h:XD a=false):TH a:=by
 unfold XD at h;simp[decide_eq_false_iff_not,Bf]at h;refine⟨by omega,by omega,fun x d=>?_⟩
 grind [BW]
variable{t:AC}
theorem Rt(T:(AP t).Sm):∃b,J1 t=some b/\(b=true->Ap t):=by
 have K:TV.Sms [_,_]:=T;obtain⟨w,N⟩:=HC (e:=Eb) K.1;unfold J1;by_cases hl:20<t.d3.length\/30<t.d4.length
 .rw[ae (by simp;omega)]
  grind
 rw [az (by simp;omega)];rcases Ms (f:=(fun(A:Int)(Q:Int)=>
 (idx t.d3 A).bind fun y=>
 (if(decide (30<(Ad (Q+(y.tn.length:Int)))))=true then some true else((idx t.d3 A).bind fun E=>
 some (decide (40<(E.o4.size:Int))))).bind fun F=>
 if F=true then
 some (Bk.ret false)
 else
 ff (EA (ρ:=Bool) (fun(s2:Int)=>
 (idx t.d3 A).bind fun G=>
 if (decide (s2<(G.tn.length:Int)))=true then
 (idx t.d3 A).bind fun H=>
 (idx H.tn s2).bind fun q=>
 if ((decide (40<(q.o4.size:Int)))||(decide (25<(q.up.length:Int))))=true then
 some (.ret false)
 else
 ff (EA (ρ:=Bool) (fun(x:Int)=>
 if (decide (x<(q.up.length:Int)))=true then
 (idx q.up x).bind fun I=>
 if (decide (40<(I.size:Int)))=true then
 some (.ret false)
 else
 some (.next (Ad (x+1)))
 else
 some (.brk x)) 0) (fun x=>
 some (.next (Ad (s2+1)))) (fun U=>some (.ret U))
 else
 some (.brk s2)) 0) (fun s2=>
 some (.next (Ad (Q+(y.tn.length:Int))))) (fun V=>some (.ret V))))
  (fun i s=>0<=s/\s<=30/\∀j,0<=j->j<i->((AA t.d3 j).o4.size:Int)<=40/\(AA t.d3 j).tn.length<=30/\∀a∈(AA t.d3 j).tn,TH a) (fun _=>False) (fun r=>r=false) (a:=0) (b:=t.d3.length) (s:=0) (by omega) ⟨by omega,by omega,fun j z d=>by omega⟩ (fun i s B C W=>by
   have Z:=N _ (AJ (l:=t.d3) B C);have L:TV.Sms [_,_,_,_]:=Z;obtain⟨ha,O⟩:=HC (e:=GK) L.2.2.2.1;obtain⟨hI1,hI2,hI3⟩:=W;have hw:Ad (s+(AA t.d3 i).tn.length)=s+(AA t.d3 i).tn.length:=Am (by omega) (by omega);simp only[AD B C,bs,hw,SE];by_cases hc:30<s+(AA t.d3 i).tn.length\/40<((AA t.d3 i).o4.size:Int)
   .grind
   rw [az (by simpa using hc)];rw[S0 (fun j=>XD (AA (AA t.d3 i).tn j)) false (b:=(AA t.d3 i).tn.length) (by omega)]
   .cases S:ne (fun j=>XD (AA (AA t.d3 i).tn j)) 0 (AA t.d3 i).tn.length
    .refine .inl ⟨_,rfl,by omega,by omega,fun j J D=>?_⟩
     grind [BW,e8,Bf]
    .exact .inr (.inr ⟨_,rfl,rfl⟩)
   .intro j J D;rw[ae (by simpa using D),AD J D,bs];have hy:=O _ (AJ (l:=(AA t.d3 i).tn) J D);have M:TV.Sms [_,_,_,_]:=hy;obtain⟨hm,_⟩:=HC (e:=eS) M.2.2.2.1;unfold XD;cases z:(decide (40<((AA (AA t.d3 i).tn j).o4.size:Int))||decide (25<((AA (AA t.d3 i).tn j).up.length:Int)))
    .rw[az (by decide),S0 (fun k=>decide (40<((AA (AA (AA t.d3 i).tn j).up k).size:Int))) false (b:=(AA (AA t.d3 i).tn j).up.length) (by omega)]
     .cases ne (fun k=>decide (40<((AA (AA (AA t.d3 i).tn j).up k).size:Int))) 0 (AA (AA t.d3 i).tn j).up.length
      .rw[Bool.or_false,Am (show -9223372036854775808<=j+1 by omega) (by omega)];rfl
      .rfl
     .intro k u o;rw[ae (by simpa using o),AD u o,bs,Am (show -9223372036854775808<=k+1 by omega) (by omega),Hw]
     .rw[az (by simp)]
    .rfl
   .rw[az (by simp)])with⟨s',z,d⟩|⟨r,z,d⟩
 .rw[z];rcases d with d|d
  .rw[BT,BJ (fun i=>decide (40<((AA t.d4 i).o4.size:Int))) false]
   .cases S:ne (fun i=>decide (40<((AA t.d4 i).o4.size:Int))) 0 t.d4.length
    .refine⟨true,rfl,fun _=>⟨by omega,by omega,fun n w=>?_,fun n w=>?_,fun n w=>?_,fun e he=>?_⟩⟩
     .obtain⟨k,u,o,rfl⟩:=BW w;exact(d.2.2 k u o).1
     .obtain⟨k,u,o,rfl⟩:=BW w;exact(d.2.2 k u o).2.1
     .obtain⟨k,u,o,rfl⟩:=BW w;exact(d.2.2 k u o).2.2
     .obtain⟨k,u,o,rfl⟩:=BW he;have:=Bf.1 S k u o;simpa using this
    .exact⟨false,rfl,fun h=>by cases h⟩
   .intro i B C _;rw[AD B C,bs,Hw]
  .exact d.elim
 .rw[z];subst d;exact⟨false,rfl,fun h=>by cases h⟩
theorem P1(p:ec):∃b,Ih p=some b/\(b=true->Mm p):=by
 refine ⟨_,rfl,fun h=>?_⟩;simp[zzX]at h;exact⟨by omega,by omega,by omega,by omega⟩
variable{a b:Int}
theorem VB(h:0<=a)(d:a<=140737488351232)(j:0<=b)(f:b<=140737488351232):Ad (a+b)=a+b:=Am (by omega) (by omega)
variable{m:d6}
theorem VA(f:(Ao m).Sm):∃b,J2 m 140=some b/\(b=true->aC m):=by
 have d:TV.Sms [_,_]:=f;have j:=(HC (e:=eI) d.1).1;have o:=(HC (e:=eI) d.2.1).1;refine⟨_,rfl,fun h=>?_⟩;rw[VB (by omega) j (by omega) o]at h;simp[zzX]at h;exact⟨by omega,by omega⟩
theorem fF{m:BA}(f:(GL m).Sm):∃b,PT m 140=some b/\(b=true->Pa m):=by
 have d:TV.Sms [_,_]:=f;have j:=(HC (e:=eI) d.1).1;have o:=(HC (e:=eI) d.2.1).1;refine⟨_,rfl,fun h=>?_⟩;rw[VB (by omega) j (by omega) o]at h;simp[zzX]at h;exact⟨by omega,by omega⟩
variable{c:d7}
theorem ZK(h:(AK c).Sm):(Ao c.Map).Sm/\(c.gp.length:Int)<=140737488351232/\∀k∈c.gp,(AK k).Sm:=by
 have f:TV.Sms [_,_,_,_,_,_,_,_,_]:=h;obtain⟨_,d,j,o,_⟩:=f;rw[L4]at d;obtain⟨q,u⟩:=HC d;exact⟨⟨j,o,trivial⟩,q,u⟩
theorem XQ:∀(N:Nat)(c:d7),SizeOf.sizeOf c<=N->(AK c).Sm->∀tc:Int,0<=tc->tc<=1000->∃r,(∀n,N<=n->CW n c tc=some r)/\-1<=r/\r<=tc-1/\(0<=r->DV c)
 |0,c,h,_,_,_,_=>by have:=D7 c;omega|N+1,c,h,hs,tc,m0,m1=>by
  obtain ⟨O,Q,B⟩:=ZK hs;obtain⟨S,E,T⟩:=P1 c.ec;obtain⟨U,I,V⟩:=VA O;have step:∀n,N+1<=n->∃m,n=m+1/\N<=m:=fun n d=>⟨n-1,by omega,by omega⟩;cases S
  .refine⟨-1,fun n d=>?_,by omega,by omega,fun h=>by omega⟩;obtain⟨n,rfl,_⟩:=step n d;rw[CW,E];rfl
  cases U
  .refine⟨-1,fun n d=>?_,by omega,by omega,fun h=>by omega⟩;obtain⟨n,rfl,_⟩:=step n d;rw[CW,E,bs,I];rfl
  have loop:∀(m:Nat)(k left:Int),0<=k->k+m=c.gp.length->-1<=left->left<=1000->∃f u,(∀n,N<=n->LK (ρ:=Int) (fun(q:Int×Int)=>
    if ((decide (q.2<(c.gp.length:Int)))&&(decide (0<=q.1)))=true then
    (idx c.gp q.2).bind fun x=>
    (CW n x q.1).bind fun y=>
    some (.next (y,Ad (q.2+1)))
    else
    some (.brk (q.1,q.2))) (left,k) (.inl (f,u)))/\-1<=f/\f<=left/\(0<=f->∀j,k<=j->j<c.gp.length->DV (AA c.gp j)):=by
   intro m
   induction m with
   |zero=>
    intro k left C K D l1;refine⟨left,k,fun n d=>.brk ?_,D,by omega,fun _ j z w=>by omega⟩;rw[az (by simp;omega)]
   |succ m ih=>
    intro k left C K D l1;by_cases L:0<=left
    .have o:=AJ (l:=c.gp) C (by omega);have:=E5 o;obtain⟨r,W,Z,r3,r4⟩:=XQ N _ (by omega) (B _ o) left L l1;obtain⟨f,u,a1,F,J,G⟩:=ih (k+1) r (by omega) (by omega) Z (by omega);refine⟨f,u,fun n d=>.next (s':=(r,k+1)) ?_ (a1 n d),F,by omega,fun A j z w=>?_⟩
     .rw[ae (by simp;omega),AD C (by omega),bs,W n d,bs,Am (by omega) (by omega)]
     .by_cases M:j=k
      .subst M;exact r4 (by omega)
      .exact G A j (by omega) w
    .refine⟨left,k,fun n d=>.brk ?_,D,by omega,fun h=>by omega⟩;rw[az (by simp;omega)]
  obtain ⟨f,u,a1,F,J,G⟩:=loop c.gp.length 0 (tc-1) (by omega) (by omega) (by omega) (by omega);refine⟨f,fun n d=>?_,F,J,fun A=>.mk c (T rfl) (V rfl) (fun k B=>?_)⟩
  .obtain⟨n,rfl,H⟩:=step n d;rw[CW,E,bs,I];simp only[bs,Bool.not_true,Bool.false_eq_true,if_false];rw[Am (n:=tc-1) (by omega) (by omega),(a1 n H).eq,BT]
  .obtain⟨j,z,w,rfl⟩:=BW B;exact G A j z w
theorem fE(d:(AK c).Sm):∃b,Ii c=some b/\(b=true->DV c):=by
 obtain ⟨r,f,_,_,j⟩:=XQ (SizeOf.sizeOf c) c (bk _) d 40 (by omega) (by omega);have e:ON c 40=some r:=EG (SizeOf.sizeOf c) f;unfold Ii;rw[e];exact⟨_,rfl,fun h=>j (by simpa using h)⟩
theorem Js{b:Bool}{o:K1}{c:Bool}(h:o=some c):(if b=true then o.bind fun x=>some x else some false)=some (b&&c):=by
 subst h;cases b<;>rfl
variable{r:gt}
theorem fG(d:(B1 r).Sm):∃b,Nt r=some b/\(b=true->LJ r):=by
 have f:TV.Sms [_,_,_,_,_,_,_,_,_,_,_,_,_,_,_,_,_,_,_,_,_,_,_,_,_]:=d;obtain⟨_,_,_,_,_,_,_,_,_,_,_,j,o,q,u,_,w,x,y,c4,z,A,B,C,c9,_⟩:=f;obtain⟨N,D,E⟩:=P1 r.kg;obtain⟨O,F,G⟩:=P1 r.fd;obtain⟨Q,H,I⟩:=fF (m:=r.x3) ⟨j,o,trivial⟩;obtain⟨S,J,K⟩:=VA (m:=r.sc) ⟨q,u,trivial⟩;obtain⟨T,L,M⟩:=fE (c:=r.d7) ⟨w,x,y,c4,z,A,B,C,c9,trivial⟩;unfold Nt;rw[Js D,bs,Js F,bs,Js H,bs,Js J,bs,Js L,bs];refine⟨_,rfl,fun h=>?_⟩;simp[zzX]at h;exact⟨h.1.1.1.1.1,E h.1.1.1.1.2,G h.1.1.1.2,I h.1.1.2,K h.1.2,M h.2⟩
end Go.Sf.Sc
