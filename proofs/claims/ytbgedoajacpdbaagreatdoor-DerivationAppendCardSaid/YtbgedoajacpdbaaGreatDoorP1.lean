/- Plain lemmas: what the functions of the program and of the reference compute. -/
import Derived.Test.YtbgedoajacpdbaaGreatDoorSfRead
import Derived.Test.YtbgedoajacpdbaaGreatDoorFns
import Derived.Test.YtbgedoajacpdbaaGreatDoorSfPl
set_option linter.all false
set_option maxRecDepth 100000
namespace Go.Sf
theorem Vo{ρ τ:Type}{d:Int->Option ρ}{g:ρ->τ}:∀(n:Nat)(a:Int),Eh (fun i=>(d i).map g) n a=(Eh d n a).map g
 |0,_=>rfl|n+1,a=>by
  rw [Eh,Eh];cases d a with
  |some r=>rfl|none=>exact Vo n (a+1)
variable{a b:Int}
theorem OQ{ρ τ:Type}{d:Int->Option ρ}{g:ρ->τ}:fst (fun i=>(d i).map g) a b=(fst d a b).map g:=Vo _ _
theorem UK{ρ:Type}{d:Int->Option ρ}{r:ρ}:∀{n:Nat}{a:Int},Eh d n a=some r->∃i,a<=i/\i<a+n/\d i=some r/\∀j,a<=j->j<i->d j=none
 |0,_,h=>by cases h
 |n+1,a,h=>by
  rw [Eh]at h;cases hd:d a with
  |some w=>
   grind
  |none=>
   rw [hd]at h;obtain⟨i,f,o,q,u⟩:=UK h
   grind
theorem Cz{ρ:Type}{d:Int->Option ρ}{r:ρ}(h:fst d a b=some r):∃i,a<=i/\i<b/\d i=some r/\∀j,a<=j->j<i->d j=none:=by
 obtain ⟨i,f,o,q,u⟩:=UK h
 grind
def Kb(p:Int->Bool)(s:ByteArray):Int:=(fst (fun i=>if p (bt s i)then none else some i) 0 s.size).getD s.size
theorem ST(p:Int->Bool)(s:ByteArray):0<=Kb p s/\Kb p s<=s.size/\(∀j,0<=j->j<Kb p s->p (bt s j)=true)/\(Kb p s<s.size->p (bt s (Kb p s))=false):=by
 unfold Kb;cases h:fst (fun i=>if p (bt s i)then none else some i) 0 s.size with
 |none=>
  rw [B2]at h
  grind
 |some r=>
  grind [Cz,bt,Option.getD]
variable{s:ByteArray}
theorem YU(h:s≠⟨#[]⟩):0<s.size:=by
 rcases Nat.eq_zero_or_pos s.size with f|f
 .exfalso;apply h;cases s with|mk d=>congr 1;exact Array.eq_empty_of_size_eq_zero f
 .exact f
end Go.Sf
namespace Go.Sf.Sc
open Go Go.Sf
def FL(c:Int):Bool:=((decide (97<=c))&&(decide (c<=122)))||((decide (65<=c))&&(decide (c<=90)))
def Aao(c:Int):Bool:=(decide (48<=c))&&(decide (c<=57))
def PK(c:Int):Bool:=FL c||Aao c||decide (c=95)
theorem X3(c:Int):KB c=some (FL c):=rfl
theorem VN(c:Int):JW c=some (Aao c):=rfl
theorem YG(c:Int):Jw c=some (FL c):=rfl
theorem Zq(c:Int):Hz c=some (Aao c):=rfl
theorem nk(c:Int):MY c=some (PK c):=by
 unfold MY PK;rw[X3,bs,VN]
 grind
variable{s:ByteArray}
theorem bG(d:(s.size:Int)<=4611686018427387904){ok:Int->K1}{p:Int->Bool}(h:∀c,ok c=some (p c)):Ge s ok=some (Kb p s):=by
 unfold Ge;rw[Li (c:=fun i=>(if p (bt s i)then none else some i).map .inl) (a:=0) (b:=s.size) (by omega)]
 .rw[OQ];unfold Kb;cases fst (fun i=>if p (bt s i)=true then none else some i) 0 s.size<;>rfl
 .grind[OV,bt,ER,As]
 .simp
def Ed(s:ByteArray):Bool:=decide (0<s.size)&&FL (bt s 0)&&decide (s.size<=20)&&decide (Kb PK s=s.size)
theorem VL(l:List ByteArray)(v:ByteArray):∃k,slices_Index_string l v=some k/\(0<=k↔v∈l):=by
 unfold slices_Index_string;rw[BV (fun i=>if(v==AA l i)=true then some i else none)]
 .cases h:fst (fun i=>if(v==AA l i)=true then some i else none) 0 l.length with
  |none=>
   rw [B2]at h;refine⟨-1,rfl,by omega,fun o=>?_⟩
   grind [BW]
  |some k=>
   obtain ⟨i,d,f,q,_⟩:=Cz h;have j:(v==AA l i)=true/\i=k:=by
    grind
   obtain ⟨j,rfl⟩:=j;refine⟨i,rfl,fun _=>?_,fun _=>d⟩
   grind [AJ]
 .intro i d f _;simp only[AD d f,bs];split<;>rfl
theorem N4(l:List ByteArray)(v:ByteArray):slices_Contains_string l v=some (l.contains v):=by
 unfold slices_Contains_string;obtain⟨k,d,f⟩:=VL l v
 grind
theorem ng(z:0<s.size)(w:(s.size:Int)<=4611686018427387904):∃k n e,Hp s=some (k,n,e)/\(((decide (e=0))&&(decide (k=1)))&&(decide (n=(s.size:Int))))=Ed s:=by
 have F:=ST PK s;unfold Hp Ed;simp only[OV (Int.le_refl 0) (show(0:Int)<s.size by omega),bs,X3,VN,bG w nk,bG w VN,z,decide_true,Bool.true_and];by_cases d:FL (bt s 0)=true
 .rw[ae d];by_cases f:20<Kb PK s
  .refine⟨0,0,3,by simp[f],?_⟩;simp[d];intro E h;omega
  .refine⟨1,_,0,by rw[az (by simpa using f)],?_⟩;simp only[d,decide_true,Bool.true_and];rw[Bool.eq_iff_iff];simp only[zzX,up];omega
 .rw[az d];have j:FL (bt s 0)=false:=by simpa using d
  rw [j,Bool.false_and,Bool.false_and];by_cases hd:Aao (bt s 0)=true
  .rw[ae hd];by_cases x:9<Kb Aao s
   .exact⟨0,0,3,by simp[x],by simp⟩
   .exact⟨2,_,0,by rw[az (by simpa using x)],by simp⟩
  .rw[az hd];by_cases y:bt s 0=34
   .have A:=Wc (s:=s) (a:=1) (b:=s.size) (by omega) (by omega) (by omega);have o:∀c,KV c=some (((decide (32<=c))&&(decide (c<=126)))&&(!decide (c=34))):=fun _=>rfl;have B:=ST (fun c=>((decide (32<=c))&&(decide (c<=126)))&&(!decide (c=34))) (s.extract (1:Int).toNat (s.size:Int).toNat);have q:∃n e,Fr s=some (n,e):=by
     unfold Fr;rw[Lh (by omega) (by omega) (by omega),bs,bG (by omega) o,bs];rw[As (by omega) (by omega)];by_cases he:1+Kb (fun c=>((decide (32<=c))&&(decide (c<=126)))&&(!decide (c=34))) (s.extract (1:Int).toNat (s.size:Int).toNat)=s.size
     .refine⟨0,2,?_⟩;simp only[he,decide_true,if_true,bs]
     .simp only[he,decide_false,Bool.false_eq_true,if_false];rw[OV (by omega) (by omega)];simp only[bs];split
      .exact⟨_,_,rfl⟩
      .split
       .exact⟨_,_,rfl⟩
       .exact⟨_,_,rfl⟩
    obtain ⟨n,e,u⟩:=q;refine⟨3,n,e,by rw[ae (by simpa using y),u];rfl,by simp⟩
   .rw[az (by simpa using y)];have C:∃b,MW s=some b:=by
     unfold MW;by_cases h:2<=(s.size:Int)
     .rw[ae (by simpa using h),Lh (by omega) (by omega) h];simp only[bs,N4];exact⟨_,rfl⟩
     .rw[az (by simpa using h)];exact⟨_,rfl⟩
    obtain ⟨b,D⟩:=C;rw[D,bs];cases b
    .simp only[Bool.false_eq_true,if_false,strings_IndexByte,bs];split
     .exact⟨_,_,_,rfl,rfl⟩
     .exact⟨_,_,_,rfl,rfl⟩
    .exact⟨_,_,_,rfl,rfl⟩
theorem Ol(d:(s.size:Int)<=4611686018427387904):DD s=some (Ed s):=by
 unfold DD H6;simp only[show decide ((1:Int)=3)=false from rfl,Bool.false_eq_true,if_false,bs];by_cases he:s=⟨#[]⟩
 .subst he;rfl
 grind [ng,YU]
theorem oH(q:(s.size:Int)<=4611686018427387904)(d:Bool):∃n,Ni s 0 d=some n/\0<=n/\n<=s.size/\(d=false->n=Kb PK s):=by
 have h:=ST (fun c=>Aao c||(!d&&(FL c||decide (c=95)))) s;refine⟨Kb (fun c=>Aao c||(!d&&(FL c||decide (c=95)))) s,?_,h.1,h.2.1,fun hd=>?_⟩
 .unfold Ni;rw[Li (c:=fun i=>(if(Aao (bt s i)||(!d&&(FL (bt s i)||decide (bt s i=95))))then none else some i).map .inl) (a:=0) (b:=s.size) (by omega)]
  .rw[OQ];unfold Kb;cases fst (fun i=>if(Aao (bt s i)||(!d&&(FL (bt s i)||decide (bt s i=95))))=true then none else some i) 0 s.size<;>rfl
  .intro i o f _;have j:Af (0+i)=i:=by rw[As (by omega) (by omega)];omega
   simp only[j,f,decide_true,if_true,OV o f,bs,Zq,YG]
   grind [Aao,bt,FL,ER,As]
  .have j:Af (0+(s.size:Int))=s.size:=by rw[As (by omega) (by omega)];omega
   grind
 .subst hd;congr 1
  grind [PK,FL,Aao]
theorem gI(q:0<s.size)(u:(s.size:Int)<=4611686018427387904):∃n,Jx s 0=some n/\(n=0\/(2<=n/\n<=s.size)):=by
 unfold Jx;rw[Li (c:=fun i=>if decide (bt s i=34)=true then some (Sum.inr (i+1):Int ⊕ Int)else if(decide (bt s i<32)||decide (126<bt s i))=true then some (Sum.inr 0)else none) (a:=1) (b:=s.size) (by omega)]
 .cases h:fst (fun i=>if decide (bt s i=34)=true then some (Sum.inr (i+1):Int ⊕ Int)else if(decide (bt s i<32)||decide (126<bt s i))=true then some (Sum.inr 0)else none) 1 s.size with
  |none=>exact⟨0,rfl,.inl rfl⟩|some r=>
   obtain ⟨i,o,f,d,_⟩:=Cz h;split at d
   .cases d;exact⟨_,rfl,.inr (by omega)⟩
   .split at d
    .cases d;exact⟨_,rfl,.inl rfl⟩
    .cases d
 .intro i o f _;have j:Af (0+i)=i:=by rw[As (by omega) (by omega)];omega
  simp only[j,f,decide_true,if_true,OV (show 0<=i by omega) f,bs,As (show -9223372036854775808<=i+1 by omega) (by omega)];split
  .rfl
  .split<;>rfl
 .have j:Af (0+(s.size:Int))=s.size:=by rw[As (by omega) (by omega)];omega
  grind
theorem r8(O:0<s.size)(Q:(s.size:Int)<=4611686018427387904):∃t n e,Nh s 0=some (t,n,e)/\(((decide (e=0))&&(decide (n=(s.size:Int))))&&(decide (t.og=1)))=Ed s:=by
 obtain ⟨m,M,u,w,N⟩:=oH Q (Aao (bt s 0));unfold Nh Ed;simp only[OV (Int.le_refl 0) (show(0:Int)<s.size by omega),bs,YG,Zq,O,decide_true,Bool.true_and,M];have S:Af (0+m)=m:=by rw[As (by omega) (by omega)];omega
 by_cases F:FL (bt s 0)=true
 .have hd:Aao (bt s 0)=false:=by
   unfold FL at F;unfold Aao
   grind
  have W:=N hd;subst W;simp only[F,if_true,hd,Bool.false_eq_true,if_false,bs,S];by_cases q:20<Kb PK s
  .refine⟨_,_,_,by rw[ae (by simpa using q)],?_⟩
   grind
  .rw[az (by simpa using q),Lh (Int.le_refl _) u w];refine⟨_,_,_,rfl,?_⟩
   grind
 .have G:FL (bt s 0)=false:=by simpa using F
  simp only[G,Bool.false_eq_true,if_false,bs,Bool.false_and,S];by_cases hd:Aao (bt s 0)=true
  .simp only[hd,if_true,bs];by_cases T:9<m
   .exact⟨_,_,_,by rw[ae (by simpa using T)],by simp⟩
   .rw[az (by simpa using T),Lh (Int.le_refl _) u w];exact⟨_,_,_,rfl,by simp⟩
  .have H:Aao (bt s 0)=false:=by simpa using hd
   simp only[H,Bool.false_eq_true,if_false,bs];by_cases U:bt s 0=34
   .obtain⟨n,hn,y⟩:=gI O Q;rw[ae (by simpa using U),hn,bs];rcases y with rfl|y
    .grind
    .rw[az (by simp;omega)];split
     .grind
     .have Z:Af (0+1)=1:=by decide
      have e2:Af (0+n)=n:=by rw[As (by omega) (by omega)];omega
      rw [Z,e2,As (show -9223372036854775808<=n-1 by omega) (by omega),Lh (by omega) (by omega) (by omega)];exact⟨_,_,_,rfl,by simp⟩
   .rw[az (by simpa using U)];unfold NB;rw[bs];generalize hL:([(⟨#[45,62]⟩:ByteArray),(⟨#[60,61]⟩:ByteArray),(⟨#[62,61]⟩:ByteArray),(⟨#[61,61]⟩:ByteArray),(⟨#[33,61]⟩:ByteArray),(⟨#[123]⟩:ByteArray),(⟨#[125]⟩:ByteArray),(⟨#[40]⟩:ByteArray),(⟨#[41]⟩:ByteArray),(⟨#[91]⟩:ByteArray),(⟨#[93]⟩:ByteArray),(⟨#[44]⟩:ByteArray),(⟨#[59]⟩:ByteArray),(⟨#[58]⟩:ByteArray),(⟨#[61]⟩:ByteArray),(⟨#[43]⟩:ByteArray),(⟨#[45]⟩:ByteArray),(⟨#[42]⟩:ByteArray),(⟨#[60]⟩:ByteArray),(⟨#[62]⟩:ByteArray),(⟨#[33]⟩:ByteArray),(⟨#[38]⟩:ByteArray),(⟨#[124]⟩:ByteArray),(⟨#[46]⟩:ByteArray),(⟨#[63]⟩:ByteArray)]:List ByteArray)=L;have I:∀x∈L,x.size<=2:=by subst hL;decide
    rcases Q0 (f:=(fun(h:Int)(V:EK)=>
      (idx L h).bind fun A=>
      (if(decide ((Af (0+(A.size:Int)))<=(s.size:Int)))=true then((idx L h).bind fun B=>
      (AaJ s 0 (Af (0+(B.size:Int)))).bind fun C=>
      (idx L h).bind fun D=>
      some (C==D))else some false).bind fun E=>
      if E=true then
      (idx L h).bind fun j=>
      (idx L h).bind fun o=>
      some (Bp.ret (EK.mk 4 j 0,(o.size:Int),(0:Int)))
      else
      some (Bp.next V))) (fun _ s=>True) (fun _=>True) (fun r=>r.1.og=4) (a:=0) (b:=L.length) (s:=EK.mk 0 (⟨#[]⟩:ByteArray) 0) (by omega) trivial (fun i t d z _=>by
      have hx:=I _ (AJ d z);have J:Af (0+((AA L i).size:Int))=(AA L i).size:=by rw[As (by omega) (by omega)];omega
      simp only[AD d z,bs,J];by_cases K:((AA L i).size:Int)<=s.size
      .rw[ae (by simpa using K),Lh (by omega) (by omega) K];simp only[bs];split
       .exact .inr (.inr ⟨_,rfl,rfl⟩)
       .exact .inl ⟨_,rfl,trivial⟩
      .rw[az (by simpa using K)];simp only[bs];exact .inl ⟨_,rfl,trivial⟩)with⟨s',d,_⟩|⟨r,d,z⟩
    .rw[d];exact⟨_,_,_,rfl,by simp⟩
    .rw[d];exact⟨_,_,_,rfl,by simp[z]⟩
theorem Om(d:(s.size:Int)<=4611686018427387904):Ey s=some (Ed s):=by
 unfold Ey NA OF;simp only[show decide ((1:Int)=3)=false from rfl,Bool.false_eq_true,if_false,bs];by_cases he:s=⟨#[]⟩
 .subst he;rfl
 grind [r8,YU]
end Go.Sf.Sc
namespace Go.Sf
variable{ρ β:Type}
def nz(e:Int):QQ:=if e=0 then none else some e
theorem Kh(e:Int):(if(!decide (e=0))=true then some (Bp.ret e)else some (Bp.next ()))=some (Pa (nz e)):=by grind[nz,Pa]
theorem mr(b:Bool)(r:ρ):(if b=true then some (Bp.ret r)else some (Bp.next ()))=some (Pa (if b=true then some r else none)):=by
 cases b<;>rfl
variable{kr:ρ->Option β}
theorem Bh{σ:Type}{s:σ}{k:σ->Option β}:gn (some (.inl s)) k kr=k s:=rfl
theorem PV{σ:Type}{r:ρ}{k:σ->Option β}:gn (some (.inr r)) k kr=kr r:=rfl
theorem Dk(o:Option ρ)(k:Unit->Option β)(kr:ρ->Option β):gn (some (io o)) k kr=match o with|none=>k ()|some r=>kr r:=by
 cases o<;>rfl
theorem CW(o:QQ):gn (some (io o)) (fun _=>some 0) (fun v=>some v)=some (o.getD 0):=by
 cases o<;>rfl
variable{a b:Int}
theorem UL{c:Int->Int}(h:(fst (fun i=>nz (c i)) a b).getD 0=0):∀i,a<=i->i<b->c i=0:=by
 have:fst (fun i=>nz (c i)) a b=none:=by
  cases hf:fst (fun i=>nz (c i)) a b with
  |none=>rfl|some r=>
   grind [Option.getD,Cz,nz]
 grind [B2,nz]
variable{e:Int}
theorem JL:nz e=none↔e=0:=by grind[nz]
theorem TU{α:Type}[Inhabited α]{l:List α}{f:α->K1}{p:α->Bool}(h:∀x∈l,f x=some (p x)):
  (gn (kl (ρ:=Int) (fun(o:Int)(_:Unit)=>(idx l o).bind fun d=>(f d).bind fun j=>if j=true then some (.ret o)else some (.next ())) 0 (l.length:Int) ()) (fun _=>some (-1)) (fun w=>some w))=
   some ((fst (fun i=>if p (AA l i)=true then some i else none) 0 l.length).getD (-1)):=by
 rw [BV (fun i=>if p (AA l i)=true then some i else none)]
 .rw[Dk];cases fst (fun i=>if p (AA l i)=true then some i else none) 0 l.length<;>rfl
 .intro i q u _;rw[AD q u,bs,h _ (AJ q u),bs,mr]
theorem Vv{α:Type}[Inhabited α]{l:List α}{p:α->Bool}:decide (0<=(fst (fun i=>if p (AA l i)=true then some i else none) 0 l.length).getD (-1))=l.any p:=by
 rw [HN,o4];cases h:fst (fun i=>if p (AA l i)=true then some i else none) 0 l.length with
 |none=>
  grind [B2,Option.isSome,Option.isSome_eq_false_iff,Option.isNone_iff_eq_none,AA]
 |some k=>
  grind [Cz,AA,Option.getD,Option.isSome,Option.isSome_iff_ne_none,B2]
theorem Ej{α:Type}[Inhabited α]{l:List α}{f:α->K1}{p:α->Bool}(h:∀x∈l,f x=some (p x)):
  ((gn (kl (ρ:=Int) (fun(o:Int)(_:Unit)=>(idx l o).bind fun d=>(f d).bind fun j=>if j=true then some (.ret o)else some (.next ())) 0 (l.length:Int) ()) (fun _=>some (-1)) (fun q=>some q)).bind fun u=>some (decide (0<=u)))=some (l.any p):=by
 rw [TU h,bs,Vv]
end Go.Sf
namespace Go.Sf.Sc
open Go Go.Sf
instance:Inhabited mo:=⟨⟨⟨#[]⟩,0,0,[]⟩⟩
instance:Inhabited B1:=⟨⟨⟨#[]⟩,0,false,[]⟩⟩
instance:Inhabited CB:=⟨⟨⟨#[]⟩,0,0,0,0,0,0⟩⟩
instance:Inhabited Bl:=⟨⟨0,0,0⟩⟩
instance:Inhabited CX:=⟨⟨0,0,⟨0,0⟩⟩⟩
instance:Inhabited Test:=⟨⟨0,⟨0,0⟩,⟨0,0⟩⟩⟩
instance:Inhabited d7:=⟨⟨0,[],⟨[],[]⟩,⟨⟨[],[]⟩,[],0,[]⟩⟩⟩
variable{l:Fp}
theorem Rt{f:Int->K1}{p:Int->Bool}(h:∀x∈l,f x=some (p x)):Ak l f=some (l.any p):=Ej h
theorem ZH{l:List Bl}{f:Bl->K1}{p:Bl->Bool}(h:∀x∈l,f x=some (p x)):BM l f=some (l.any p):=Ej h
theorem XF{l:List d7}{f:d7->K1}{p:d7->Bool}(h:∀x∈l,f x=some (p x)):Bg l f=some (l.any p):=Ej h
theorem Yl{l:List B1}{p:B1->Bool}:B7 l (fun x=>some (p x))=some (l.any p):=Ej (fun _ _=>rfl)
theorem Yk{l:List CB}{p:CB->Bool}:B6 l (fun x=>some (p x))=some (l.any p):=Ej (fun _ _=>rfl)
theorem jy{l:List mo}{p:mo->Bool}:CS l (fun x=>some (p x))=some (l.any p):=Ej (fun _ _=>rfl)
theorem XG{p:Int->Bool}:Ak l (fun x=>some (p x))=some (l.any p):=Ej (fun _ _=>rfl)
theorem ZI{l:List Bl}{p:Bl->Bool}:BM l (fun x=>some (p x))=some (l.any p):=Ej (fun _ _=>rfl)
theorem ZJ{l:List CX}{p:CX->Bool}:CE l (fun x=>some (p x))=some (l.any p):=Ej (fun _ _=>rfl)
theorem nD(l:Fp)(v:Int):slices_Index_int l v=some ((fst (fun i=>if decide (v=AA l i)=true then some i else none) 0 l.length).getD (-1)):=by
 have:=TU (l:=l) (f:=fun x=>some (decide (v=x))) (p:=fun x=>decide (v=x)) (fun _ _=>rfl);unfold slices_Index_int
 grind
theorem Kd(l:Fp)(v:Int):slices_Contains_int l v=some (l.any fun x=>decide (v=x)):=by grind[slices_Contains_int,nD,Vv]
theorem j5(l:a6)(v:Bool):E2 l v=some (l.any fun x=>v==x):=by
 have:=Ej (l:=l) (f:=fun x=>some (v==x)) (p:=fun x=>v==x) (fun _ _=>rfl);unfold E2 IF
 grind
structure TK(a:mo):Prop where
 name:(a.po.size:Int)<=40
 names:a.wi.length<=25
 each:∀x∈a.wi,(x.size:Int)<=40
structure At(t:AC):Prop where
 ei:t.d3.length<=20
 em:t.d5.length<=30
 name:∀n∈t.d3,(n.po.size:Int)<=40
 Ab2:∀n∈t.d3,n.x3.length<=30
 each:∀n∈t.d3,∀a∈n.x3,TK a
 ename:∀e∈t.d5,(e.po.size:Int)<=40
def par(t:AC)(i:Int):Int:=(AA t.d3 i).Aad
def Es(t:AC)(k:Int):Prop:=∀i,0<=i->i<k->-1<=par t i/\par t i<i
def Bz(t:AC):Nat->Int->List mo
 |0,_=>[]|n+1,a=>if a<0 then[]else Bz t n (par t a)++(AA t.d3 a).x3
def Ay(t:AC)(a:Int):List mo:=Bz t (a+1).toNat a
variable{t:AC}{a:Int}
theorem Iv{n:Nat}(h:a<0):Bz t n a=[]:=by
 cases n with
 |zero=>rfl|succ n=>rw[Bz,ae h]
variable{k:Int}
theorem LU(d:Es t k):∀(n m:Nat)(a:Int),a<k->a<n->a<m->Bz t n a=Bz t m a
 |n,m,a,h,j,o=>by
  by_cases f:a<0
  .grind[Iv]
  .cases n with
   |zero=>omega|succ n=>
    cases m with
    |zero=>omega|succ m=>
     rw [Bz,Bz,az f,az f];have:=d a (by omega) h;rw[LU d n m (par t a) (by omega) (by omega) (by omega)]
theorem Ln(hf:At t)(f:k<=t.d3.length)(d:Es t k):∀(n:Nat)(a:Int),a<k->((Bz t n a).length:Int)<=30*n
 |0,_,_=>by simp[Bz]|n+1,a,h=>by
  rw [Bz];split
  .simp;omega
  .rename_i j;have o:=d a (by omega) h;have q:=Ln hf f d n (par t a) (by omega);have u:=hf.Ab2 _ (AJ (l:=t.d3) (show 0<=a by omega) (by omega))
   grind
theorem T4(hf:At t)(h:k<=t.d3.length)(f:Es t k):∀(n:Nat)(a:Int),a<k->∀x∈Bz t n a,TK x
 |0,_,_=>by simp[Bz]|n+1,a,j=>by
  rw [Bz];split
  .simp
  .rename_i o;have q:=f a (by omega) j;intro x d;rcases List.mem_append.1 d with d|d
   .exact T4 hf h f n (par t a) (by omega) x d
   .exact hf.each _ (AJ (l:=t.d3) (show 0<=a by omega) (by omega)) x d
theorem GL(hf:At t)(d:k<=t.d3.length)(f:Es t k)(h:a<k):(Ay t a).length<=600:=by
 have:=Ln hf d f (a+1).toNat a h;have:=hf.ei;unfold Ay;omega
theorem Lo(hf:At t)(d:k<=t.d3.length)(f:Es t k)(h:a<k):∀x∈Ay t a,TK x:=T4 hf d f _ a h
theorem Xz(hf:At t)(j:k<=t.d3.length)(h:Es t k):∀(n:Nat)(a:Int),0<=a->a<k->a<n->C3 n t a=some (Bz t n a)
 |0,_,_,_,_=>by omega|n+1,a,q,z,D=>by
  have A:=h a (by omega) z;have u:=Ln hf j h n (par t a) (by omega);have B:=hf.Ab2 _ (AJ (l:=t.d3) q (by omega));have C:=hf.ei;rw[C3,Bz,az (by omega),AD q (by omega)];simp only[bs];show((if decide (0<=par t a)=true then(C3 n t (par t a)).bind fun f=>some f else some []).bind _)=_;have e:(if decide (0<=par t a)=true then(C3 n t (par t a)).bind fun f=>some f else some [])=some (Bz t n (par t a)):=by
   by_cases o:0<=par t a
   .rw[ae (by simpa using o),Xz hf j h n (par t a) o (by omega) (by omega)];rfl
   .rw[az (by simpa using o),Iv (by omega)]
  have w:(Bz t n (par t a)).length+(AA t.d3 a).x3.length<=Ad:=by
   unfold Ad;have:((Bz t n (par t a)).length:Int)<=30*n:=u;have x:Bz t n (par t a)=Bz t 20 (par t a):=by
    by_cases d:par t a<0
    .rw[Iv d,Iv d]
    .exact LU h n 20 (par t a) (by omega) (by omega) (by omega)
   have y:=Ln hf j h 20 (par t a) (by omega);rw[<-x]at y;omega
  rw [e,bs,Ae w];rfl
theorem Zh(hf:At t)(d:k<=t.d3.length)(f:Es t k)(h:0<=a)(j:a<k):JX t a=some (Ay t a):=
 EG (a+1).toNat fun n o=>by
  grind [Xz,Ay,LU]
theorem X9(hf:At t)(h:k<=t.d3.length)(f:Es t k):∀(n:Nat)(a:Int),-1<=a->a<k->a+1<n->Fg n t a=some (Bz t n a)
 |0,_,_,_,_=>by omega|n+1,a,z,u,A=>by
  rw [Fg,Bz];by_cases d:a<0
  .grind
  .have w:=f a (by omega) u;have x:=hf.Ab2 _ (AJ (l:=t.d3) (show 0<=a by omega) (by omega));have y:=hf.ei;rw[az (by simpa using d),az d,AD (by omega) (by omega)];simp only[bs];have j:Bz t n (par t a)=Bz t 20 (par t a):=by
    by_cases d:par t a<0
    .rw[Iv d,Iv d]
    .exact LU f n 20 (par t a) (by omega) (by omega) (by omega)
   have o:=Ln hf h f 20 (par t a) (by omega);rw[<-j]at o;have q:(Bz t n (par t a)).length+(AA t.d3 a).x3.length<=Ad:=by unfold Ad;omega
   rw [show(AA t.d3 a).Aad=par t a from rfl,X9 hf h f n (par t a) (by omega) (by omega) (by omega),bs,Ae (by simp;unfold Ad;omega)];simp only[bs,List.nil_append];rw[Ae q];rfl
theorem Zp(hf:At t)(d:k<=t.d3.length)(f:Es t k)(h:0<=a)(j:a<k):NC t a=some (Ay t a):=
 EG (a+2).toNat fun n o=>by
  grind [X9,Ay,LU]
end Go.Sf.Sc
namespace Go.Sf.Sc
open Go Go.Sf
def Ju(l:List ByteArray):Int:=
 if (20:Int)<l.length then 3 else(fst (fun i=>if Ed (AA l i)=false then some 2 else if o4 (fun j=>AA l j==AA l i) 0 i=true then some 5 else none) 0 l.length).getD 0
variable{b:Int}
theorem XK{l:List ByteArray}{x:ByteArray}(d:0<=b)(f:b<=l.length):(l.take b.toNat).contains x=o4 (fun j=>AA l j==x) 0 b:=by
 rw [List.contains_eq_any_beq,Od d f]
 grind
theorem ki{l:List ByteArray}(o:∀x∈l,(x.size:Int)<=40):Gg l=some (Ju l):=by
 unfold Gg Ju;by_cases d:(20:Int)<l.length
 .grind
 .rw[az (by simpa using d),az d];rw[BV (fun i=>if Ed (AA l i)=false then some 2 else if o4 (fun j=>AA l j==AA l i) 0 i=true then some 5 else none),CW];intro i f h _;have q:=o _ (AJ f h);rw[AD f h,bs,Ol (by omega),bs,LP f (by omega)];simp only[bs,N4,XK f (show i<=l.length by omega)];cases Ed (AA l i)<;>cases o4 (fun j=>AA l j==AA l i) 0 i<;>rfl
theorem lH{l:List ByteArray}(o:∀x∈l,(x.size:Int)<=40):Kn l=some (Ju l):=by
 unfold Kn Ju;by_cases d:(20:Int)<l.length
 .grind
 .rw[az (by simpa using d),az d];rw[BV (fun i=>if Ed (AA l i)=false then some 2 else if o4 (fun j=>AA l j==AA l i) 0 i=true then some 5 else none),CW];intro i f h _;have q:=o _ (AJ f h);rw[AD f h,bs,Om (by omega),bs,BL (fun j=>AA l j==AA l i) 5]
  .cases Ed (AA l i)<;>cases o4 (fun j=>AA l j==AA l i) 0 i<;>rfl
  grind [AD]
def M4(all:List mo)(k:Int):Int:=
 let x:=AA all k
 if Ed x.po=false then 2 else if o4 (fun j=>(AA all j).po==x.po) 0 k=true then 5 else
 if x.wi.length=0 then(if -1000000<=x.Low/\x.Low<=x.AaD/\x.AaD<=1000000 then 0 else 6)else
 if Ju x.wi≠0 then Ju x.wi else if x.Low=0/\x.AaD=x.wi.length-1 then 0 else 6
variable{k:Int}
theorem Yy{d:List mo}(q:∀x∈d,TK x)(o:0<=k)(u:k<d.length):D9 (AA d k) (d.take k.toNat)=some (M4 d k):=by
 have j:=q _ (AJ o u);have A:=j.name;unfold D9 M4;dsimp only;rw[Ol (by omega),bs,show(fun f=>IG f (AA d k))=(fun f=>some (f.po==(AA d k).po))from rfl,jy,bs,Od o (by omega),ki j.each,bs];have w:=j.names;have y:Af ((AA d k).wi.length-1)=(AA d k).wi.length-1:=As (by omega) (by omega);rw[y];have z:(AA d k).wi.length=0->Ju (AA d k).wi=0:=fun h=>by rw[List.eq_nil_of_length_eq_zero h];rfl
 generalize Ju (AA d k).wi=e at z|-;simp only[bs,zzX,Bool.or_eq_true,up,Bool.not_eq_true',decide_eq_false_iff_not,Bool.not_eq_false',Bool.or_eq_false_iff,Bool.and_eq_false_iff,ne_eq]
 repeat' (first|rfl|(exfalso;omega;done)|split)
 all_goals (first|rfl|(exfalso;omega)|omega|simp_all|(simp_all;omega))
theorem Y0{x:mo}(d:TK x):Hc x=some (
 if x.wi.length=0 then(if -1000000<=x.Low/\x.Low<=x.AaD/\x.AaD<=1000000 then 0 else 6)else
 if Ju x.wi≠0 then Ju x.wi else if x.Low=0/\x.AaD=x.wi.length-1 then 0 else 6):=by
 have f:=d.names;have h:Af (x.wi.length-1)=x.wi.length-1:=As (by omega) (by omega);unfold Hc DN;simp only[bs,h,lH d.each];generalize Ju x.wi=e;simp only[bs,zzX,Bool.or_eq_true,up,Bool.not_eq_true',decide_eq_false_iff_not,Bool.not_eq_false',Bool.or_eq_false_iff,Bool.and_eq_false_iff,ne_eq]
 repeat' (first|rfl|(exfalso;omega;done)|split)
 all_goals (first|rfl|(exfalso;omega)|omega|simp_all|(simp_all;omega))
def IE(t:AC)(i:Int):Int:=
 let n:=AA t.d3 i
 if Ed n.po=false then 2 else if o4 (fun j=>(AA t.d3 j).po==n.po) 0 i=true then 5 else
 if n.Aad< -1\/i<=n.Aad then 6 else if 4<n.x3.length\/8<(Ay t i).length then 3 else
 (fst (fun k=>nz (M4 (Ay t i) k)) ((Ay t i).length-n.x3.length) (Ay t i).length).getD 0
variable{t:AC}{i:Int}
theorem T7(d:0<=i):(AA t.d3 i).x3.length<=(Ay t i).length:=by
 unfold Ay;rw[show(i+1).toNat=i.toNat+1 by omega,Bz,az (by omega),cE];omega
theorem Es.next(h:Es t i)(f:-1<=par t i)(o:par t i<i):Es t (i+1):=by
 intro j d q;by_cases u:j=i
 .grind
 .exact h j d (by omega)
theorem ni(hf:At t)(f:0<=i)(w:i<t.d3.length)(A:Es t i):Hr t i=some (IE t i):=by
 have C:=hf.name _ (AJ f w);unfold Hr IE;dsimp only;rw[AD f w,bs,Ol (by omega),bs,LP f (by omega),bs,show(fun q=>Ma q (AA t.d3 i))=(fun q=>some (q.po==(AA t.d3 i).po))from rfl,Yl,bs,Od f (by omega)];cases Ed (AA t.d3 i).po
 .rfl
 .cases o4 (fun j=>(AA t.d3 j).po==(AA t.d3 i).po) 0 i
  .by_cases h:(AA t.d3 i).Aad< -1\/i<=(AA t.d3 i).Aad
   .rcases h with h|h<;>simp[h]
   .have d:Es t (i+1):=A.next (by unfold par;omega) (by unfold par;omega)
    have u:(decide ((AA t.d3 i).Aad< -1)||decide (i<=(AA t.d3 i).Aad))=false:=by
     rw [Bool.eq_false_iff];simpa using h
    rw [Zh hf (k:=i+1) (by omega) d f (by omega),bs];have y:=GL hf (k:=i+1) (a:=i) (by omega) d (by omega);have z:=T7 (t:=t) f;have o:=Lo hf (k:=i+1) (a:=i) (by omega) d (by omega);rw[As (by omega) (by omega),BV (fun k=>nz (M4 (Ay t i) k)),CW]
    .simp only[u,h,Bool.not_true,Bool.false_eq_true,if_false];simp only[bs,zzX,Bool.or_eq_true,up,Bool.not_eq_true',decide_eq_false_iff_not,Bool.not_eq_false',Bool.or_eq_false_iff,Bool.and_eq_false_iff,ne_eq]
     repeat' (first|rfl|(exfalso;omega;done)|split)
     all_goals (first|rfl|(exfalso;omega)|omega|simp_all|(simp_all;omega))
    .intro k B x _;rw[AD (by omega) x,bs,LP (by omega) (by omega),bs,Yy o (by omega) x,bs,Kh]
  .rfl
theorem oG(hf:At t)(h:0<=i)(q:i<t.d3.length)(A:Es t i):MG t i=some (IE t i):=by
 have E:=hf.name _ (AJ h q);have F:=hf.ei;unfold MG IE DN;dsimp only;rw[AD h q,bs,Om (by omega),bs,BL (fun j=>(AA t.d3 j).po==(AA t.d3 i).po) 5]
 .cases Ed (AA t.d3 i).po
  .rfl
  .cases o4 (fun j=>(AA t.d3 j).po==(AA t.d3 i).po) 0 i
   .simp only[Bool.not_true,Bool.false_eq_true,if_false,Bh,bs];rw[As (by omega) (by omega)];by_cases w:(AA t.d3 i).Aad< -1\/i<=(AA t.d3 i).Aad
    .rw[ae,az (by decide),ae w];simp;omega
    .have d:Es t (i+1):=A.next (by unfold par;omega) (by unfold par;omega)
     rw [az (by simp;omega),az (by decide),az w];rw[Zp hf (k:=i+1) (by omega) d h (by omega),bs];have x:=GL hf (k:=i+1) (a:=i) (by omega) d (by omega);have y:=T7 (t:=t) h;have f:=Lo hf (k:=i+1) (a:=i) (by omega) d (by omega);rw[As (by omega) (by omega)];rw[BV (fun k=>nz (M4 (Ay t i) k)),CW]
     .simp only[bs,zzX,Bool.or_eq_true,up,Bool.not_eq_true',decide_eq_false_iff_not,Bool.not_eq_false',Bool.or_eq_false_iff,Bool.and_eq_false_iff,ne_eq]
      repeat' (first|rfl|(exfalso;omega;done)|split)
      all_goals (first|rfl|(exfalso;omega)|omega|simp_all|(simp_all;omega))
     .intro k u o _;have z:=f _ (AJ (show 0<=k by omega) o);have C:=z.name;simp only[AD (show 0<=k by omega) o,bs];rw[Om (by omega),bs,BL (fun j=>(AA (Ay t i) j).po==(AA (Ay t i) k).po) 5]
      .rw[Y0 z];simp only[bs,Kh];unfold M4;dsimp only;cases Ed (AA (Ay t i) k).po
       .rfl
       .cases o4 (fun j=>(AA (Ay t i) j).po==(AA (Ay t i) k).po) 0 k<;>rfl
      .intro j B D _;rw[AD B (by omega),bs];split<;>rfl
   .rfl
 .intro j u o _;rw[AD u (by omega),bs];split<;>rfl
def Lp(low high:Int):Bool:=((decide (0<=low))&&(decide (low<=40)))&&((decide (high=(-1)))||((decide (low<=high))&&(decide (high<=40))))
theorem k8(low high:Int):JN low high=some (Lp low high):=by
 unfold JN Lp DN
 grind
def KF(t:AC)(i:Int):Int:=
 let x:=AA t.d5 i
 if Ed x.po=false then 2 else if o4 (fun j=>(AA t.d5 j).po==x.po) 0 i=true then 5 else
 if (0<=x.ns/\x.ns<t.d3.length)/\(0<=x.To/\x.To<t.d3.length)/\Lp x.Abf x.AaZ=true/\Lp x.AbB x.Abj=true then 0 else 6
theorem nX(hf:At t)(d:0<=i)(h:i<t.d5.length):Hq t i=some (KF t i):=by
 have o:=hf.ename _ (AJ d h);unfold Hq KF KC;dsimp only;rw[AD d h,bs,Ol (by omega),bs,LP d (by omega),bs,show(fun f=>MZ f (AA t.d5 i))=(fun f=>some (f.po==(AA t.d5 i).po))from rfl,Yk,bs,Od d (by omega)];simp[show∀a b,JH a b=some (Lp a b)from fun _ _=>rfl];generalize Ed (AA t.d5 i).po=b1;generalize o4 (fun j=>(AA t.d5 j).po==(AA t.d5 i).po) 0 i=b2;generalize Lp (AA t.d5 i).Abf (AA t.d5 i).AaZ=b3;generalize Lp (AA t.d5 i).AbB (AA t.d5 i).Abj=b4;cases b1
 .rfl
 grind
theorem n9(hf:At t)(o:0<=i)(q:i<t.d5.length):MF t i=some (KF t i):=by
 have w:=hf.ename _ (AJ o q);have x:=hf.ei;unfold MF KF DN;dsimp only;rw[AD o q,bs,Om (by omega),bs,BL (fun j=>(AA t.d5 j).po==(AA t.d5 i).po) 5]
 .simp only[As (show -9223372036854775808<=(t.d3.length:Int)-1 by omega) (by omega),k8,bs];generalize Ed (AA t.d5 i).po=b1;generalize o4 (fun j=>(AA t.d5 j).po==(AA t.d5 i).po) 0 i=b2;generalize Lp (AA t.d5 i).Abf (AA t.d5 i).AaZ=b3;generalize Lp (AA t.d5 i).AbB (AA t.d5 i).Abj=b4;cases b1
  .rfl
  .cases b2
   .cases b3<;>cases b4
    all_goals
     by_cases f:0<=(AA t.d5 i).ns/\(AA t.d5 i).ns<t.d3.length
     .have d:(AA t.d5 i).ns<=(t.d3.length:Int)-1:=by omega
      by_cases u:0<=(AA t.d5 i).To/\(AA t.d5 i).To<t.d3.length
      .have h:(AA t.d5 i).To<=(t.d3.length:Int)-1:=by omega
       simp [f,u,d,h,Bh]
      .have:(decide (0<=(AA t.d5 i).To)&&decide ((AA t.d5 i).To<=(t.d3.length:Int)-1))=false:=by rw[Bool.eq_false_iff];simp;omega
       simp [f,u,d,this,Bh]
     .have:(decide (0<=(AA t.d5 i).ns)&&decide ((AA t.d5 i).ns<=(t.d3.length:Int)-1))=false:=by rw[Bool.eq_false_iff];simp;omega
      simp [f,this,Bh]
   .rfl
 grind [AD]
def Ax(t:AC):ByteArray×Int:=
 if t.d3.length=0 then(⟨#[]⟩,7)else if 12<t.d3.length\/20<t.d5.length then(⟨#[]⟩,3)else
 match fst (fun i=>(nz (IE t i)).map fun e=>((AA t.d3 i).po,e)) 0 t.d3.length with
 |some r=>r|none=>(fst (fun i=>(nz (KF t i)).map fun e=>((AA t.d5 i).po,e)) 0 t.d5.length).getD (⟨#[]⟩,0)
theorem cp(h:IE t i=0):-1<=par t i/\par t i<i:=by grind[IE,par,AA]
theorem LN{α β:Type}{o:Option α}{g:α->β}:o.map g=none↔o=none:=by cases o<;>simp
theorem TZ(h:∀j,0<=j->j<i->IE t j=0):Es t i:=fun j d f=>cp (h j d f)
theorem Sp{ρ:Type}(e:Int)(n:ByteArray):(if(!decide (e=0))=true then some (Bp.ret (n,e))else some (Bp.next ()))=some (Pa ((nz e).map fun e=>(n,e))):=by grind[nz,Pa]
theorem Mt(hf:At t):C5 t=some (Ax t):=by
 unfold C5 Ax;rw[BV (fun i=>(nz (IE t i)).map fun e=>((AA t.d3 i).po,e)),Dk]
 .rw[BV (fun i=>(nz (KF t i)).map fun e=>((AA t.d5 i).po,e)),Dk]
  .cases fst (fun i=>(nz (IE t i)).map fun e=>((AA t.d3 i).po,e)) 0 t.d3.length<;>cases fst (fun i=>(nz (KF t i)).map fun e=>((AA t.d5 i).po,e)) 0 t.d5.length
   all_goals dsimp only
   all_goals try simp only[Option.getD]
   all_goals
    simp only[bs,zzX,Bool.or_eq_true,up,Bool.not_eq_true',decide_eq_false_iff_not,Bool.not_eq_false',Bool.or_eq_false_iff,Bool.and_eq_false_iff,ne_eq]
    repeat' (first|rfl|(exfalso;omega;done)|split)
    all_goals (first|rfl|(exfalso;omega)|omega|simp_all|(simp_all;omega))
  .intro i d f _;rw[AD d f,bs,nX hf d f,bs];exact Sp (ρ:=Unit) _ _
 .intro i d f q;have u:Es t i:=TZ fun j h o=>JL.1 (LN.1 (q j h o));rw[AD d f,bs,ni hf d f u,bs];exact Sp (ρ:=Unit) _ _
theorem OU(hf:At t):Ek t=some (Ax t):=by
 unfold Ek Ax;rw[BV (fun i=>(nz (IE t i)).map fun e=>((AA t.d3 i).po,e)),Dk]
 .rw[BV (fun i=>(nz (KF t i)).map fun e=>((AA t.d5 i).po,e)),Dk]
  .cases fst (fun i=>(nz (IE t i)).map fun e=>((AA t.d3 i).po,e)) 0 t.d3.length<;>cases fst (fun i=>(nz (KF t i)).map fun e=>((AA t.d5 i).po,e)) 0 t.d5.length
   all_goals dsimp only
   all_goals try simp only[Option.getD]
   all_goals
    simp only[bs,zzX,Bool.or_eq_true,up,Bool.not_eq_true',decide_eq_false_iff_not,Bool.not_eq_false',Bool.or_eq_false_iff,Bool.and_eq_false_iff,ne_eq]
    repeat' (first|rfl|(exfalso;omega;done)|split)
    all_goals (first|rfl|(exfalso;omega)|omega|simp_all|(simp_all;omega))
  .intro i d f _;simp only[n9 hf d f,AD d f,bs];exact Sp (ρ:=Unit) _ _
 .intro i d f q;have u:Es t i:=TZ fun j h o=>JL.1 (LN.1 (q j h o));simp only[oG hf d f u,AD d f,bs];exact Sp (ρ:=Unit) _ _
end Go.Sf.Sc
namespace Go.Sf.Sc
open Go Go.Sf
theorem Hx{α:Type}{c:Bool}{a b:α}:(if c=true then some a else some b)=some (if c=true then a else b):=by cases c<;>rfl
def M5(n:Int):Bool:=(decide (0<=n))&&(decide (n<=99))
def R2(e:Bl)(n:Int):Bool:=M5 e.ne&&(decide (0<=e.ns)&&decide (e.ns<n))&&(decide (0<=e.To)&&decide (e.To<n))
def Bk(g:d4):Int:=
 if 40<g.d3.length\/80<g.d5.length then 3 else if(g.d3.any fun n=>!M5 n)=true then 6 else if(g.d5.any fun e=>!R2 e g.d3.length)=true then 6 else 0
structure Do(g:d4):Prop where
 ei:g.d3.length<=40
 em:g.d5.length<=80
 kind:∀n∈g.d3,0<=n/\n<=99
 fit:∀e∈g.d5,(0<=e.ne/\e.ne<=99)/\(0<=e.ns/\e.ns<g.d3.length)/\(0<=e.To/\e.To<g.d3.length)
variable{g:d4}
theorem Cp(h:Bk g=0):Do g:=by
 unfold Bk at h;split at h
 .cases h
 .split at h
  .cases h
  .split at h
   .cases h
   .rename_i o f d;refine⟨by omega,by omega,fun n j=>?_,fun e he=>?_⟩
    .rw[Bool.not_eq_true,List.any_eq_false]at f
     grind [M5]
    .rw[Bool.not_eq_true,List.any_eq_false]at d;have:=d e he;simp[R2,M5,Bool.not_eq_true',zzX]at this;omega
theorem nc{e:Bl}{n:Nat}(h:n<=40):L3 e n=some (R2 e n):=by
 unfold L3 Gn R2 M5;simp only[bs,As (show -9223372036854775808<=(n:Int)-1 by omega) (by omega)];have d:decide (e.ns<=(n:Int)-1)=decide (e.ns<n):=by rw[decide_eq_decide];omega
 have f:decide (e.To<=(n:Int)-1)=decide (e.To<n):=by rw[decide_eq_decide];omega
 rw [d,f];generalize (decide (0<=e.ne)&&decide (e.ne<=99))=b1;generalize (decide (0<=e.ns)&&decide (e.ns<n))=b2;cases b1<;>cases b2<;>simp
theorem KI(g:d4):CY g=some (Bk g):=by
 unfold CY Bk;by_cases h:40<g.d3.length\/80<g.d5.length
 .grind
 .rw[az (by simp;omega),az h,show K8=(fun n=>some (!M5 n))from rfl,XG,ZH (p:=fun e=>!R2 e g.d3.length) (fun e _=>by
   grind [K9,nc])]
  grind
theorem Lc(g:d4):Dm g=some (Bk g):=by
 unfold Dm Bk;by_cases h:40<g.d3.length\/80<g.d5.length
 .grind
 .rw[az (by simp;omega),az h,HN,HN,BL (fun i=>!M5 (AA g.d3 i)) 6]
  .rw[BL (fun i=>!R2 (AA g.d5 i) g.d3.length) 6]
   .cases o4 (fun i=>!M5 (AA g.d3 i)) 0 g.d3.length
    .cases o4 (fun i=>!R2 (AA g.d5 i) g.d3.length) 0 g.d5.length<;>rfl
    .rfl
   .intro i d f _;rw[AD d f,bs];unfold ND R2;simp[show∀n,KK n=some (M5 n)from fun _=>rfl]
    grind
  grind [AD,KK,AA,M5]
def Cl(t:AC)(g:d4):Bool:=!(g.d3.any fun n=>decide (t.d3.length<=n))&&!(g.d5.any fun e=>decide (t.d5.length<=e.ne))
variable{t:AC}
theorem H7(d:Do g)(h:Cl t g=true):(∀n∈g.d3,0<=n/\n<t.d3.length)/\∀e∈g.d5,0<=e.ne/\e.ne<t.d5.length:=by
 unfold Cl at h;simp[Bool.not_eq_true',zzX]at h;refine⟨fun n f=>?_,fun e he=>?_⟩
 .have:=h.1 n f;have:=d.kind n f;omega
 .have:=h.2 e he;have:=d.fit e he;omega
theorem kv(t:AC)(g:d4):Hj t g=some (Cl t g):=by grind[Hj,Cl,MR,XG,MS,Bl,ZI]
theorem VS(h:Do g):Gb t g=some (Cl t g):=by
 unfold Gb Cl;rw[HN,HN,BL (fun i=>decide (t.d3.length<=AA g.d3 i)) false]
 .rw[BL (fun i=>decide (t.d5.length<=(AA g.d5 i).ne)) false]
  .cases o4 (fun i=>decide (t.d3.length<=AA g.d3 i)) 0 g.d3.length
   .cases o4 (fun i=>decide (t.d5.length<=(AA g.d5 i).ne)) 0 g.d5.length<;>rfl
   .rfl
  .intro i d f _;have:=(h.fit _ (AJ d f)).1.1;simp[AD d f]
   grind
 .intro i d f _;have:=(h.kind _ (AJ d f)).1;simp[AD d f]
  grind
structure Fu(t:AC):Prop where
 ei:t.d3.length<=12
 em:t.d5.length<=20
 node:∀i:Int,0<=i->i<t.d3.length->IE t i=0
 edge:∀i:Int,0<=i->i<t.d5.length->KF t i=0
theorem DG(h:(Ax t).2=0):Fu t:=by
 unfold Ax at h;split at h
 .cases h
 .split at h
  .cases h
  .rename_i u w;have f:∀i:Int,0<=i->i<t.d3.length->IE t i=0:=by
    grind [Cz,nz,JL,LN,B2]
   have he:∀i:Int,0<=i->i<t.d5.length->KF t i=0:=by
    split at h
    .rename_i r d;obtain⟨i,o,q,j,_⟩:=Cz d;rw[f i o q]at j;cases j
    .cases d:fst (fun i=>(nz (KF t i)).map fun e=>((AA t.d5 i).po,e)) 0 t.d5.length with
     |some r=>
      grind [Cz,nz]
     |none=>
      grind [JL,LN,B2]
   exact ⟨by omega,by omega,f,he⟩
theorem Fu.par(h:Fu t):Es t t.d3.length:=TZ h.node
variable{i:Int}
theorem Fu.ends(h:Fu t)(d:0<=i)(f:i<t.d5.length):(0<=(AA t.d5 i).ns/\(AA t.d5 i).ns<t.d3.length)/\(0<=(AA t.d5 i).To/\(AA t.d5 i).To<t.d3.length):=by
 have:=h.edge i d f
 grind [KF]
def Jb(t:AC)(a:Int):Bool:=decide (0<=a)&&decide (a<t.d3.length)
variable{a:Int}
theorem LZ:Jb t a=true↔0<=a/\a<t.d3.length:=by unfold Jb;simp
theorem VO(hf:At t)(l:Fp):Ep t l=some (if(Ax t).2≠0 then(Ax t).2 else if(l.all (Jb t))=true then 0 else 6):=by
 unfold Ep;rw[Mt hf,bs,Rt (p:=fun a=>!Jb t a) (fun a _=>by unfold LG Jb;rw[show decide (a<0)=!decide (0<=a)from by rw[<-decide_not,decide_eq_decide];omega,show decide ((t.d3.length:Int)<=a)=!decide (a<t.d3.length)from by rw[<-decide_not,decide_eq_decide];omega,Bool.not_and]),bs]
 grind
theorem Zr(hf:At t)(a b:Int):JO t a b=some (if(Ax t).2≠0 then(Ax t).2 else if(Jb t a&&Jb t b)=true then 0 else 6):=by
 have d:=hf.ei;have e:∀a,decide (a<=(t.d3.length:Int)-1)=decide (a<(t.d3.length:Int)):=fun a=>by rw[decide_eq_decide];omega
 unfold JO DN;rw[OU hf,bs]
 grind [As,Ax,Jb]
theorem eD{α:Type}[Inhabited α]{l:List α}(d:0<=i)(f:i<l.length):BH l i (AA l i)=l:=by grind[BH,AA,List.getElem?_eq_getElem,List.set_getElem_self]
theorem CF{α:Type}[Inhabited α]{l:List α}(d:0<=i)(f:i<l.length):l.take (i+1).toNat=l.take i.toNat++[AA l i]:=by
 unfold AA;rw[show(i+1).toNat=i.toNat+1 by omega,List.take_add_one,List.getD_eq_getElem?_getD,List.getElem?_eq_getElem (by omega)];rfl
theorem BE{α:Type}{l:List α}(h:l.length<=Ad):Ag [] l=some l:=by grind[Ae]
def GE(t:AC)(a:Int):List mo×Int:=if(Ax t).2≠0 then([],(Ax t).2)else if Jb t a=true then(Ay t a,0)else([],6)
theorem P8(hf:At t)(a:Int):Dn t a=some (GE t a):=by
 unfold Dn GE;rw[VO hf,bs];by_cases h:(Ax t).2=0
 .have j:=DG h;have e:[a].all (Jb t)=Jb t a:=by simp
  rw [e];simp[h];cases hi:Jb t a
  .rfl
  .rw[ae rfl,ae rfl];have o:=LZ.1 hi;have D:=GL hf (Int.le_refl _) j.par o.2;have B:=Lo hf (Int.le_refl _) j.par o.2;rw[az (by decide),Zh hf (Int.le_refl _) j.par o.1 o.2,bs];obtain⟨s',C,rfl⟩:=Qz (f:=(fun(q:Int)(u:List mo)=>
 (idx u q).bind fun w=>
 (slices_Clone_string w.wi).bind fun x=>
 (idx u q).bind fun d=>
 some (BH u q (mo.mk d.po d.Low d.AaD x)))) (fun _ s=>s=Ay t a) (a:=0) (b:=(Ay t a).length) (s:=Ay t a) (by omega) rfl (fun i s y z A=>by
     subst A;have:=(B _ (AJ y z)).names;refine⟨Ay t a,?_,rfl⟩;unfold slices_Clone_string;rw[AD y z,bs,BE (by unfold Ad;omega),bs,bs];congr 1;exact eD y z)
   rw [C];rfl
 .simp[h,not_false_eq_true,decide_false]
theorem QA(hf:At t)(a:Int):FX t a=some (GE t a):=by
 unfold FX GE;rw[Zr hf,bs];by_cases h:(Ax t).2=0
 .have d:=DG h;rw[Bool.and_self];simp only[h,ne_eq,not_true_eq_false,if_false];cases hi:Jb t a
  .rfl
  .rw[ae rfl,ae rfl];have f:=LZ.1 hi;have u:=GL hf (Int.le_refl _) d.par f.2;have q:=Lo hf (Int.le_refl _) d.par f.2;rw[az (by decide),Zp hf (Int.le_refl _) d.par f.1 f.2,bs];rw[Bj (fun i=>(Ay t a).take i.toNat) (by omega) (by simp)]
   .rw[bs,Int.toNat_natCast,List.take_length]
   .intro i j o;have:=(q _ (AJ j o)).names;rw[AD j o,bs,BE (by unfold Ad;omega),bs,Ae (by rw[c7];simp;unfold Ad;omega),CF j o];rfl
 grind
end Go.Sf.Sc
namespace Go.Sf.Sc
open Go Go.Sf
def Oy(t:AC):Nat->Int->Fp
 |0,_=>[]|n+1,a=>if a<0 then[]else a::Oy t n (par t a)
theorem Z7(t:AC):∀(n:Nat)(a:Int),(Oy t n a).length<=n
 |0,_=>by simp[Oy]|n+1,a=>by
  rw [Oy];split
  .simp
  .have:=Z7 t n (par t a);simp;omega
def Ih(t:AC)(a b:Int):Bool:=(Oy t (a+1).toNat a).any fun x=>decide (b=x)
variable{t:AC}
theorem ZX(f:t.d3.length<=12)(q:Es t t.d3.length):∀(n:Nat)(a:Int)(l:Fp),a<t.d3.length->a<n->l.length+n<=1000 ->
  ∃x,LJ (ρ:=Fp) (fun(d:Int×Fp)=>
 if (decide (0<=d.1))=true then
 (Ag d.2 [d.1]).bind fun h=>
 (idx t.d3 d.1).bind fun j=>
 some (.next (j.Aad,h))
 else
 some (.brk (d.1,d.2))) (a,l) (.inl (x,l++Oy t n a))
 |0,a,l,o,u,_=>by
  refine ⟨a,.brk ?_⟩
  grind [Oy]
 |n+1,a,l,o,u,A=>by
  by_cases w:a<0
  .refine⟨a,.brk ?_⟩
   grind [Oy]
  .have y:=q a (by omega) o;obtain⟨x,z⟩:=ZX f q n (par t a) (l++[a]) (by omega) (by omega) (by simp;omega);refine⟨x,.next (s':=(par t a,l++[a])) ?_ ?_⟩
   .rw[ae (by simp;omega),Ae (by simp;unfold Ad;omega),bs,AD (by omega) o];rfl
   grind [Oy,par]
variable{a b:Int}
theorem fy(h:Fu t)(o:0<=a)(d:a<t.d3.length):H8 t a b=some (Ih t a b):=by
 have f:=h.ei;obtain⟨x,j⟩:=ZX f h.par (a+1).toNat a [] d (by omega) (by simp;omega);have q:=Z7 t (a+1).toNat a;unfold H8 I4;rw[j.eq,Bh]
 grind [slices_Reverse_int,Ad,Kd,Ih]
theorem YB(d:Es t t.d3.length)(j:0<=b):∀(n m:Nat)(a:Int),-1<=a->a<t.d3.length->a+1<n->a<m->E8 n t a b=some ((Oy t m a).any fun x=>decide (b=x))
 |0,_,_,_,_,_,_=>by omega|n+1,m,a,q,h,u,w=>by
  rw [E8];by_cases f:a<0
  .rw[az (by simp;omega),az (by simp;omega)];cases m<;>simp[Oy,f]
  .cases m with
   |zero=>omega|succ m=>
    have o:=d a (by omega) h;rw[Oy,az f,List.any_cons,ae (show decide (0<=a)=true by simp;omega),AD (by omega) h];simp;rw[show(AA t.d3 a).Aad=par t a from rfl,YB d j n m (par t a) (by omega) (by omega) (by omega) (by omega)]
    grind
theorem Sx(h:Fu t)(j:0<=a)(d:a<t.d3.length)(f:0<=b):Gq t a b=some (Ih t a b):=
 EG (a+2).toNat fun n o=>YB h.par f n (a+1).toNat a (by omega) d (by omega) (by omega)
def Qy(t:AC)(e f g:Int):Bool:=
 decide ((Ax t).2=0)&&(Jb t f&&Jb t g)&&(decide (0<=e)&&decide (e<t.d5.length))&&(Ih t f (AA t.d5 e).ns&&Ih t g (AA t.d5 e).To)
theorem cx(hf:At t)(e f g:Int):GV t e f g=some (Qy t e f g):=by
 unfold GV Qy;rw[VO hf,bs,show[f,g].all (Jb t)=(Jb t f&&Jb t g)by simp];by_cases h:(Ax t).2=0
 .simp only[h,ne_eq,not_true_eq_false,if_false];have d:=DG h;cases hi:(Jb t f&&Jb t g)
  .rfl
  .rw[up,LZ,LZ]at hi;by_cases he:0<=e/\e<t.d5.length
   .rw[az (by simp;omega),AD he.1 he.2];simp[fy d hi.1.1 hi.1.2,fy d hi.2.1 hi.2.2,he.1,he.2,decide_true]
    grind
   grind
 .simp[h]
theorem dO(hf:At t)(e f g:Int):KJ t e f g=some (Qy t e f g):=by
 have u:=hf.em;unfold KJ Qy DN;rw[Zr hf,bs];by_cases h:(Ax t).2=0
 .simp only[h,ne_eq,not_true_eq_false,if_false];have d:=DG h;cases hi:(Jb t f&&Jb t g)
  .rfl
  .rw[up,LZ,LZ]at hi;rw[As (by omega) (by omega)];simp only[bs];by_cases he:0<=e/\e<t.d5.length
   .have j:=d.ends he.1 he.2;have o:e<=(t.d5.length:Int)-1:=by omega
    rw [az (by simp),bs,az (by simp[he.1,o]),AD he.1 he.2];simp[Sx d hi.1.1 hi.1.2 j.1.1,Sx d hi.2.1 hi.2.2 j.2.1,he.1,he.2,decide_true];cases Ih t f (AA t.d5 e).ns<;>rfl
   .have:(decide (0<=e)&&decide (e<t.d5.length))=false:=by rw[Bool.eq_false_iff];simpa using he
    have q:(decide (0<=e)&&decide (e<=(t.d5.length:Int)-1))=false:=by rw[Bool.eq_false_iff];simp;omega
    rw [this,q];simp
 .simp[h]
def MV(n:Int)(x:kg):Bool:=(((decide ((-1)<=x.Var))&&(decide (x.Var<n)))&&(decide ((-1000000)<=x.Add)))&&(decide (x.Add<=1000000))
def NS(n:Int)(x:Test):Int:=if¬x.og=1/\¬x.og=2 then 1 else if(MV n x.kq&&MV n x.fd)=true then 0 else 6
def JG(n:Int)(l:List Test):Int:=if n<0\/12<n then 6 else if 40<l.length then 3 else(fst (fun i=>nz (NS n (AA l i))) 0 l.length).getD 0
theorem nt(n:Int)(x:Test):IL n x=some (NS n x):=by
 unfold IL NS;simp only[show∀n x,HP n x=some (MV n x)from fun _ _=>rfl,bs];generalize MV n x.kq=b1;generalize MV n x.fd=b2;cases b1<;>cases b2
 all_goals
  simp only[bs,zzX,Bool.or_eq_true,up,Bool.not_eq_true',decide_eq_false_iff_not,Bool.not_eq_false',Bool.or_eq_false_iff,Bool.and_eq_false_iff,ne_eq]
  repeat' (first|rfl|(exfalso;omega;done)|split)
  all_goals (first|rfl|(exfalso;omega)|omega|simp_all|(simp_all;omega))
theorem gL(n:Int)(x:kg):IT n x=some (if MV n x=true then 0 else 6):=by
 unfold IT MV;simp only[bs,zzX,Bool.or_eq_true,up,Bool.not_eq_true',decide_eq_false_iff_not,Bool.not_eq_false',Bool.or_eq_false_iff,Bool.and_eq_false_iff,ne_eq]
 repeat' (first|rfl|(exfalso;omega;done)|split)
 all_goals (first|rfl|(exfalso;omega)|omega|simp_all|(simp_all;omega))
theorem oL(n:Int)(x:Test):Nj n x=some (NS n x):=by
 unfold Nj NS;simp only[gL,bs];generalize MV n x.kq=b1;generalize MV n x.fd=b2;cases b1<;>cases b2
 all_goals
  simp only[bs,zzX,Bool.or_eq_true,up,Bool.not_eq_true',decide_eq_false_iff_not,Bool.not_eq_false',Bool.or_eq_false_iff,Bool.and_eq_false_iff,ne_eq]
  repeat' (first|rfl|(exfalso;omega;done)|split)
  all_goals (first|rfl|(exfalso;omega)|omega|simp_all|(simp_all;omega))
theorem ku(n:Int)(l:List Test):Gm n l=some (JG n l):=by
 unfold Gm JG;rw[BV (fun i=>nz (NS n (AA l i))),CW]
 .simp only[bs,zzX,Bool.or_eq_true,up,Bool.not_eq_true',decide_eq_false_iff_not,Bool.not_eq_false',Bool.or_eq_false_iff,Bool.and_eq_false_iff,ne_eq]
  repeat' (first|rfl|(exfalso;omega;done)|split)
  all_goals (first|rfl|(exfalso;omega)|omega|simp_all|(simp_all;omega))
 .intro i d f _;rw[AD d f,bs,nt,bs,Kh]
theorem lO(n:Int)(l:List Test):Km n l=some (JG n l):=by
 unfold Km JG;rw[BV (fun i=>nz (NS n (AA l i))),CW]
 .simp only[bs,zzX,Bool.or_eq_true,up,Bool.not_eq_true',decide_eq_false_iff_not,Bool.not_eq_false',Bool.or_eq_false_iff,Bool.and_eq_false_iff,ne_eq]
  repeat' (first|rfl|(exfalso;omega;done)|split)
  all_goals (first|rfl|(exfalso;omega)|omega|simp_all|(simp_all;omega))
 .intro i d f _;rw[AD d f,bs,oL,bs,Kh]
def QO(t:AC)(p:ec)(node ix:Int):mo×Bool:=
 if node<0\/p.d4.d3.length<=node then(default,false)else
 let l:=(GE t (AA p.d4.d3 node)).1
 if ix<0\/l.length<=ix then(default,false)else(AA l ix,true)
theorem T6(hf:At t)(a:Int):(GE t a).1.length<=600/\((GE t a).2≠0->(GE t a).1=[]):=by
 unfold GE;split
 .simp
 .rename_i h;have d:=DG (t:=t) (by omega);split
  .rename_i hi;exact⟨GL hf (Int.le_refl _) d.par (LZ.1 hi).2,by simp⟩
  .simp
variable{p:ec}
theorem kX(hf:At t)(d:Do p.d4)(s:CX):EY t p s=some (QO t p s.tg s.mo):=by
 have j:=d.ei;unfold EY QO CR;dsimp only;rw[As (by omega) (by omega),bs];by_cases h:s.tg<0\/p.d4.d3.length<=s.tg
 .rw[ae (by simp;omega),ae h];rfl
 .rw[az (by simp;omega),az h,AD (by omega) (by omega),bs,P8 hf,bs];have o:=(T6 hf (AA p.d4.d3 s.tg)).1;rw[As (by omega) (by omega),bs];by_cases f:s.mo<0\/(GE t (AA p.d4.d3 s.tg)).1.length<=s.mo
  .rw[ae (by simp;omega),ae f];rfl
  grind [AD]
theorem k7(hf:At t)(node d:Int):MK t p node d=some (QO t p node d):=by
 unfold MK QO;dsimp only;by_cases h:node<0\/p.d4.d3.length<=node
 .rw[ae (by simp;omega),ae h];rfl
 .rw[az (by simp;omega),az h,AD (by omega) (by omega),bs,QA hf,bs];have j:=(T6 hf (AA p.d4.d3 node)).2;by_cases f:d<0\/(GE t (AA p.d4.d3 node)).1.length<=d
  .rw[ae (by simp;omega),ae f];rfl
  grind [GE,AA,AD]
end Go.Sf.Sc
namespace Go.Sf
variable{σ ρ:Type}
def eH(s:σ)(o:Option ρ):Bp σ ρ:=match o with
 |none=>.next s|some r=>.ret r
def jX(s:σ)(o:Option ρ):σ ⊕ ρ:=match o with
 |none=>.inl s|some r=>.inr r
theorem Xb{f:Int->σ->Option (Bp σ ρ)}(g:Int->σ)(c:Int->Option ρ):∀(n:Nat)(a:Int),
  (∀i,a<=i->i<a+n->(∀j,a<=j->j<i->c j=none)->f i (g i)=some (eH (g (i+1)) (c i)))->Aae f n a (g a)=some (jX (g (a+n)) (Eh c n a))
 |0,a,_=>by simp[Aae,Eh,jX]|n+1,a,h=>by
  have q:=h a (Int.le_refl _) (by omega) (fun j d o=>by omega);rw[FU,q,Eh];cases y:c a with
  |some r=>rfl|none=>
   simp only[eH];rw[show a+((n+1:Nat):Int)=a+1+n by omega];refine Xb g c n (a+1) (fun i d o u=>h i (by omega) (by omega) (fun j w x=>?_))
   grind
variable{a b:Int}
theorem JK{f:Int->σ->Option (Bp σ ρ)}(g:Int->σ)(c:Int->Option ρ){s:σ}(d:a<=b)(o:s=g a)(h:∀i,a<=i->i<b->(∀j,a<=j->j<i->c j=none)->f i (g i)=some (eH (g (i+1)) (c i))):kl f a b s=some (jX (g b) (fst c a b)):=by
 subst o;unfold kl fst;have:=Xb g c (b-a).toNat a (fun i q w u=>h i q (by omega) u)
 grind
variable{α:Type}
variable{e:Int}
theorem DX{X:QQ}{Y:Int}(h:e=0->X=some Y):(if(!decide (e=0))=true then some e else X)=some (if e≠0 then e else Y):=by grind
variable{v:α}{X:Option α}{Y:α}
theorem Dp(h:e=0->X=some Y):(if(!decide (e=0))=true then some v else X)=some (if e≠0 then v else Y):=by grind
variable{P:Prop}
theorem Kc[Decidable P]{b:Bool}(d:b=true↔P)(h:¬P->X=some Y):(if b=true then some v else X)=some (if P then v else Y):=by grind
theorem UB{b:Bool}(h:b=true->X=some Y):(if(!b)=true then some v else X)=some (if b=false then v else Y):=by grind
theorem XH{b:Bool}(h:b=false->X=some Y):(if b=true then some v else X)=some (if b=true then v else Y):=by grind
end Go.Sf
namespace Go.Sf.Sc
open Go Go.Sf
def QP(t:AC)(p:ec)(s:CX):Bool:=!(QO t p s.tg s.mo).2||decide (s.kg.Var< -1)||decide (p.hV<=s.kg.Var)||(decide (s.kg.Add< -1000000)||decide (1000000<s.kg.Add))
def Jv(p:ec)(v:Int):Bool:=p.ff.any fun s=>decide (s.kg.Var=v)
def G6(t:AC)(p:ec):Int:=
 if (Ax t).2≠0 then(Ax t).2 else if Bk p.d4≠0 then Bk p.d4 else if Cl t p.d4=false then 13 else
 if p.hV<0\/12<p.hV then 6 else if 10<p.ff.length\/10<p.sc.length then 3 else
 if (p.ff.any (QP t p))=true then 6 else if JG p.hV p.sc≠0 then JG p.hV p.sc else
 if o4 (fun v=>!Jv p v) 0 p.hV=true then 9 else 0
def I5(p:ec)(i:Int):a6:=(List.range p.hV.toNat).map fun(v:Nat)=>(p.ff.take i.toNat).any fun s=>decide (s.kg.Var=(v:Int))
variable{p:ec}
theorem bn:I5 p 0=List.replicate p.hV.toNat false:=by
 unfold I5;refine List.ext_getElem (by simp) (fun n d f=>by simp)
theorem eh(p:ec)(i:Int):(I5 p i).length=p.hV.toNat:=by simp[I5]
variable{i:Int}
theorem en(d:0<=i)(f:i<p.ff.length)(hv:0<=(AA p.ff i).kg.Var):BH (I5 p i) (AA p.ff i).kg.Var true=I5 p (i+1):=by
 unfold BH;refine List.ext_getElem (by simp[I5]) (fun n h j=>?_);simp[I5,CF d f]
 grind
theorem bl(d:0<=i)(f:i<p.ff.length)(hv:(AA p.ff i).kg.Var<0):I5 p i=I5 p (i+1):=by
 refine List.ext_getElem (by simp[I5]) (fun n h j=>?_);simp[I5,CF d f]
 grind
theorem eg(p:ec):((I5 p p.ff.length).any fun x=>false==x)=o4 (fun v=>!Jv p v) 0 p.hV:=by
 rw [Bool.eq_iff_iff,List.any_eq_true,Dy];simp only[I5,Int.toNat_natCast,List.take_length,List.mem_map,List.mem_range];constructor
 .rintro⟨x,⟨v,hv,rfl⟩,d⟩;refine⟨v,by omega,by omega,?_⟩
  grind [Jv]
 .rintro⟨v,f,h,d⟩;refine⟨_,⟨v.toNat,by omega,rfl⟩,?_⟩
  grind [Int.toNat_of_nonneg,Jv]
theorem ZT{α ρ:Type}[Inhabited α]{l:List α}{q:α->Bool}{v:ρ}:fst (fun i=>if q (AA l i)=true then some v else none) 0 l.length=if l.any q=true then some v else none:=by
 rw [LY,HN]
variable{t:AC}
theorem Ui(hf:At t)(p:ec):Cf t p=some (G6 t p):=by
 unfold Cf G6;rw[Mt hf,bs,KI,bs];refine DX fun F=>DX fun D=>?_;have x:=Cp D;have e:((Ak p.d4.d3 (fun d=>GB d t)).bind fun o=>
   (if o=true then some true else((BM p.d4.d5 (fun d=>GD d t)).bind fun q=>some (q))))=some (!Cl t p.d4):=by
  unfold Cl;rw[show(fun d=>GB d t)=(fun(n:Int)=>some (decide (t.d3.length<=n)))from rfl,XG,show(fun d=>GD d t)=(fun(e:Bl)=>some (decide (t.d5.length<=e.ne)))from rfl,ZI];simp only[bs];cases p.d4.d3.any fun n=>decide (t.d3.length<=n)<;>simp
 rw [<-Option.bind_assoc,e,bs];refine UB fun E=>?_;unfold CR;simp only[bs];refine Kc (by simp;try omega) fun hv=>Kc (by simp;try omega) fun G=>?_;unfold IQ;rw[ae (by omega),bs,<-bn,As (show -9223372036854775808<=p.hV-1 by omega) (by omega),JK (I5 p) (fun i=>if QP t p (AA p.ff i)=true then some 6 else none) (by omega) rfl,ZT]
 .cases f:p.ff.any (QP t p)
  .simp only[Bool.false_eq_true,if_false,jX,Bh,ku,bs,j5,eg];by_cases h:JG p.hV p.sc=0
   .simp[h];cases o4 (fun v=>!Jv p v) 0 p.hV<;>rfl
   .simp[h]
  .rfl
 .intro i u w _;rw[AD u w,bs,kX hf x,bs];unfold QP;by_cases f:(QO t p (AA p.ff i).tg (AA p.ff i).mo).2=true
  .by_cases C:(AA p.ff i).kg.Var< -1\/p.hV<=(AA p.ff i).kg.Var
   .have y:(decide (-1<=(AA p.ff i).kg.Var)&&decide ((AA p.ff i).kg.Var<=p.hV-1))=false:=by rw[Bool.eq_false_iff];simp;omega
    have z:(decide ((AA p.ff i).kg.Var< -1)||decide (p.hV<=(AA p.ff i).kg.Var))=true:=by simp;omega
    rw [f,y,Bool.or_assoc (!true),z];rfl
   .have y:(decide (-1<=(AA p.ff i).kg.Var)&&decide ((AA p.ff i).kg.Var<=p.hV-1))=true:=by simp;omega
    have z:(decide ((AA p.ff i).kg.Var< -1)||decide (p.hV<=(AA p.ff i).kg.Var))=false:=by rw[Bool.eq_false_iff];simp;omega
    rw [f,y,Bool.or_assoc (!true),z];by_cases H:(AA p.ff i).kg.Add< -1000000\/1000000<(AA p.ff i).kg.Add
    .have A:(decide (-1000000<=(AA p.ff i).kg.Add)&&decide ((AA p.ff i).kg.Add<=1000000))=false:=by rw[Bool.eq_false_iff];simp;omega
     have B:(decide ((AA p.ff i).kg.Add< -1000000)||decide (1000000<(AA p.ff i).kg.Add))=true:=by simp;omega
     rw [A,B];rfl
    .have A:(decide (-1000000<=(AA p.ff i).kg.Add)&&decide ((AA p.ff i).kg.Add<=1000000))=true:=by simp;omega
     have B:(decide ((AA p.ff i).kg.Add< -1000000)||decide (1000000<(AA p.ff i).kg.Add))=false:=by rw[Bool.eq_false_iff];simp;omega
     rw [A,B];by_cases j:0<=(AA p.ff i).kg.Var
     .simp[j,decide_true];rw[AD j (by rw[eh];omega),bs,en u w j];rfl
     .simp[j,decide_false];rw[bl u w (by omega)];rfl
  .rw[Bool.not_eq_true]at f;rw[f];rfl
theorem jI(p:ec)(v:Int):J2 p v=some (Jv p v):=by
 unfold J2 Jv;rw[BL (fun i=>decide ((AA p.ff i).kg.Var=v)) true,HN]
 .cases o4 (fun i=>decide ((AA p.ff i).kg.Var=v)) 0 p.ff.length<;>rfl
 .intro i d f _;rw[AD d f,bs,Hx]
theorem Wu(hf:At t)(p:ec):Gc t p=some (G6 t p):=by
 unfold Gc G6;rw[OU hf,bs,Lc,bs];refine DX fun u=>DX fun o=>?_;have f:=Cp o;rw[VS f,bs];refine UB fun q=>Kc (by simp;try omega) fun hv=>Kc (by simp;try omega) fun w=>?_;rw[BL (fun i=>QP t p (AA p.ff i)) 6,<-HN]
 .cases x:p.ff.any (QP t p)
  .simp only[Bool.false_eq_true,if_false,Bh,lO,bs];by_cases d:JG p.hV p.sc=0
   .simp only[d];rw[BL (fun v=>!Jv p v) 9]
    .cases o4 (fun v=>!Jv p v) 0 p.hV<;>rfl
    .intro i h j _;rw[jI,bs,Hx]
   .simp[d]
  .rfl
 .intro i h j _;rw[AD h j,bs,k7 hf,bs];unfold QP LA
  grind
def NQ(t:AC)(p:ec)(i:Int):Int:=
 let s:=AA p.ff i
 if s.tg<0\/p.d4.d3.length<=s.tg then 6 else
 let l:=(GE t (AA p.d4.d3 s.tg)).1
 if ((((((decide (s.mo<0))||(decide ((l.length:Int)<=s.mo)))||(decide (s.kg.Var<(-1))))||(decide (p.hV<=s.kg.Var)))||(decide (s.kg.Add<(-1000000))))||(decide (1000000<s.kg.Add)))=true then 6 else
 if o4 (fun j=>(decide ((AA p.ff j).tg=s.tg))&&(decide ((AA p.ff j).mo=s.mo))) 0 i=true then 5 else 0
theorem nm(hf:At t)(r:gp)(d:0<=i)(f:i<r.fd.ff.length):Im t r i=some (NQ t r.fd i):=by
 unfold Im NQ;dsimp only;rw[AD d f,bs];refine Kc (by simp) fun h=>?_;rw[AD (by omega) (by omega),bs,P8 hf,bs,LP d (by omega),bs,
  show (fun j=>NO j (AA r.fd.ff i))=(fun y=>some ((decide (y.tg=(AA r.fd.ff i).tg))&&(decide (y.mo=(AA r.fd.ff i).mo))))from rfl,ZJ,bs,Od d (by omega)]
 grind
theorem oI(hf:At t)(p:ec)(d:0<=i)(f:i<p.ff.length):MM t p i=some (NQ t p i):=by
 unfold MM NQ;dsimp only;rw[AD d f,bs];refine Kc (by simp) fun h=>?_;rw[AD (by omega) (by omega),bs,QA hf,bs,
  BL (fun j=>(decide ((AA p.ff j).tg=(AA p.ff i).tg))&&(decide ((AA p.ff j).mo=(AA p.ff i).mo))) 5]
 .refine XH fun _=>?_;cases o4 (fun j=>(decide ((AA p.ff j).tg=(AA p.ff i).tg))&&(decide ((AA p.ff j).mo=(AA p.ff i).mo))) 0 i<;>rfl
 grind [AD,AA,mo]
def JE(t:AC)(r:gp):Int:=
 if Bk r.fd.d4≠0 then Bk r.fd.d4 else if Cl t r.fd.d4=false then 13 else
 if r.fd.hV≠r.kq.hV\/0<r.fd.sc.length then 1 else if 10<r.fd.ff.length then 3 else
 (fst (fun i=>nz (NQ t r.fd i)) 0 r.fd.ff.length).getD 0
theorem kj(hf:At t)(r:gp):Hi t r=some (JE t r):=by
 unfold Hi JE;rw[KI,bs,kv,bs,BV (fun i=>nz (NQ t r.fd i)),CW]
 .grind
 grind [nm,Kh]
theorem lK(hf:At t)(r:gp):Ky t r=some (JE t r):=by
 unfold Ky JE;rw[Lc,bs];refine DX fun d=>?_;rw[VS (Cp d),bs,BV (fun i=>nz (NQ t r.fd i)),CW]
 .grind
 grind [oI,Kh]
end Go.Sf.Sc
namespace Go.Sf
variable{a b:Int}
theorem aY{ρ:Type}{c d:Int->Option ρ}(h:∀i,c i=d i):fst c a b=fst d a b:=by rw[funext h]
def C0(l:Fp)(v:Int):Int:=(fst (fun i=>if decide (v=AA l i)=true then some i else none) 0 l.length).getD (-1)
variable{l:Fp}
theorem IP{v:Int}(h:v∈l):0<=C0 l v/\C0 l v<l.length/\AA l (C0 l v)=v/\∀j,0<=j->j<C0 l v->AA l j≠v:=by
 unfold C0;cases hf:fst (fun i=>if decide (v=AA l i)=true then some i else none) 0 l.length with
 |none=>
  grind [BW,B2]
 |some k=>
  grind [Cz,AA]
variable{R:Int->Int->Prop}
theorem Kj(h:l.Pairwise R){i j:Int}(d:0<=i)(f:i<j)(o:j<l.length):R (AA l i) (AA l j):=by grind[List.pairwise_iff_getElem,AA,List.getElem?_eq_getElem]
theorem S3(h:∀i j:Int,0<=i->i<j->j<l.length->R (AA l i) (AA l j)):l.Pairwise R:=by
 refine List.pairwise_iff_getElem.2 (fun i j d f o=>?_);have:=h i j (by omega) (by omega) (by omega);unfold AA at this
 grind
theorem TQ(u:l.Pairwise (·<·)){v:Int}(h:v∈l):(l.countP (fun x=>decide (x<v)):Int)=C0 l v:=by
 obtain ⟨w,y,o,_⟩:=IP h;generalize E:C0 l v=k at w y o;have e:l=l.take k.toNat++l.drop k.toNat:=(List.take_append_drop _ _).symm;have z:(l.take k.toNat).countP (fun x=>decide (x<v))=k.toNat:=by
  rw [List.countP_eq_length.2 (fun x d=>?_),c7]
  .omega
  .obtain⟨i,C,D,rfl⟩:=BW d;rw[c7]at D;rw[OP (by omega),zzX,<-o];exact Kj u C (by omega) y
 have A:(l.drop k.toNat).countP (fun x=>decide (x<v))=0:=by
  rw [List.countP_eq_zero];intro x d;obtain⟨n,q⟩:=List.getElem?_of_mem d;rw[List.getElem?_drop]at q;have B:=(List.getElem?_eq_some_iff.1 q).1;have f:x=AA l (k+n):=by
   unfold AA;rw[List.getD_eq_getElem?_getD,show(k+(n:Int)).toNat=k.toNat+n by omega,q];rfl
  rw [zzX,f,<-o];by_cases j:n=0
  .subst j;simp
  .have:=Kj u w (show k<k+(n:Int)by omega) (by omega);omega
 rw [e,List.countP_append,z,A];omega
end Go.Sf
namespace Go.Sf.Sc
open Go Go.Sf
theorem kJ(l:Fp)(n:Int):(gn (kl (ρ:=Int) (fun(h:Int)(_:Unit)=>
 (idx l h).bind fun d=>
 if (decide (d=n))=true then
 some (.ret h)
 else
 some (.next ())) 0 (l.length:Int) ()) (fun _=>
 some (-1)) (fun j=>some j))=some (C0 l n):=by
 have:=TU (l:=l) (f:=fun x=>some (decide (x=n))) (p:=fun x=>decide (x=n)) (fun _ _=>rfl);simp only[bs]at this;rw[this];unfold C0;congr 2;exact aY fun i=>by simp[eq_comm]
theorem oF(l:Fp)(v:Int):H1 l v=some (C0 l v):=kJ l v
def hasB(l:Fp)(v:Int):Bool:=l.any fun x=>decide (v=x)
variable{l:Fp}
theorem CL{v:Int}:hasB l v=true↔v∈l:=by
 unfold hasB
 grind
theorem Mp(l:Fp)(n:Int):(gn (kl (ρ:=Bool) (fun(f:Int)(_:Unit)=>
 (idx l f).bind fun d=>
 if (decide (d=n))=true then
 some (.ret true)
 else
 some (.next ())) 0 (l.length:Int) ()) (fun _=>
 some false) (fun h=>some h))=some (hasB l n):=by
 unfold hasB;rw[BL (fun i=>decide (n=AA l i)) true,HN]
 .cases o4 (fun i=>decide (n=AA l i)) 0 l.length<;>rfl
 .intro i j o _;rw[AD j o,bs,Hx];simp[eq_comm]
theorem lF(l:Fp)(v:Int):PO l v=some (hasB l v):=Mp l v
theorem lD(l:Fp)(v:Int):Nk l v=some (hasB l v):=Mp l v
def Oe(l:Fp)(n:Int):Int:=(fst (fun i=>if AA l i<0\/n<=AA l i then some 6 else if 0<i/\AA l i<=AA l (i-1)then some 12 else none) 0 l.length).getD 0
theorem jB(q:l.length<=1000)(n:Int):HH l n=some (Oe l n):=by
 unfold HH Oe;rw[BV (fun i=>if AA l i<0\/n<=AA l i then some 6 else if 0<i/\AA l i<=AA l (i-1)then some 12 else none),CW];intro i j o _;rw[AD j o,bs];by_cases h:AA l i<0\/n<=AA l i
 .rw[ae (by simpa using h),ae h];rfl
 .rw[az (by simpa using h),az h];by_cases d:0<i
  .rw[ae (by simpa using d),As (by omega) (by omega),AD (by omega) (by omega),bs,bs];by_cases f:AA l i<=AA l (i-1)
   .rw[ae (by simpa using f),ae ⟨d,f⟩];rfl
   .rw[az (by simpa using f),az (fun h=>f h.2)];rfl
  .rw[az (by simpa using d),bs,az (by decide),az (fun h=>d h.1)];rfl
theorem jG(u:l.length<=1000)(n:Int):F2 l n=some (Oe l n):=by
 unfold F2 Oe;rw[BV (fun i=>if AA l i<0\/n<=AA l i then some 6 else if 0<i/\AA l i<=AA l (i-1)then some 12 else none),CW];intro i j o _;rw[AD j o];simp only[bs];by_cases h:AA l i<0\/n<=AA l i
 .have:(if decide (AA l i<0)=true then some true else some (decide (n<=AA l i)))=some true:=by
   rcases h with h|h
   .simp[h]
   .by_cases q:AA l i<0<;>simp[h,q]
  rw [this,bs,ae rfl,ae h];rfl
 .have:(if decide (AA l i<0)=true then some true else some (decide (n<=AA l i)))=some false:=by
   rw [az (by simp;omega),decide_eq_false (by omega)]
  rw [this,bs,az (by decide),az h];by_cases d:0<i
  .rw[ae (by simpa using d),As (by omega) (by omega),AD (by omega) (by omega),bs,bs];by_cases f:AA l i<=AA l (i-1)
   .rw[ae (by simpa using f),ae ⟨d,f⟩];rfl
   .rw[az (by simpa using f),az (fun h=>f h.2)];rfl
  .rw[az (by simpa using d),bs,az (by decide),az (fun h=>d h.1)];rfl
variable{a b:Int}
theorem PB{c:Int->QQ}(d:∀i,c i≠some 0)(h:(fst c a b).getD 0=0):∀i,a<=i->i<b->c i=none:=by
 have:fst c a b=none:=by
  cases hf:fst c a b with
  |none=>rfl|some r=>
   grind [Option.getD,Cz]
 exact B2.1 this
variable{n:Int}
theorem Ri(h:Oe l n=0):(∀x∈l,0<=x/\x<n)/\l.Pairwise (·<·):=by
 have y:=PB (c:=fun i=>if AA l i<0\/n<=AA l i then some 6 else if 0<i/\AA l i<=AA l (i-1)then some 12 else none) (fun i=>by
  split
  .simp
  .split<;>simp) h
 have f:∀i:Int,0<=i->i<l.length->(0<=AA l i/\AA l i<n)/\(0<i->AA l (i-1)<AA l i):=by
  intro i o w;have:=y i o w;split at this
  .cases this
  .split at this
   .cases this
   .omega
 refine ⟨fun x q=>?_,S3 (fun i j o d u=>?_)⟩
 .obtain⟨i,z,A,rfl⟩:=BW q;exact(f i z A).1
 .obtain⟨k,B⟩:∃k:Nat,j=i+1+k:=⟨(j-i-1).toNat,by omega⟩;subst B;clear d
  induction k with
  |zero=>
   have:=(f (i+1) (by omega) (by omega)).2 (by omega);rw[show i+1-1=i by omega]at this;simpa using this
  |succ k C=>
   have a:=C (by omega);have b:=(f (i+1+((k+1:Nat):Int)) (by omega) u).2 (by omega);rw[show i+1+((k+1:Nat):Int)-1=i+1+k by omega]at b;omega
theorem RJ(f:l.length<=1000)(d:l.Pairwise (·<·))(v:Int):slices_BinarySearch_int l v=some (((l.countP (fun x=>decide (x<v)):Nat):Int),hasB l v):=by
 unfold slices_BinarySearch_int;rw[ae ⟨by unfold Ad;omega,d.imp (fun h=>by omega)⟩];congr 2;rw[Bool.eq_iff_iff,CL,List.contains_iff_mem]
def M8(g:d4)(p:BB):Int:=
 if Oe p.d3 g.d3.length≠0 then Oe p.d3 g.d3.length else if Oe p.d5 g.d5.length≠0 then Oe p.d5 g.d5.length else
 (fst (fun i=>if(hasB p.d3 (AA g.d5 (AA p.d5 i)).ns&&hasB p.d3 (AA g.d5 (AA p.d5 i)).To)=true then none else some 14) 0 p.d5.length).getD 0
structure W6(g:d4)(p:BB):Prop where
 ei:(∀x∈p.d3,0<=x/\x<g.d3.length)/\p.d3.Pairwise (·<·)
 em:(∀x∈p.d5,0<=x/\x<g.d5.length)/\p.d5.Pairwise (·<·)
 ends:∀x∈p.d5,(AA g.d5 x).ns∈p.d3/\(AA g.d5 x).To∈p.d3
variable{g:d4}
theorem Ul{p:BB}(h:M8 g p=0):W6 g p:=by
 unfold M8 at h;split at h
 .omega
 .split at h
  .omega
  .rename_i q u;refine⟨Ri (by omega),Ri (by omega),fun x f=>?_⟩;obtain⟨i,j,o,rfl⟩:=BW f;have:=PB (c:=fun i=>if(hasB p.d3 (AA g.d5 (AA p.d5 i)).ns&&hasB p.d3 (AA g.d5 (AA p.d5 i)).To)=true then none else some 14) (fun i=>by
    split<;>simp) h i j o
   split at this
   .rename_i d;rw[up,CL,CL]at d;exact d
   .cases this
def EN(g:d4)(p:BB):Int:=if Bk g≠0 then Bk g else M8 g p
structure PY(p:BB):Prop where
 ei:p.d3.length<=1000
 em:p.d5.length<=1000
theorem Zj{p:BB}(d:PY p):Dv g p=some (EN g p):=by
 unfold Dv EN;rw[KI,bs];refine DX fun o=>?_;have w:=Cp o;unfold LF M8;rw[jB d.ei,bs,jB d.em,bs,Option.bind_fun_some];refine DX fun q=>DX fun u=>?_;obtain⟨a1,x⟩:=Ri q;obtain⟨y,z⟩:=Ri u;rw[BV (fun i=>if(hasB p.d3 (AA g.d5 (AA p.d5 i)).ns&&hasB p.d3 (AA g.d5 (AA p.d5 i)).To)=true then none else some 14),CW];intro i f h _;have j:=y _ (AJ f h);unfold KA;rw[AD f h,bs,AD j.1 j.2];simp[RJ d.ei x];cases hasB p.d3 (AA g.d5 (AA p.d5 i)).ns<;>cases hasB p.d3 (AA g.d5 (AA p.d5 i)).To<;>rfl
theorem VR{p:BB}(d:PY p):H0 g p=some (EN g p):=by
 unfold H0 EN;rw[Lc,bs];refine DX fun o=>?_;have u:=Cp o;unfold NE M8;rw[jG d.ei,bs,jG d.em,bs,Option.bind_fun_some];refine DX fun x=>DX fun q=>?_;obtain⟨w,y⟩:=Ri q;rw[BV (fun i=>if(hasB p.d3 (AA g.d5 (AA p.d5 i)).ns&&hasB p.d3 (AA g.d5 (AA p.d5 i)).To)=true then none else some 14),CW];intro i f h _;have j:=w _ (AJ f h);rw[AD f h,bs,AD j.1 j.2];simp[lD];cases hasB p.d3 (AA g.d5 (AA p.d5 i)).ns<;>cases hasB p.d3 (AA g.d5 (AA p.d5 i)).To<;>rfl
def ME(g:d4)(p:BB):d4:=⟨p.d3.map (AA g.d3),p.d5.map fun x=>⟨(AA g.d5 x).ne,C0 p.d3 (AA g.d5 x).ns,C0 p.d3 (AA g.d5 x).To⟩⟩
variable{i:Int}
theorem G9{α:Type}{f:Int->α}(d:0<=i)(h:i<l.length):(l.take (i+1).toNat).map f=(l.take i.toNat).map f++[f (AA l i)]:=by grind[CF]
theorem Q3(z:l.length<=1000)(h:∀x∈l,0<=x/\x<g.d3.length)(es:List Bl):(sr (fun(y:Int)(u:d4)=>
 (idx l y).bind fun d=>
 (idx g.d3 d).bind fun f=>
 (Ag u.d3 [f]).bind fun j=>
 some (d4.mk j u.d5)) 0 (l.length:Int) (d4.mk [] es))=some (d4.mk (l.map (AA g.d3)) es):=by
 rw [Bj (fun i=>d4.mk ((l.take i.toNat).map (AA g.d3)) es) (by omega) (by simp)]
 .rw[Int.toNat_natCast,List.take_length]
 .intro i o q;have w:=h _ (AJ o q);rw[AD o q,bs,AD w.1 w.2,bs,Ae (by simp;unfold Ad;omega),bs,G9 o q]
theorem UP(B:l.length<=1000)(h:∀x∈l,0<=x/\x<g.d5.length)(o:Fp)(F:Bl->Bl){f:Bl->List Bl->Option (List Bl)}(hf:∀x∈l,∀s,s.length<=1000->f (AA g.d5 x) s=some (s++[F (AA g.d5 x)])):(sr (fun(A:Int)(y:d4)=>
 (idx l A).bind fun q=>
 (idx g.d5 q).bind fun u=>
 (f u y.d5).bind fun w=>
 some (d4.mk y.d3 w)) 0 (l.length:Int) (d4.mk o []))=some (d4.mk o (l.map fun x=>F (AA g.d5 x))):=by
 rw [Bj (fun i=>d4.mk o ((l.take i.toNat).map fun x=>F (AA g.d5 x))) (by omega) (by simp)]
 .rw[Int.toNat_natCast,List.take_length]
 .intro i d j;have z:=h _ (AJ d j);rw[AD d j,bs,AD z.1 z.2,bs,hf _ (AJ d j) _ (by simp;omega),bs,G9 d j]
theorem cw{p:BB}(d:PY p):Dj g p=some (if EN g p≠0 then(⟨[],[]⟩,⟨[],[]⟩,EN g p)else(ME g p,⟨p.d3,p.d5⟩,0)):=by
 unfold Dj;rw[Zj d,bs];refine Dp fun h=>?_;have w:Bk g=0/\M8 g p=0:=by
  grind [EN]
 have ho:=Ul w.2;rw[Q3 d.ei ho.ei.1,bs];have:=UP (g:=g) (l:=p.d5) d.em ho.em.1 (p.d3.map (AA g.d3)) (fun x=>⟨x.ne,C0 p.d3 x.ns,C0 p.d3 x.To⟩) (f:=fun j s=>
  (slices_BinarySearch_int p.d3 j.ns).bind fun o=>
  (slices_BinarySearch_int p.d3 j.To).bind fun q=>
  Ag s [Bl.mk j.ne o.1 q.1]) (fun x u s y=>by
   have he:=ho.ends x u;rw[RJ d.ei ho.ei.2,bs,RJ d.ei ho.ei.2,bs,Ae (by simp;unfold Ad;omega),TQ ho.ei.2 he.1,TQ ho.ei.2 he.2])
 simp [Option.bind_assoc]at this;rw[this,bs];unfold slices_Clone_int;have z:=d.ei;have A:=d.em;rw[BE (by unfold Ad;omega),bs,BE (by unfold Ad;omega)];rfl
theorem V9{p:BB}(j:PY p):HC g p=some (if EN g p≠0 then(⟨[],[]⟩,⟨[],[]⟩,EN g p)else(ME g p,⟨p.d3,p.d5⟩,0)):=by
 unfold HC;rw[VR j,bs];refine Dp fun h=>?_;have u:Bk g=0/\M8 g p=0:=by
  grind [EN]
 have ho:=Ul u.2;rw[Q3 j.ei ho.ei.1,bs];have:=UP (g:=g) (l:=p.d5) j.em ho.em.1 (p.d3.map (AA g.d3)) (fun x=>⟨x.ne,C0 p.d3 x.ns,C0 p.d3 x.To⟩) (f:=fun d s=>
  (H1 p.d3 d.ns).bind fun o=>
  (H1 p.d3 d.To).bind fun q=>
  Ag s [Bl.mk d.ne o q]) (fun x w s y=>by
   grind [oF,Ae,Ad])
 simp [Option.bind_assoc]at this;rw[this,bs];have z:=j.ei;have A:=j.em;rw[BE (by unfold Ad;omega),bs,BE (by unfold Ad;omega)];rfl
end Go.Sf.Sc
namespace Go.Sf.Sc
open Go Go.Sf
def Kg(a b:d4)(m:d6)(i:Int):QQ:=
 if AA m.d3 i<0\/b.d3.length<=AA m.d3 i then some 6 else if AA b.d3 (AA m.d3 i)≠AA a.d3 i then some 13 else none
def Gp(a b:d4)(m:d6)(i:Int):QQ:=
 if AA m.d5 i<0\/b.d5.length<=AA m.d5 i then some 6 else
 if (AA a.d5 i).ne≠(AA b.d5 (AA m.d5 i)).ne then some 13 else
 if AA m.d3 (AA a.d5 i).ns≠(AA b.d5 (AA m.d5 i)).ns\/AA m.d3 (AA a.d5 i).To≠(AA b.d5 (AA m.d5 i)).To then some 11 else none
def IR(a b:d4)(m:d6):Int:=
 if Bk a≠0 then Bk a else if Bk b≠0 then Bk b else if m.d3.length≠a.d3.length\/m.d5.length≠a.d5.length then 20 else
 match fst (Kg a b m) 0 m.d3.length with
 |some e=>e|none=>(fst (Gp a b m) 0 m.d5.length).getD 0
structure Wf(a b:d4)(m:d6):Prop where
 ga:Do a
 gb:Do b
 AaH:m.d3.length=a.d3.length
 AaQ:m.d5.length=a.d5.length
 node:∀i:Int,0<=i->i<m.d3.length->(0<=AA m.d3 i/\AA m.d3 i<b.d3.length)/\AA b.d3 (AA m.d3 i)=AA a.d3 i
 edge:∀i:Int,0<=i->i<m.d5.length->(0<=AA m.d5 i/\AA m.d5 i<b.d5.length)/\(AA a.d5 i).ne=(AA b.d5 (AA m.d5 i)).ne/\
  AA m.d3 (AA a.d5 i).ns=(AA b.d5 (AA m.d5 i)).ns/\AA m.d3 (AA a.d5 i).To=(AA b.d5 (AA m.d5 i)).To
variable{m:d6}
theorem Sl{a b:d4}(h:IR a b m=0):Wf a b m:=by
 unfold IR at h;split at h
 .omega
 split at h
 .omega
 split at h
 .cases h
 rename_i o q u;have j:fst (Kg a b m) 0 m.d3.length=none:=by
  grind [Cz,Kg]
 rw [j]at h;have he:=PB (fun i=>by
  grind [Gp]) h
 refine ⟨Cp (by omega),Cp (by omega),by omega,by omega,fun i d f=>?_,fun i d f=>?_⟩
 .grind[B2,Kg]
 grind [Gp]
theorem Wm(a b:d4)(m:d6):C1 a b m=some (IR a b m):=by
 unfold C1 IR;rw[KI,bs,KI,bs];refine DX fun u=>DX fun w=>Kc (by simp;try omega) fun z=>?_;have ga:=Cp u;have gb:=Cp w;rw[BV (Kg a b m),Dk]
 .cases x:fst (Kg a b m) 0 m.d3.length with
  |some e=>rfl|none=>
   have y:=B2.1 x;dsimp only;rw[BV (Gp a b m),CW];intro i h q _;unfold Gp;rw[AD h q,bs];by_cases d:AA m.d5 i<0\/b.d5.length<=AA m.d5 i
   .rw[ae (by simpa using d),ae d];rfl
   .have hf:=ga.fit _ (AJ (l:=a.d5) h (by omega));rw[az (by simpa using d),az d,AD h (by omega),bs,AD (by omega) (by omega),bs];by_cases f:(AA a.d5 i).ne=(AA b.d5 (AA m.d5 i)).ne
    .rw[az (by simpa using f),az (by simpa using f),AD (by omega) (by omega),bs];by_cases j:AA m.d3 (AA a.d5 i).ns=(AA b.d5 (AA m.d5 i)).ns
     .rw[az (by simpa using j),AD (by omega) (by omega),bs,bs];by_cases o:AA m.d3 (AA a.d5 i).To=(AA b.d5 (AA m.d5 i)).To
      .rw[az (by simpa using o),az (by simp[j,o])];rfl
      .rw[ae (by simpa using o),ae (.inr o)];rfl
     .rw[ae (by simpa using j),bs,ae rfl,ae (.inl j)];rfl
    .rw[ae (by simpa using f),ae f];rfl
 .intro i h q _;unfold Kg;rw[AD h q,bs];by_cases d:AA m.d3 i<0\/b.d3.length<=AA m.d3 i
  .rw[ae (by simpa using d),ae d];rfl
  .rw[az (by simpa using d),az d,AD (by omega) (by omega),bs,AD h (by omega),bs];by_cases f:AA b.d3 (AA m.d3 i)=AA a.d3 i
   .rw[az (by simpa using f),az (by simpa using f)];rfl
   .rw[ae (by simpa using f),ae f];rfl
theorem SK{x y:Prop}[Decidable x][Decidable y]:(if decide x=true then some true else some (decide y))=some (decide (x\/y)):=by grind
theorem Wt(a b:d4)(m:d6):GY a b m=some (IR a b m):=by
 unfold GY IR;rw[Lc,bs,Lc,bs];refine DX fun u=>DX fun w=>Kc (by simp;try omega) fun z=>?_;have ga:=Cp u;have gb:=Cp w;rw[show(a.d3.length:Int)=m.d3.length by omega,show(a.d5.length:Int)=m.d5.length by omega,BV (Kg a b m),Dk]
 .cases x:fst (Kg a b m) 0 m.d3.length with
  |some e=>rfl|none=>
   have y:=B2.1 x;dsimp only;rw[BV (Gp a b m),CW];intro i h q _;unfold Gp;rw[AD h q];simp only[bs,SK];by_cases d:AA m.d5 i<0\/b.d5.length<=AA m.d5 i
   .rw[ae (by simpa using d),ae d];rfl
   .have hf:=ga.fit _ (AJ (l:=a.d5) h (by omega));rw[az (by simpa using d),az d,AD h (by omega),bs,AD (by omega) (by omega),bs];by_cases f:(AA a.d5 i).ne=(AA b.d5 (AA m.d5 i)).ne
    .rw[az (by simpa using f),az (by simpa using f),AD (by omega) (by omega),bs];by_cases j:AA m.d3 (AA a.d5 i).ns=(AA b.d5 (AA m.d5 i)).ns
     .rw[az (by simpa using j),AD (by omega) (by omega),bs,bs];by_cases o:AA m.d3 (AA a.d5 i).To=(AA b.d5 (AA m.d5 i)).To
      .rw[az (by simpa using o),az (by simp[j,o])];rfl
      .rw[ae (by simpa using o),ae (.inr o)];rfl
     .rw[ae (by simpa using j),bs,ae rfl,ae (.inl j)];rfl
    .rw[ae (by simpa using f),ae f];rfl
 .intro i h q _;unfold Kg;rw[AD h q];simp only[bs,SK];by_cases d:AA m.d3 i<0\/b.d3.length<=AA m.d3 i
  .rw[ae (by simpa using d),ae d];rfl
  .rw[az (by simpa using d),az d,AD (by omega) (by omega),bs,AD h (by omega),bs];by_cases f:AA b.d3 (AA m.d3 i)=AA a.d3 i
   .rw[az (by simpa using f),az (by simpa using f)];rfl
   .rw[ae (by simpa using f),ae f];rfl
def IM(l:Fp):Bool:=!o4 (fun i=>o4 (fun j=>decide (AA l i=AA l j)) 0 i) 0 l.length
variable{l:Fp}
theorem Qv:IM l=true↔l.Nodup:=by grind[IM,Bool.not_eq_true',Bc,S3,Kj]
theorem Ws(l:Fp):Ee l=some (IM l):=by
 unfold Ee IM;rw[BL (fun i=>o4 (fun j=>decide (AA l i=AA l j)) 0 i) false]
 .cases o4 (fun i=>o4 (fun j=>decide (AA l i=AA l j)) 0 i) 0 l.length<;>rfl
 .intro i d f _;rw[BL (fun j=>decide (AA l i=AA l j)) false]
  .cases o4 (fun j=>decide (AA l i=AA l j)) 0 i<;>rfl
  .intro j h o _;rw[AD d f,bs,AD h (by omega),bs,Hx]
theorem X2(f:l.length<=1000):∃k,Fy l=some k/\decide (k=(l.length:Int))=IM l:=by
 have d:(PF l).length=l.length:=(OD l).length_eq;refine⟨((Go.Lib.compact (PF l)).length:Int),?_,?_⟩
 .grind[Fy,slices_Clone_int,slices_Sort_int,slices_Compact_int,BE,Ad]
 .rw[Bool.eq_iff_iff,Qv,zzX,<-(OD l).nodup_iff,<-RS (Oh l),d];omega
def Js(m:d6):Bool:=IM m.d3&&IM m.d5
theorem jC{a b:d4}(h:IR a b m=0):Cj a b m=some (Js m):=by
 have ho:=Sl h;have:=ho.ga.ei;have:=ho.ga.em;have:=ho.AaH;have:=ho.AaQ;obtain⟨k,d,f⟩:=X2 (l:=m.d3) (by omega);obtain⟨j,o,q⟩:=X2 (l:=m.d5) (by omega);unfold Cj Js;rw[Wm,h,bs,ae (decide_eq_true rfl),d];simp[o,f,q];cases IM m.d3<;>rfl
theorem r0{a b:d4}(h:IR a b m=0):He a b m=some (Js m):=by grind[He,Js,Wt,Ws,IM]
def PG(r:gp):Int:=
 if EN r.kq.d4 r.x4≠0 then EN r.kq.d4 r.x4 else
 if IR (ME r.kq.d4 r.x4) r.fd.d4 r.sx≠0 then IR (ME r.kq.d4 r.x4) r.fd.d4 r.sx else if Js r.sx=false then 11 else 0
variable{r:gp}
theorem nf(d:PY r.x4):Il r=some (PG r):=by
 unfold Il PG;rw[cw d,bs];by_cases h:EN r.kq.d4 r.x4=0
 .simp only[h,ne_eq,not_true_eq_false,if_false,decide_true,Bool.not_true,Bool.false_eq_true];rw[Wm,bs];refine DX fun f=>?_;rw[jC f,bs];exact UB fun _=>rfl
 .simp[h]
def S0(r:gp):Int:=if EN r.kq.d4 r.x4≠0 then EN r.kq.d4 r.x4 else IR (ME r.kq.d4 r.x4) r.fd.d4 r.sx
theorem oJ(d:PY r.x4):MN r=some (S0 r):=by
 unfold MN S0;rw[VR d,bs];refine DX fun h=>?_
 grind [V9,Wt]
theorem kL(h:PG r=0):EN r.kq.d4 r.x4=0/\IR (ME r.kq.d4 r.x4) r.fd.d4 r.sx=0/\Js r.sx=true:=by grind[PG]
def BC(l:Fp)(n:Int):Fp:=((List.range n.toNat).map Int.ofNat).filter fun i=>!hasB l i
variable{i:Int}
theorem MP(l:Fp)(h:0<=i):BC l (i+1)=BC l i++if(!hasB l i)=true then[i]else[]:=by
 unfold BC;rw[show(i+1).toNat=i.toNat+1 by omega,List.range_succ,List.map_append,List.filter_append]
 grind
theorem Hh{n x:Int}(h:x∈BC l n):0<=x/\x<n:=by
 unfold BC at h
 grind
theorem PT(l:Fp)(n:Int):(BC l n).length<=n.toNat:=by
 unfold BC
 grind
variable{n:Int}
theorem SR(q:0<=n)(w:n<=1000){f:Int->K1}(hf:∀i,f i=some (hasB l i)):(sr (fun(j:Int)(o:Fp)=>
 (f j).bind fun d=>
 if (!d)=true then
 (Ag o [j]).bind fun h=>
 some h
 else
 some o) 0 n [])=some (BC l n):=by
 refine Bj (BC l) q (by simp[BC]) (fun i u x=>?_);have:=PT l i;rw[hf,bs,MP l u];cases hasB l i
 .rw[ae (by decide),ae (by decide),Ae (by simp;unfold Ad;omega)];rfl
 .rw[az (by decide),az (by decide),List.append_nil]
theorem X4(d:0<=n)(f:n<=1000):JV l n=some (BC l n):=by
 unfold JV;rw[SR d f (fun i=>Kd l i)];rfl
theorem de(d:0<=n)(f:n<=1000):KN n l=some (BC l n):=by
 unfold KN;rw[SR d f (fun i=>lF l i)];rfl
def Hw(r:gp):Fp:=BC r.sx.d3 r.fd.d4.d3.length
def Mj(r:gp):Fp:=BC r.sx.d5 r.fd.d4.d5.length
theorem cz(d:Do r.fd.d4):J8 r=some (Hw r,Mj r):=by
 have:=d.ei;have:=d.em;unfold J8;rw[X4 (by omega) (by omega),bs,X4 (by omega) (by omega)];rfl
theorem dR(d:Do r.fd.d4):JC r=some (Hw r,Mj r):=by
 have:=d.ei;have:=d.em;unfold JC;rw[de (by omega) (by omega),bs,de (by omega) (by omega)];rfl
def LK(t:AC)(g:d4)(i:Int):Bool:=Qy t (AA g.d5 i).ne (AA g.d3 (AA g.d5 i).ns) (AA g.d3 (AA g.d5 i).To)
def Xn(t:AC)(g:d4)(ei em:Fp):Bool:=!(ei.any fun i=>(AA t.d3 (AA g.d3 i)).Aaq)&&!(em.any fun i=>!LK t g i)
variable{t:AC}{g:d4}
theorem rx(hf:At t)(o:Do g)(q:Cl t g=true){ei em:Fp}(u:∀x∈ei,0<=x/\x<g.d3.length)(he:∀x∈em,0<=x/\x<g.d5.length):Fk t g ei em=some (Xn t g ei em):=by
 have h:=H7 o q;unfold Fk Xn;rw[Rt (p:=fun i=>(AA t.d3 (AA g.d3 i)).Aaq) (fun x f=>by
  have d:=u x f;have j:=h.1 _ (AJ d.1 d.2);unfold KS;rw[AD d.1 d.2,bs,AD j.1 j.2];rfl),bs,Rt (p:=fun i=>!LK t g i) (fun x f=>by
  have d:=he x f;have j:=o.fit _ (AJ d.1 d.2);unfold FQ;rw[AD d.1 d.2,bs,AD (by omega) (by omega),bs,AD (by omega) (by omega),bs,cx hf];rfl)]
 grind
theorem r7(hf:At t)(q:Do g)(u:Cl t g=true){ei em:Fp}(w:∀x∈ei,0<=x/\x<g.d3.length)(he:∀x∈em,0<=x/\x<g.d5.length):J4 t g ei em=some (Xn t g ei em):=by
 have j:=H7 q u;unfold J4 Xn;rw[HN,HN,BL (fun i=>(AA t.d3 (AA g.d3 (AA ei i))).Aaq) false]
 .rw[BL (fun i=>!LK t g (AA em i)) false]
  .cases o4 (fun i=>(AA t.d3 (AA g.d3 (AA ei i))).Aaq) 0 ei.length
   .cases o4 (fun i=>!LK t g (AA em i)) 0 em.length<;>rfl
   .rfl
  .intro i f h _;have d:=he _ (AJ f h);have o:=q.fit _ (AJ d.1 d.2);rw[AD f h,bs,AD d.1 d.2,bs,AD (by omega) (by omega),bs,AD (by omega) (by omega),bs,dO hf,bs,Hx];rfl
 .intro i f h _;have d:=w _ (AJ f h);have o:=j.1 _ (AJ d.1 d.2);rw[AD f h,bs,AD d.1 d.2,bs,AD o.1 o.2,bs,Hx]
end Go.Sf.Sc
namespace Go.Sf.Sc
open Go Go.Sf
structure Mf(p:ec):Prop where
 ei:p.d4.d3.length<=45
 em:p.d4.d5.length<=90
 slots:p.ff.length<=15
 tests:p.sc.length<=15
structure aE(m:d6):Prop where
 ei:m.d3.length<=140
 em:m.d5.length<=140
inductive DV:d7->Prop where
 |mk (c:d7) (hq:Mf c.ec) (hm:aE c.Map) (hk:∀k∈c.hT,DV k):DV c
variable{c:d7}
theorem DV.q(h:DV c):Mf c.ec:=by cases h;assumption
theorem DV.m(h:DV c):aE c.Map:=by cases h;assumption
theorem DV.k(h:DV c):∀k∈c.hT,DV k:=by cases h;assumption
theorem E1{c k:d7}(h:k∈c.hT):SizeOf.sizeOf k<SizeOf.sizeOf c:=by
 have:=List.sizeOf_lt_of_mem h;cases c
 grind
theorem D8(c:d7):0<SizeOf.sizeOf c:=by
 cases c
 grind
def N8(c:d7):Bool:=decide (c.Map.d3.length=0/\c.Map.d5.length=0/\c.ec.d4.d3.length=0/\c.ec.d4.d5.length=0/\c.ec.ff.length=0/\c.ec.sc.length=0/\c.ec.hV=0)
theorem nV(hf:DV c):EZ c=some (N8 c):=by
 have d:=hf.q;have f:=hf.m;have:=d.ei;have:=d.em;have:=d.slots;have:=d.tests;have:=f.ei;have:=f.em;unfold EZ N8;rw[As (n:=(c.Map.d3.length:Int)+c.Map.d5.length) (by omega) (by omega),As (n:=(c.Map.d3.length:Int)+c.Map.d5.length+c.ec.d4.d3.length) (by omega) (by omega),
  As (n:=(c.Map.d3.length:Int)+c.Map.d5.length+c.ec.d4.d3.length+c.ec.d4.d5.length) (by omega) (by omega),
  As (n:=(c.Map.d3.length:Int)+c.Map.d5.length+c.ec.d4.d3.length+c.ec.d4.d5.length+c.ec.ff.length) (by omega) (by omega),
  As (n:=(c.Map.d3.length:Int)+c.Map.d5.length+c.ec.d4.d3.length+c.ec.d4.d5.length+c.ec.ff.length+c.ec.sc.length) (by omega) (by omega)]
 congr 1
 grind
theorem gK(hf:DV c):Gt c=some (N8 c):=by
 have d:=hf.q;have f:=hf.m;have:=d.ei;have:=d.em;have:=d.slots;have:=d.tests;have:=f.ei;have:=f.em;unfold Gt N8;rw[As (n:=(c.Map.d3.length:Int)+c.Map.d5.length) (by omega) (by omega),As (n:=(c.Map.d3.length:Int)+c.Map.d5.length+c.ec.d4.d3.length) (by omega) (by omega),
  As (n:=(c.Map.d3.length:Int)+c.Map.d5.length+c.ec.d4.d3.length+c.ec.d4.d5.length) (by omega) (by omega),
  As (n:=(c.ec.ff.length:Int)+c.ec.sc.length) (by omega) (by omega)]
 congr 1
 grind
def Q5(c:d7):Bool:=
 if c.og=1 then decide (c.hT.length=0)&&N8 c else if c.og=2 then decide (c.hT.length=1)&&N8 c else
 if c.og=3\/c.og=4 then decide (1<=c.hT.length)&&N8 c else if c.og=5 then decide (c.hT.length=1)else false
def QJ:Nat->d7->Bool
 |0,_=>false|n+1,c=>Q5 c&&c.hT.all (QJ n)
theorem nv:∀(N:Nat)(c:d7),SizeOf.sizeOf c<=N->DV c->∀n,2*N<=n->BJ n c=some (QJ N c)
 |0,c,h,_,_,_=>by have:=D8 c;omega|N+1,c,h,hf,n,B=>by
  obtain ⟨n,rfl⟩:∃m,n=m+2:=⟨n-2,by omega⟩;rw[BJ,QJ,nV hf];have f:Bg c.hT (BT (n+1))=some (!c.hT.all (QJ N)):=by
   rw [XF (p:=fun k=>!QJ N k) (fun k f=>by
    have:=E1 f;rw[BT,nv N k (by omega) (hf.k k f) n (by omega)];rfl),List.all_eq_not_any_not,Bool.not_not]
  rw [f];unfold Q5;simp only[bs,zzX];generalize N8 c=b;generalize c.hT.all (QJ N)=w;have y:decide ((c.hT.length:Int)=0)=decide (c.hT.length=0):=by rw[decide_eq_decide];omega
  have z:decide ((c.hT.length:Int)=1)=decide (c.hT.length=1):=by rw[decide_eq_decide];omega
  have A:decide (1<=(c.hT.length:Int))=decide (1<=c.hT.length):=by rw[decide_eq_decide];omega
  simp only[show((c.hT.length:Int)=0)↔c.hT.length=0 by omega,show((c.hT.length:Int)=1)↔c.hT.length=1 by omega,show(1<=(c.hT.length:Int))↔1<=c.hT.length by omega];by_cases j:c.og=1
  .rw[ae j,ae j];by_cases d:c.hT.length=0<;>cases b<;>cases w<;>simp[d]
  .rw[az j,az j];by_cases o:c.og=2
   .rw[ae o,ae o];by_cases d:c.hT.length=1<;>cases b<;>cases w<;>simp[d]
   .rw[az o,az o];by_cases u:c.og=3
    .simp[u,true_or];by_cases d:1<=c.hT.length<;>cases b<;>cases w<;>simp[d]
    .by_cases x:c.og=4
     .simp[x,or_true,show¬(4:Int)=3 by decide];by_cases d:1<=c.hT.length<;>cases b<;>cases w<;>simp[d]
     .simp only[u,x,if_false,or_false];by_cases q:c.og=5
      .rw[ae q,ae q];by_cases d:c.hT.length=1<;>cases w<;>simp[d]
      .rw[az q,az q];cases w<;>rfl
theorem oD(hf:DV c):Kx c=some (Q5 c):=by
 unfold Kx Q5;rw[gK hf];simp[zzX];generalize N8 c=b;simp[show((c.hT.length:Int)=0)↔c.hT.length=0 by omega,show((c.hT.length:Int)=1)↔c.hT.length=1 by omega,show(0<(c.hT.length:Int))↔1<=c.hT.length by omega]
 grind
theorem mh{α:Type}[Inhabited α]{l:List α}{p:α->Bool}:l.all p=!o4 (fun i=>!p (AA l i)) 0 l.length:=by
 rw [List.all_eq_not_any_not,HN]
theorem jF:∀(N:Nat)(c:d7),SizeOf.sizeOf c<=N->DV c->∀n,N<=n->D6 n c=some (QJ N c)
 |0,c,h,_,_,_=>by have:=D8 c;omega|N+1,c,h,hf,n,o=>by
  obtain ⟨n,rfl⟩:∃m,n=m+1:=⟨n-1,by omega⟩;rw[D6,QJ,oD hf,bs,mh,BL (fun i=>!QJ N (AA c.hT i)) false]
  .cases Q5 c
   .rfl
   .cases o4 (fun i=>!QJ N (AA c.hT i)) 0 c.hT.length<;>rfl
  .intro i d f _;have j:=AJ (l:=c.hT) d f;have:=E1 j;rw[AD d f,bs,jF N _ (by omega) (hf.k _ j) n (by omega),bs,Hx]
noncomputable def jY(c:d7):Bool:=QJ (SizeOf.sizeOf c) c
theorem ry(hf:DV c):Ew c=some (jY c):=EG (2*SizeOf.sizeOf c) fun n d=>nv _ c (bk _) hf n d
theorem sB(hf:DV c):Mw c=some (jY c):=EG (SizeOf.sizeOf c) fun n d=>jF _ c (bk _) hf n d
def L6:Nat->d7->Int×Int
 |0,_=>(0,0)|n+1,c=>
  let s:=c.hT.foldl (fun s k=>(Af (s.1+(L6 n k).1),max s.2 (L6 n k).2)) ((1,0):Int×Int)
  (s.1,if c.og=5 then Af (s.2+1)else s.2)
theorem V1{α σ:Type}[Inhabited α]{l:List α}{g:σ->α->σ}{s:σ}{f:Int->σ->Option σ}(h:∀(i:Int)s,0<=i->i<l.length->f i s=some (g s (AA l i))):sr f 0 l.length s=some (l.foldl g s):=by
 rw [Bj (fun i=>(l.take i.toNat).foldl g s) (by omega) (by simp)]
 .rw[Int.toNat_natCast,List.take_length]
 grind [CF]
theorem dE:∀(N:Nat)(c:d7),SizeOf.sizeOf c<=N->∀n,N<=n->CC n c=some (L6 N c)
 |0,c,h,_,_=>by have:=D8 c;omega|N+1,c,h,n,j=>by
  obtain ⟨n,rfl⟩:∃m,n=m+1:=⟨n-1,by omega⟩;rw[CC,L6,V1 (g:=fun s k=>(Af (s.1+(L6 N k).1),max s.2 (L6 N k).2))]
  .grind
  .intro i s d f;have:=E1 (AJ (l:=c.hT) d f);rw[AD d f,bs,dE N _ (by omega) n (by omega)];rfl
theorem dY:∀(N:Nat)(c:d7),SizeOf.sizeOf c<=N->∀n,N<=n->Ef n c=some (L6 N c)
 |0,c,h,_,_=>by have:=D8 c;omega|N+1,c,h,n,j=>by
  obtain ⟨n,rfl⟩:∃m,n=m+1:=⟨n-1,by omega⟩;rw[Ef,L6,V1 (g:=fun s k=>(Af (s.1+(L6 N k).1),max s.2 (L6 N k).2))]
  .grind
  .intro i s d f;have:=E1 (AJ (l:=c.hT) d f);rw[AD d f,bs,dY N _ (by omega) n (by omega)];rfl
noncomputable def Wj(c:d7):Int×Int:=L6 (SizeOf.sizeOf c) c
noncomputable def Ou(c:d7):Int:=if jY c=false then 1 else if 12<(Wj c).1\/3<(Wj c).2 then 3 else 0
theorem km(hf:DV c):D5 c=some (Ou c):=by
 unfold D5 Ou;rw[ry hf,bs,show GF c=some (Wj c)from EG (SizeOf.sizeOf c) fun n d=>dE _ c (bk _) n d,bs]
 grind
theorem lL(hf:DV c):Kv c=some (Ou c):=by
 unfold Kv Ou;rw[sB hf,bs,show N0 c=some (Wj c)from EG (SizeOf.sizeOf c) fun n d=>dY _ c (bk _) n d,bs]
 grind
theorem UO(g:d4):Bk g≠9:=by grind[Bk]
variable{t:AC}{p:ec}
theorem X8(d:(Ax t).2=0)(h:G6 t p=0\/G6 t p=9):0<=p.hV/\p.hV<=12:=by grind[UO,G6]
def SA(t:AC)(q:ec)(v:Int):Int:=if G6 t q≠9 then G6 t q else if o4 (fun i=>!Jv q i) v q.hV=true then 9 else 0
variable{P:Prop}
theorem ta{α:Type}[Decidable P]{v:α}{X:Option α}{Y:α}(h:P->X=some Y):(if(!decide P)=true then some v else X)=some (if¬P then v else Y):=by grind
theorem ru(hf:At t)(f:(Ax t).2=0){q:ec}{v:Int}(u:0<=v)(h:v<=q.hV):DI t q v=some (SA t q v):=by
 unfold DI SA;rw[Ui hf,bs];refine ta fun d=>?_;have hv:=X8 f (.inr d);rw[Li (c:=fun i=>(if(!Jv q i)=true then some ()else none).map fun _=>.inr 9) (a:=v) (b:=q.hV) h]
 .rw[OQ,LY];cases o4 (fun i=>!Jv q i) v q.hV<;>rfl
 .intro i w o _;rw[ae (by simpa using o),show(fun j=>G3 j i)=(fun y=>some (decide (y.kg.Var=i)))from rfl,ZJ,bs,show(q.ff.any fun y=>decide (y.kg.Var=i))=Jv q i from rfl,d,As (by omega) (by omega)];cases Jv q i<;>rfl
 .rw[az (by simp)]
theorem lJ(p:ec)(v:Int):ML p v=some (Jv p v):=jI p v
theorem r6(hf:At t)(q:ec)(v:Int):Kw t v q=some (if q.hV<v then 20 else SA t q v):=by
 unfold Kw SA;refine Kc (by simp) fun _=>?_;rw[Wu hf,bs];refine ta fun d=>?_;rw[d,BL (fun i=>!Jv q i) 9]
 .cases o4 (fun i=>!Jv q i) v q.hV<;>rfl
 .intro i f h _;rw[lJ,bs,Hx]
def Ji:Nat->AC->ec->d7->Int
 |0,_,_,_=>0|N+1,t,p,c=>
  if c.og=5 then
   if c.ec.hV<p.hV then 20 else if SA t c.ec p.hV≠0 then SA t c.ec p.hV else
   if IR p.d4 c.ec.d4 c.Map≠0 then IR p.d4 c.ec.d4 c.Map else if Js c.Map=false then 1 else
   (fst (fun i=>nz (Ji N t c.ec (AA c.hT i))) 0 c.hT.length).getD 0
  else (fst (fun i=>nz (Ji N t p (AA c.hT i))) 0 c.hT.length).getD 0
theorem dH(hf:At t)(o:(Ax t).2=0):∀(N:Nat)(c:d7)(p:ec),0<=p.hV->SizeOf.sizeOf c<=N->∀n,N<=n->Bv n t p c=some (Ji N t p c)
 |0,c,p,_,h,_,_=>by have:=D8 c;omega|N+1,c,p,C,h,n,D=>by
  obtain ⟨n,rfl⟩:∃m,n=m+1:=⟨n-1,by omega⟩;rw[Bv,Ji];have j:∀q:ec,0<=q.hV->(gn (kl (ρ:=Int) (fun(y:Int)(_:Unit)=>
    (idx c.hT y).bind fun f=>
    (Bv n t q f).bind fun d=>
    if (!decide (d=0))=true then
    some (.ret d)
    else
    some (.next ())) 0 (c.hT.length:Int) ()) (fun _=>
    some 0) (fun z=>some z))=some ((fst (fun i=>nz (Ji N t q (AA c.hT i))) 0 c.hT.length).getD 0):=by
   intro q B;rw[BV (fun i=>nz (Ji N t q (AA c.hT i))),CW];intro i u w _;have:=E1 (AJ (l:=c.hT) u w);rw[AD u w,bs,dH hf o N _ q B (by omega) n (by omega),bs,Kh]
  by_cases x:c.og=5
  .rw[ae (by simpa using x),ae x];refine Kc (by simp) fun hv=>?_;rw[ru hf o C (by omega),bs];refine DX fun hi=>?_;rw[Wm,bs];refine DX fun A=>?_;rw[jC A,bs]
   grind
  grind
theorem da(hf:At t):∀(N:Nat)(c:d7)(p:ec),SizeOf.sizeOf c<=N->∀n,N<=n->El n t p c=some (Ji N t p c)
 |0,c,p,h,_,_=>by have:=D8 c;omega|N+1,c,p,h,n,A=>by
  obtain ⟨n,rfl⟩:∃m,n=m+1:=⟨n-1,by omega⟩;rw[El,Ji];have d:∀q:ec,(gn (kl (ρ:=Int) (fun(x:Int)(_:Unit)=>
    (idx c.hT x).bind fun o=>
    (El n t q o).bind fun f=>
    if (!decide (f=0))=true then
    some (.ret f)
    else
    some (.next ())) 0 (c.hT.length:Int) ()) (fun _=>
    some 0) (fun y=>some y))=some ((fst (fun i=>nz (Ji N t q (AA c.hT i))) 0 c.hT.length).getD 0):=by
   intro q;rw[BV (fun i=>nz (Ji N t q (AA c.hT i))),CW];intro i u w _;have:=E1 (AJ (l:=c.hT) u w);rw[AD u w,bs,da hf N _ q (by omega) n (by omega),bs,Kh]
  by_cases j:c.og=5
  .rw[ae (by simpa using j),ae j,r6 hf,bs];by_cases hv:c.ec.hV<p.hV
   .simp[hv]
   .simp only[az hv];refine DX fun hi=>?_;rw[Wt,bs];refine DX fun z=>?_;rw[r0 z,bs];exact UB fun _=>d _
  .rw[az (by simpa using j),az j];exact d p
noncomputable def Lt(t:AC)(p:ec)(c:d7):Int:=if G6 t p≠0 then G6 t p else if Ou c≠0 then Ou c else Ji (SizeOf.sizeOf c) t p c
theorem cy(hf:At t)(d:(Ax t).2=0)(p:ec)(f:DV c):Ch t p c=some (Lt t p c):=by
 unfold Ch Lt;rw[Ui hf,bs];refine DX fun h=>?_;rw[km f,bs,Option.bind_fun_some];exact DX fun _=>EG (SizeOf.sizeOf c) fun n j=>dH hf d _ c p (X8 d (.inl h)).1 (bk _) n j
theorem dQ(hf:At t)(p:ec)(d:DV c):JP t p c=some (Lt t p c):=by
 unfold JP Lt;rw[Wu hf,bs];refine DX fun h=>?_;rw[lL d,bs,Option.bind_fun_some];exact DX fun _=>EG (SizeOf.sizeOf c) fun n f=>da hf _ c p (bk _) n f
end Go.Sf.Sc
namespace Go.Sf.Sc
open Go Go.Sf
structure PZ(r:gp):Prop where
 name:(r.po.size:Int)<=60
 left:Mf r.kq
 right:Mf r.fd
 jj:PY r.x4
 into:aE r.sx
 cond:DV r.d7
noncomputable def FY(t:AC)(r:gp):Int:=
 if (Ax t).2≠0 then(Ax t).2 else if Ed r.po=false then 2 else if G6 t r.kq≠0 then G6 t r.kq else
 if JE t r≠0 then JE t r else if PG r≠0 then PG r else if Xn t r.fd.d4 (Hw r) (Mj r)=false then 13 else Lt t r.kq r.d7
variable{t:AC}{r:gp}
theorem Th(h:JE t r=0):Do r.fd.d4/\Cl t r.fd.d4=true:=by grind[JE,Cp]
theorem dJ(hf:At t)(d:PZ r):GR t r=some (FY t r):=by
 have q:=d.name;unfold GR FY;rw[Mt hf,bs];refine DX fun j=>?_;rw[Ol (by omega),bs];refine UB fun _=>?_;rw[Ui hf,bs];refine DX fun _=>?_;rw[kj hf,bs];refine DX fun f=>?_;have ho:=Th f;rw[nf d.jj,bs];refine DX fun o=>?_;rw[cz ho.1,bs];dsimp only;rw[rx (ei:=Hw r) (em:=Mj r) hf ho.1 ho.2 (fun x h=>Hh h) (fun x h=>Hh h),bs];refine UB fun _=>?_;rw[cy hf j _ d.cond,bs]
theorem df(hf:At t)(d:PZ r):JQ t r=some (FY t r):=by
 have u:=d.name;unfold JQ FY;rw[OU hf,bs];refine DX fun q=>?_;rw[Om (by omega),bs];refine UB fun _=>?_;rw[Wu hf,bs];refine DX fun _=>?_;rw[lK hf,bs];refine DX fun f=>?_;have ho:=Th f;rw[oJ d.jj,bs,Ws,bs];simp only[Ws,bs];have e:(if(!IM r.sx.d3)=true then some true else some (!IM r.sx.d5))=some (!Js r.sx):=by
  grind [Js,IM]
 rw [e,bs];have o:PG r=if S0 r≠0 then S0 r else if Js r.sx=false then 11 else 0:=by
  grind [PG,S0,EN]
 rw [o];by_cases j:S0 r=0
 .simp only[j,ne_eq,not_true_eq_false,if_false,decide_true,Bool.not_true,Bool.false_eq_true];cases hi:Js r.sx
  .simp
  .simp only[Bool.not_true,Bool.false_eq_true,if_false,not_true_eq_false,Bool.true_eq_false];rw[dR ho.1,bs];dsimp only;rw[r7 (ei:=Hw r) (em:=Mj r) hf ho.1 ho.2 (fun x h=>Hh h) (fun x h=>Hh h),bs];refine UB fun _=>?_;rw[dQ hf _ d.cond,bs]
 .simp[j]
def Aa3(t:AC)(l:Fp):Bool:=!(l.any fun k=>t.d3.any fun n=>decide (n.Aad=k))
structure b8(t:AC)(r:gp):Prop where
 left:Do r.kq.d4
 ltyped:Cl t r.kq.d4=true
 right:Do r.fd.d4
 AbS:Cl t r.fd.d4=true
 rtests:r.fd.sc.length=0
 part:W6 r.kq.d4 r.x4
 mor:Wf (ME r.kq.d4 r.x4) r.fd.d4 r.sx
 inj:r.sx.d3.Nodup/\r.sx.d5.Nodup
variable{p:ec}
theorem nw(h:G6 t p=0):Do p.d4/\Cl t p.d4=true:=by grind[G6,Cp]
theorem Zu(h:FY t r=0):(Ax t).2=0/\b8 t r:=by
 unfold FY at h;split at h
 .omega
 split at h
 .cases h
 split at h
 .omega
 split at h
 .omega
 split at h
 .omega
 rename_i o q u w x;have d:=nw (t:=t) (p:=r.kq) (by omega);have f:=Th (t:=t) (r:=r) (by omega);have j:=kL (r:=r) (by omega);have hi:IM r.sx.d3=true/\IM r.sx.d5=true:=by
  grind [Js]
 refine ⟨by omega,d.1,d.2,f.1,f.2,?_,?_,Sl j.2.1,Qv.1 hi.1,Qv.1 hi.2⟩
 .grind[JE]
 grind [EN,Ul]
end Go.Sf.Sc
namespace Go.Sf
variable{a b:Int}
theorem S2{ρ:Type}{f:Int->Option (Bp Int ρ)}(p:Int->Bool)(v:ρ)(d:a<=b)(h:∀i,a<=i->i<b->f i=some (if p i=true then .ret v else .next (i+1)))(j:f b=some (.brk b)):ES f a=some (if o4 p a b=true then .inr v else .inl b):=by
 rw [Li (c:=fun i=>(if p i=true then some ()else none).map fun _=>.inr v) d]
 .grind[OQ,LY,o4]
 .intro i o q _;rw[h i o q];cases p i<;>rfl
 .exact j
theorem G8{α:Type}{e:α->TV}{n:Nat}{l:List α}(h:TV.Sm (.list n (l.map e))):(l.length:Int)<=140737488351232/\∀x∈l,(e x).Sm:=by
 simp [TV.Sm]at h;refine⟨by have:=h.1;unfold reachBytes at this;omega,fun x d=>Sz.1 h.2 _ (List.mem_map.2 ⟨x,d,rfl⟩)⟩
end Go.Sf
namespace Go.Sf.Sc
open Go Go.Sf
def XD(a:mo):Bool:=(decide (40<(a.po.size:Int))||decide (25<(a.wi.length:Int)))||o4 (fun i=>decide (40<((AA a.wi i).size:Int))) 0 a.wi.length
theorem fJ{a:mo}(h:XD a=false):TK a:=by
 unfold XD at h;simp[decide_eq_false_iff_not,Bc]at h;refine⟨by omega,by omega,fun x d=>?_⟩
 grind [BW]
variable{t:AC}
theorem R1(T:(AQ t).Sm):∃b,Jy t=some b/\(b=true->At t):=by
 have K:TV.Sms [_,_]:=T;obtain⟨w,N⟩:=G8 (e:=Eb) K.1;unfold Jy;by_cases hl:20<t.d3.length\/30<t.d5.length
 .rw[ae (by simp;omega)]
  grind
 rw [az (by simp;omega)];rcases Q0 (f:=(fun(A:Int)(Q:Int)=>
 (idx t.d3 A).bind fun y=>
 (if(decide (30<(Af (Q+(y.x3.length:Int)))))=true then some true else((idx t.d3 A).bind fun E=>
 some (decide (40<(E.po.size:Int))))).bind fun F=>
 if F=true then
 some (Bp.ret false)
 else
 gn (ES (ρ:=Bool) (fun(s2:Int)=>
 (idx t.d3 A).bind fun G=>
 if (decide (s2<(G.x3.length:Int)))=true then
 (idx t.d3 A).bind fun H=>
 (idx H.x3 s2).bind fun q=>
 if ((decide (40<(q.po.size:Int)))||(decide (25<(q.wi.length:Int))))=true then
 some (.ret false)
 else
 gn (ES (ρ:=Bool) (fun(x:Int)=>
 if (decide (x<(q.wi.length:Int)))=true then
 (idx q.wi x).bind fun I=>
 if (decide (40<(I.size:Int)))=true then
 some (.ret false)
 else
 some (.next (Af (x+1)))
 else
 some (.brk x)) 0) (fun x=>
 some (.next (Af (s2+1)))) (fun U=>some (.ret U))
 else
 some (.brk s2)) 0) (fun s2=>
 some (.next (Af (Q+(y.x3.length:Int))))) (fun V=>some (.ret V))))
  (fun i s=>0<=s/\s<=30/\∀j,0<=j->j<i->((AA t.d3 j).po.size:Int)<=40/\(AA t.d3 j).x3.length<=30/\∀a∈(AA t.d3 j).x3,TK a) (fun _=>False) (fun r=>r=false) (a:=0) (b:=t.d3.length) (s:=0) (by omega) ⟨by omega,by omega,fun j z d=>by omega⟩ (fun i s B C W=>by
   have Z:=N _ (AJ (l:=t.d3) B C);have L:TV.Sms [_,_,_,_]:=Z;obtain⟨ha,O⟩:=G8 (e:=GN) L.2.2.2.1;obtain⟨hI1,hI2,hI3⟩:=W;have hw:Af (s+(AA t.d3 i).x3.length)=s+(AA t.d3 i).x3.length:=As (by omega) (by omega);simp only[AD B C,bs,hw,SK];by_cases hc:30<s+(AA t.d3 i).x3.length\/40<((AA t.d3 i).po.size:Int)
   .grind
   rw [az (by simpa using hc)];rw[S2 (fun j=>XD (AA (AA t.d3 i).x3 j)) false (b:=(AA t.d3 i).x3.length) (by omega)]
   .cases S:o4 (fun j=>XD (AA (AA t.d3 i).x3 j)) 0 (AA t.d3 i).x3.length
    .refine .inl ⟨_,rfl,by omega,by omega,fun j J D=>?_⟩
     grind [BW,fJ,Bc]
    .exact .inr (.inr ⟨_,rfl,rfl⟩)
   .intro j J D;rw[ae (by simpa using D),AD J D,bs];have hy:=O _ (AJ (l:=(AA t.d3 i).x3) J D);have M:TV.Sms [_,_,_,_]:=hy;obtain⟨hm,_⟩:=G8 (e:=eS) M.2.2.2.1;unfold XD;cases z:(decide (40<((AA (AA t.d3 i).x3 j).po.size:Int))||decide (25<((AA (AA t.d3 i).x3 j).wi.length:Int)))
    .rw[az (by decide),S2 (fun k=>decide (40<((AA (AA (AA t.d3 i).x3 j).wi k).size:Int))) false (b:=(AA (AA t.d3 i).x3 j).wi.length) (by omega)]
     .cases o4 (fun k=>decide (40<((AA (AA (AA t.d3 i).x3 j).wi k).size:Int))) 0 (AA (AA t.d3 i).x3 j).wi.length
      .rw[Bool.or_false,As (show -9223372036854775808<=j+1 by omega) (by omega)];rfl
      .rfl
     .intro k u o;rw[ae (by simpa using o),AD u o,bs,As (show -9223372036854775808<=k+1 by omega) (by omega),Hx]
     .rw[az (by simp)]
    .rfl
   .rw[az (by simp)])with⟨s',z,d⟩|⟨r,z,d⟩
 .rw[z];rcases d with d|d
  .rw[Bh,BL (fun i=>decide (40<((AA t.d5 i).po.size:Int))) false]
   .cases S:o4 (fun i=>decide (40<((AA t.d5 i).po.size:Int))) 0 t.d5.length
    .refine⟨true,rfl,fun _=>⟨by omega,by omega,fun n w=>?_,fun n w=>?_,fun n w=>?_,fun e he=>?_⟩⟩
     .obtain⟨k,u,o,rfl⟩:=BW w;exact(d.2.2 k u o).1
     .obtain⟨k,u,o,rfl⟩:=BW w;exact(d.2.2 k u o).2.1
     .obtain⟨k,u,o,rfl⟩:=BW w;exact(d.2.2 k u o).2.2
     .obtain⟨k,u,o,rfl⟩:=BW he;have:=Bc.1 S k u o;simpa using this
    .exact⟨false,rfl,fun h=>by cases h⟩
   .intro i B C _;rw[AD B C,bs,Hx]
  .exact d.elim
 .rw[z];subst d;exact⟨false,rfl,fun h=>by cases h⟩
theorem P3(p:ec):∃b,Ij p=some b/\(b=true->Mf p):=by
 refine ⟨_,rfl,fun h=>?_⟩;simp[zzX]at h;exact⟨by omega,by omega,by omega,by omega⟩
variable{a b:Int}
theorem VF(h:0<=a)(d:a<=140737488351232)(j:0<=b)(f:b<=140737488351232):Af (a+b)=a+b:=As (by omega) (by omega)
variable{m:d6}
theorem VE(f:(Ap m).Sm):∃b,Jz m 140=some b/\(b=true->aE m):=by
 have d:TV.Sms [_,_]:=f;have j:=(G8 (e:=eI) d.1).1;have o:=(G8 (e:=eI) d.2.1).1;refine⟨_,rfl,fun h=>?_⟩;rw[VF (by omega) j (by omega) o]at h;simp[zzX]at h;exact⟨by omega,by omega⟩
theorem fP{m:BB}(f:(GO m).Sm):∃b,PN m 140=some b/\(b=true->PY m):=by
 have d:TV.Sms [_,_]:=f;have j:=(G8 (e:=eI) d.1).1;have o:=(G8 (e:=eI) d.2.1).1;refine⟨_,rfl,fun h=>?_⟩;rw[VF (by omega) j (by omega) o]at h;simp[zzX]at h;exact⟨by omega,by omega⟩
variable{c:d7}
theorem ZL(h:(AK c).Sm):(Ap c.Map).Sm/\(c.hT.length:Int)<=140737488351232/\∀k∈c.hT,(AK k).Sm:=by
 have f:TV.Sms [_,_,_,_,_,_,_,_,_]:=h;obtain⟨_,d,j,o,_⟩:=f;rw[Lx]at d;obtain⟨q,u⟩:=G8 d;exact⟨⟨j,o,trivial⟩,q,u⟩
theorem XR:∀(N:Nat)(c:d7),SizeOf.sizeOf c<=N->(AK c).Sm->∀tl:Int,0<=tl->tl<=1000->∃r,(∀n,N<=n->CZ n c tl=some r)/\-1<=r/\r<=tl-1/\(0<=r->DV c)
 |0,c,h,_,_,_,_=>by have:=D8 c;omega|N+1,c,h,hs,tl,m0,m1=>by
  obtain ⟨O,Q,B⟩:=ZL hs;obtain⟨S,E,T⟩:=P3 c.ec;obtain⟨U,I,V⟩:=VE O;have step:∀n,N+1<=n->∃m,n=m+1/\N<=m:=fun n d=>⟨n-1,by omega,by omega⟩;cases S
  .refine⟨-1,fun n d=>?_,by omega,by omega,fun h=>by omega⟩;obtain⟨n,rfl,_⟩:=step n d;rw[CZ,E];rfl
  cases U
  .refine⟨-1,fun n d=>?_,by omega,by omega,fun h=>by omega⟩;obtain⟨n,rfl,_⟩:=step n d;rw[CZ,E,bs,I];rfl
  have loop:∀(m:Nat)(k left:Int),0<=k->k+m=c.hT.length->-1<=left->left<=1000->∃f u,(∀n,N<=n->LJ (ρ:=Int) (fun(q:Int×Int)=>
    if ((decide (q.2<(c.hT.length:Int)))&&(decide (0<=q.1)))=true then
    (idx c.hT q.2).bind fun x=>
    (CZ n x q.1).bind fun y=>
    some (.next (y,Af (q.2+1)))
    else
    some (.brk (q.1,q.2))) (left,k) (.inl (f,u)))/\-1<=f/\f<=left/\(0<=f->∀j,k<=j->j<c.hT.length->DV (AA c.hT j)):=by
   intro m
   induction m with
   |zero=>
    intro k left C K D l1;refine⟨left,k,fun n d=>.brk ?_,D,by omega,fun _ j z w=>by omega⟩;rw[az (by simp;omega)]
   |succ m ih=>
    intro k left C K D l1;by_cases L:0<=left
    .have o:=AJ (l:=c.hT) C (by omega);have:=E1 o;obtain⟨r,W,Z,r3,r4⟩:=XR N _ (by omega) (B _ o) left L l1;obtain⟨f,u,a1,F,J,G⟩:=ih (k+1) r (by omega) (by omega) Z (by omega);refine⟨f,u,fun n d=>.next (s':=(r,k+1)) ?_ (a1 n d),F,by omega,fun A j z w=>?_⟩
     .rw[ae (by simp;omega),AD C (by omega),bs,W n d,bs,As (by omega) (by omega)]
     .by_cases M:j=k
      .subst M;exact r4 (by omega)
      .exact G A j (by omega) w
    .refine⟨left,k,fun n d=>.brk ?_,D,by omega,fun h=>by omega⟩;rw[az (by simp;omega)]
  obtain ⟨f,u,a1,F,J,G⟩:=loop c.hT.length 0 (tl-1) (by omega) (by omega) (by omega) (by omega);refine⟨f,fun n d=>?_,F,J,fun A=>.mk c (T rfl) (V rfl) (fun k B=>?_)⟩
  .obtain⟨n,rfl,H⟩:=step n d;rw[CZ,E,bs,I];simp only[bs,Bool.not_true,Bool.false_eq_true,if_false];rw[As (n:=tl-1) (by omega) (by omega),(a1 n H).eq,Bh]
  .obtain⟨j,z,w,rfl⟩:=BW B;exact G A j z w
theorem fO(d:(AK c).Sm):∃b,Ik c=some b/\(b=true->DV c):=by
 obtain ⟨r,f,_,_,j⟩:=XR (SizeOf.sizeOf c) c (bk _) d 40 (by omega) (by omega);have e:OH c 40=some r:=EG (SizeOf.sizeOf c) f;unfold Ik;rw[e];exact⟨_,rfl,fun h=>j (by simpa using h)⟩
theorem Jp{b:Bool}{o:K1}{c:Bool}(h:o=some c):(if b=true then o.bind fun x=>some x else some false)=some (b&&c):=by
 subst h;cases b<;>rfl
variable{r:gp}
theorem fQ(d:(Bx r).Sm):∃b,Nn r=some b/\(b=true->PZ r):=by
 have f:TV.Sms [_,_,_,_,_,_,_,_,_,_,_,_,_,_,_,_,_,_,_,_,_,_,_,_,_]:=d;obtain⟨_,_,_,_,_,_,_,_,_,_,_,j,o,q,u,_,w,x,y,z,c5,A,B,C,c9,_⟩:=f;obtain⟨N,D,E⟩:=P3 r.kq;obtain⟨O,F,G⟩:=P3 r.fd;obtain⟨Q,H,I⟩:=fP (m:=r.x4) ⟨j,o,trivial⟩;obtain⟨S,J,K⟩:=VE (m:=r.sx) ⟨q,u,trivial⟩;obtain⟨T,L,M⟩:=fO (c:=r.d7) ⟨w,x,y,z,c5,A,B,C,c9,trivial⟩;unfold Nn;rw[Jp D,bs,Jp F,bs,Jp H,bs,Jp J,bs,Jp L,bs];refine⟨_,rfl,fun h=>?_⟩;simp[zzX]at h;exact⟨h.1.1.1.1.1,E h.1.1.1.1.2,G h.1.1.1.2,I h.1.1.2,K h.1.2,M h.2⟩
end Go.Sf.Sc
