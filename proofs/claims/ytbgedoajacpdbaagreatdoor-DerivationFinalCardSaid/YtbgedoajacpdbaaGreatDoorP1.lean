/- Plain lemmas: what the functions of the program and of the reference compute. -/
import Derived.Test.YtbgedoajacpdbaaGreatDoorSfRead
import Derived.Test.YtbgedoajacpdbaaGreatDoorFns
import Derived.Test.YtbgedoajacpdbaaGreatDoorSfPl
set_option linter.all false
set_option maxRecDepth 100000
namespace Go.Sf
theorem Vd{ρ τ:Type}{d:Int->Option ρ}{g:ρ->τ}:∀(n:Nat)(a:Int),Ed (fun i=>(d i).map g) n a=(Ed d n a).map g
 |0,_=>rfl|n+1,a=>by
  rw [Ed,Ed];cases d a with
  |some r=>rfl|none=>exact Vd n (a+1)
variable{a b:Int}
theorem OL{ρ τ:Type}{d:Int->Option ρ}{g:ρ->τ}:fst (fun i=>(d i).map g) a b=(fst d a b).map g:=Vd _ _
theorem UA{ρ:Type}{d:Int->Option ρ}{r:ρ}:∀{n:Nat}{a:Int},Ed d n a=some r->∃i,a<=i/\i<a+n/\d i=some r/\∀j,a<=j->j<i->d j=none
 |0,_,h=>by cases h
 |n+1,a,h=>by
  rw [Ed]at h;cases hd:d a with
  |some w=>
   grind
  |none=>
   rw [hd]at h;obtain⟨i,f,o,q,u⟩:=UA h
   grind
theorem Cw{ρ:Type}{d:Int->Option ρ}{r:ρ}(h:fst d a b=some r):∃i,a<=i/\i<b/\d i=some r/\∀j,a<=j->j<i->d j=none:=by
 obtain ⟨i,f,o,q,u⟩:=UA h
 grind
def KV(p:Int->Bool)(s:ByteArray):Int:=(fst (fun i=>if p (bt s i)then none else some i) 0 s.size).getD s.size
theorem SI(p:Int->Bool)(s:ByteArray):0<=KV p s/\KV p s<=s.size/\(∀j,0<=j->j<KV p s->p (bt s j)=true)/\(KV p s<s.size->p (bt s (KV p s))=false):=by
 unfold KV;cases h:fst (fun i=>if p (bt s i)then none else some i) 0 s.size with
 |none=>
  rw [B0]at h
  grind
 |some r=>
  grind [Cw,bt,Option.getD]
variable{s:ByteArray}
theorem YJ(h:s≠⟨#[]⟩):0<s.size:=by
 rcases Nat.eq_zero_or_pos s.size with f|f
 .exfalso;apply h;cases s with|mk d=>congr 1;exact Array.eq_empty_of_size_eq_zero f
 .exact f
end Go.Sf
namespace Go.Sf.Sc
open Go Go.Sf
def FI(c:Int):Bool:=((decide (97<=c))&&(decide (c<=122)))||((decide (65<=c))&&(decide (c<=90)))
def Aao(c:Int):Bool:=(decide (48<=c))&&(decide (c<=57))
def PD(c:Int):Bool:=FI c||Aao c||decide (c=95)
theorem Xp(c:Int):J5 c=some (FI c):=rfl
theorem VC(c:Int):JP c=some (Aao c):=rfl
theorem X3(c:Int):Jq c=some (FI c):=rfl
theorem Ze(c:Int):Hu c=some (Aao c):=rfl
theorem nR(c:Int):MS c=some (PD c):=by
 unfold MS PD;rw[Xp,bs,VC]
 grind
variable{s:ByteArray}
theorem ar(d:(s.size:Int)<=4611686018427387904){ok:Int->K1}{p:Int->Bool}(h:∀c,ok c=some (p c)):GZ s ok=some (KV p s):=by
 unfold GZ;rw[LZ (c:=fun i=>(if p (bt s i)then none else some i).map .inl) (a:=0) (b:=s.size) (by omega)]
 .rw[OL];unfold KV;cases fst (fun i=>if p (bt s i)=true then none else some i) 0 s.size<;>rfl
 .grind[OQ,bt,EN,As]
 .simp
def EZ(s:ByteArray):Bool:=decide (0<s.size)&&FI (bt s 0)&&decide (s.size<=20)&&decide (KV PD s=s.size)
theorem VA(l:List ByteArray)(v:ByteArray):∃k,slices_Index_string l v=some k/\(0<=k↔v∈l):=by
 unfold slices_Index_string;rw[BU (fun i=>if(v==AA l i)=true then some i else none)]
 .cases h:fst (fun i=>if(v==AA l i)=true then some i else none) 0 l.length with
  |none=>
   rw [B0]at h;refine⟨-1,rfl,by omega,fun o=>?_⟩
   grind [BV]
  |some k=>
   obtain ⟨i,d,f,q,_⟩:=Cw h;have j:(v==AA l i)=true/\i=k:=by
    grind
   obtain ⟨j,rfl⟩:=j;refine⟨i,rfl,fun _=>?_,fun _=>d⟩
   grind [AK]
 .intro i d f _;simp only[AD d f,bs];split<;>rfl
theorem N0(l:List ByteArray)(v:ByteArray):slices_Contains_string l v=some (l.contains v):=by
 unfold slices_Contains_string;obtain⟨k,d,f⟩:=VA l v
 grind
theorem nP(z:0<s.size)(w:(s.size:Int)<=4611686018427387904):∃k n e,Hk s=some (k,n,e)/\(((decide (e=0))&&(decide (k=1)))&&(decide (n=(s.size:Int))))=EZ s:=by
 have F:=SI PD s;unfold Hk EZ;simp only[OQ (Int.le_refl 0) (show(0:Int)<s.size by omega),bs,Xp,VC,ar w nR,ar w VC,z,decide_true,Bool.true_and];by_cases d:FI (bt s 0)=true
 .rw[ae d];by_cases f:20<KV PD s
  .refine⟨0,0,3,by simp[f],?_⟩;simp[d];intro E h;omega
  .refine⟨1,_,0,by rw[az (by simpa using f)],?_⟩;simp only[d,decide_true,Bool.true_and];rw[Bool.eq_iff_iff];simp only[zzX,tg];omega
 .rw[az d];have j:FI (bt s 0)=false:=by simpa using d
  rw [j,Bool.false_and,Bool.false_and];by_cases hd:Aao (bt s 0)=true
  .rw[ae hd];by_cases x:9<KV Aao s
   .exact⟨0,0,3,by simp[x],by simp⟩
   .exact⟨2,_,0,by rw[az (by simpa using x)],by simp⟩
  .rw[az hd];by_cases y:bt s 0=34
   .have A:=WQ (s:=s) (a:=1) (b:=s.size) (by omega) (by omega) (by omega);have o:∀c,KO c=some (((decide (32<=c))&&(decide (c<=126)))&&(!decide (c=34))):=fun _=>rfl;have B:=SI (fun c=>((decide (32<=c))&&(decide (c<=126)))&&(!decide (c=34))) (s.extract (1:Int).toNat (s.size:Int).toNat);have q:∃n e,Fg s=some (n,e):=by
     unfold Fg;rw[LY (by omega) (by omega) (by omega),bs,ar (by omega) o,bs];rw[As (by omega) (by omega)];by_cases he:1+KV (fun c=>((decide (32<=c))&&(decide (c<=126)))&&(!decide (c=34))) (s.extract (1:Int).toNat (s.size:Int).toNat)=s.size
     .refine⟨0,2,?_⟩;simp only[he,decide_true,if_true,bs]
     .simp only[he,decide_false,Bool.false_eq_true,if_false];rw[OQ (by omega) (by omega)];simp only[bs];split
      .exact⟨_,_,rfl⟩
      .split
       .exact⟨_,_,rfl⟩
       .exact⟨_,_,rfl⟩
    obtain ⟨n,e,u⟩:=q;refine⟨3,n,e,by rw[ae (by simpa using y),u];rfl,by simp⟩
   .rw[az (by simpa using y)];have C:∃b,MR s=some b:=by
     unfold MR;by_cases h:2<=(s.size:Int)
     .rw[ae (by simpa using h),LY (by omega) (by omega) h];simp only[bs,N0];exact⟨_,rfl⟩
     .rw[az (by simpa using h)];exact⟨_,rfl⟩
    obtain ⟨b,D⟩:=C;rw[D,bs];cases b
    .simp only[Bool.false_eq_true,if_false,strings_IndexByte,bs];split
     .exact⟨_,_,_,rfl,rfl⟩
     .exact⟨_,_,_,rfl,rfl⟩
    .exact⟨_,_,_,rfl,rfl⟩
theorem Og(d:(s.size:Int)<=4611686018427387904):DC s=some (EZ s):=by
 unfold DC H0;simp only[show decide ((1:Int)=3)=false from rfl,Bool.false_eq_true,if_false,bs];by_cases he:s=⟨#[]⟩
 .subst he;rfl
 grind [nP,YJ]
theorem nw(q:(s.size:Int)<=4611686018427387904)(d:Bool):∃n,Nc s 0 d=some n/\0<=n/\n<=s.size/\(d=false->n=KV PD s):=by
 have h:=SI (fun c=>Aao c||(!d&&(FI c||decide (c=95)))) s;refine⟨KV (fun c=>Aao c||(!d&&(FI c||decide (c=95)))) s,?_,h.1,h.2.1,fun hd=>?_⟩
 .unfold Nc;rw[LZ (c:=fun i=>(if(Aao (bt s i)||(!d&&(FI (bt s i)||decide (bt s i=95))))then none else some i).map .inl) (a:=0) (b:=s.size) (by omega)]
  .rw[OL];unfold KV;cases fst (fun i=>if(Aao (bt s i)||(!d&&(FI (bt s i)||decide (bt s i=95))))=true then none else some i) 0 s.size<;>rfl
  .intro i o f _;have j:Ae (0+i)=i:=by rw[As (by omega) (by omega)];omega
   simp only[j,f,decide_true,if_true,OQ o f,bs,Ze,X3]
   grind [Aao,bt,FI,EN,As]
  .have j:Ae (0+(s.size:Int))=s.size:=by rw[As (by omega) (by omega)];omega
   grind
 .subst hd;congr 1
  grind [PD,FI,Aao]
theorem fo(q:0<s.size)(u:(s.size:Int)<=4611686018427387904):∃n,Jr s 0=some n/\(n=0\/(2<=n/\n<=s.size)):=by
 unfold Jr;rw[LZ (c:=fun i=>if decide (bt s i=34)=true then some (Sum.inr (i+1):Int ⊕ Int)else if(decide (bt s i<32)||decide (126<bt s i))=true then some (Sum.inr 0)else none) (a:=1) (b:=s.size) (by omega)]
 .cases h:fst (fun i=>if decide (bt s i=34)=true then some (Sum.inr (i+1):Int ⊕ Int)else if(decide (bt s i<32)||decide (126<bt s i))=true then some (Sum.inr 0)else none) 1 s.size with
  |none=>exact⟨0,rfl,.inl rfl⟩|some r=>
   obtain ⟨i,o,f,d,_⟩:=Cw h;split at d
   .cases d;exact⟨_,rfl,.inr (by omega)⟩
   .split at d
    .cases d;exact⟨_,rfl,.inl rfl⟩
    .cases d
 .intro i o f _;have j:Ae (0+i)=i:=by rw[As (by omega) (by omega)];omega
  simp only[j,f,decide_true,if_true,OQ (show 0<=i by omega) f,bs,As (show -9223372036854775808<=i+1 by omega) (by omega)];split
  .rfl
  .split<;>rfl
 .have j:Ae (0+(s.size:Int))=s.size:=by rw[As (by omega) (by omega)];omega
  grind
theorem rj(O:0<s.size)(Q:(s.size:Int)<=4611686018427387904):∃t n e,Nb s 0=some (t,n,e)/\(((decide (e=0))&&(decide (n=(s.size:Int))))&&(decide (t.ns=1)))=EZ s:=by
 obtain ⟨m,M,u,w,N⟩:=nw Q (Aao (bt s 0));unfold Nb EZ;simp only[OQ (Int.le_refl 0) (show(0:Int)<s.size by omega),bs,X3,Ze,O,decide_true,Bool.true_and,M];have S:Ae (0+m)=m:=by rw[As (by omega) (by omega)];omega
 by_cases F:FI (bt s 0)=true
 .have hd:Aao (bt s 0)=false:=by
   unfold FI at F;unfold Aao
   grind
  have W:=N hd;subst W;simp only[F,if_true,hd,Bool.false_eq_true,if_false,bs,S];by_cases q:20<KV PD s
  .refine⟨_,_,_,by rw[ae (by simpa using q)],?_⟩
   grind
  .rw[az (by simpa using q),LY (Int.le_refl _) u w];refine⟨_,_,_,rfl,?_⟩
   grind
 .have G:FI (bt s 0)=false:=by simpa using F
  simp only[G,Bool.false_eq_true,if_false,bs,Bool.false_and,S];by_cases hd:Aao (bt s 0)=true
  .simp only[hd,if_true,bs];by_cases T:9<m
   .exact⟨_,_,_,by rw[ae (by simpa using T)],by simp⟩
   .rw[az (by simpa using T),LY (Int.le_refl _) u w];exact⟨_,_,_,rfl,by simp⟩
  .have H:Aao (bt s 0)=false:=by simpa using hd
   simp only[H,Bool.false_eq_true,if_false,bs];by_cases U:bt s 0=34
   .obtain⟨n,hn,y⟩:=fo O Q;rw[ae (by simpa using U),hn,bs];rcases y with rfl|y
    .grind
    .rw[az (by simp;omega)];split
     .grind
     .have Z:Ae (0+1)=1:=by decide
      have e2:Ae (0+n)=n:=by rw[As (by omega) (by omega)];omega
      rw [Z,e2,As (show -9223372036854775808<=n-1 by omega) (by omega),LY (by omega) (by omega) (by omega)];exact⟨_,_,_,rfl,by simp⟩
   .rw[az (by simpa using U)];unfold M6;rw[bs];generalize hL:([(⟨#[45,62]⟩:ByteArray),(⟨#[60,61]⟩:ByteArray),(⟨#[62,61]⟩:ByteArray),(⟨#[61,61]⟩:ByteArray),(⟨#[33,61]⟩:ByteArray),(⟨#[123]⟩:ByteArray),(⟨#[125]⟩:ByteArray),(⟨#[40]⟩:ByteArray),(⟨#[41]⟩:ByteArray),(⟨#[91]⟩:ByteArray),(⟨#[93]⟩:ByteArray),(⟨#[44]⟩:ByteArray),(⟨#[59]⟩:ByteArray),(⟨#[58]⟩:ByteArray),(⟨#[61]⟩:ByteArray),(⟨#[43]⟩:ByteArray),(⟨#[45]⟩:ByteArray),(⟨#[42]⟩:ByteArray),(⟨#[60]⟩:ByteArray),(⟨#[62]⟩:ByteArray),(⟨#[33]⟩:ByteArray),(⟨#[38]⟩:ByteArray),(⟨#[124]⟩:ByteArray),(⟨#[46]⟩:ByteArray),(⟨#[63]⟩:ByteArray)]:List ByteArray)=L;have I:∀x∈L,x.size<=2:=by subst hL;decide
    rcases QO (f:=(fun(h:Int)(V:EG)=>
      (idx L h).bind fun A=>
      (if(decide ((Ae (0+(A.size:Int)))<=(s.size:Int)))=true then((idx L h).bind fun B=>
      (AaJ s 0 (Ae (0+(B.size:Int)))).bind fun C=>
      (idx L h).bind fun D=>
      some (C==D))else some false).bind fun E=>
      if E=true then
      (idx L h).bind fun j=>
      (idx L h).bind fun o=>
      some (Bp.ret (EG.mk 4 j 0,(o.size:Int),(0:Int)))
      else
      some (Bp.next V))) (fun _ s=>True) (fun _=>True) (fun r=>r.1.ns=4) (a:=0) (b:=L.length) (s:=EG.mk 0 (⟨#[]⟩:ByteArray) 0) (by omega) trivial (fun i t d z _=>by
      have hx:=I _ (AK d z);have J:Ae (0+((AA L i).size:Int))=(AA L i).size:=by rw[As (by omega) (by omega)];omega
      simp only[AD d z,bs,J];by_cases K:((AA L i).size:Int)<=s.size
      .rw[ae (by simpa using K),LY (by omega) (by omega) K];simp only[bs];split
       .exact .inr (.inr ⟨_,rfl,rfl⟩)
       .exact .inl ⟨_,rfl,trivial⟩
      .rw[az (by simpa using K)];simp only[bs];exact .inl ⟨_,rfl,trivial⟩)with⟨s',d,_⟩|⟨r,d,z⟩
    .rw[d];exact⟨_,_,_,rfl,by simp⟩
    .rw[d];exact⟨_,_,_,rfl,by simp[z]⟩
theorem Oh(d:(s.size:Int)<=4611686018427387904):Eu s=some (EZ s):=by
 unfold Eu M5 OB;simp only[show decide ((1:Int)=3)=false from rfl,Bool.false_eq_true,if_false,bs];by_cases he:s=⟨#[]⟩
 .subst he;rfl
 grind [rj,YJ]
end Go.Sf.Sc
namespace Go.Sf
variable{ρ β:Type}
def nz(e:Int):QQ:=if e=0 then none else some e
theorem Ka(e:Int):(if(!decide (e=0))=true then some (Bp.ret e)else some (Bp.next ()))=some (PS (nz e)):=by grind[nz,PS]
theorem mW(b:Bool)(r:ρ):(if b=true then some (Bp.ret r)else some (Bp.next ()))=some (PS (if b=true then some r else none)):=by
 cases b<;>rfl
variable{kr:ρ->Option β}
theorem Bh{σ:Type}{s:σ}{k:σ->Option β}:fq (some (.inl s)) k kr=k s:=rfl
theorem PM{σ:Type}{r:ρ}{k:σ->Option β}:fq (some (.inr r)) k kr=kr r:=rfl
theorem Di(o:Option ρ)(k:Unit->Option β)(kr:ρ->Option β):fq (some (iS o)) k kr=match o with|none=>k ()|some r=>kr r:=by
 cases o<;>rfl
theorem CT(o:QQ):fq (some (iS o)) (fun _=>some 0) (fun v=>some v)=some (o.getD 0):=by
 cases o<;>rfl
variable{a b:Int}
theorem UB{c:Int->Int}(h:(fst (fun i=>nz (c i)) a b).getD 0=0):∀i,a<=i->i<b->c i=0:=by
 have:fst (fun i=>nz (c i)) a b=none:=by
  cases hf:fst (fun i=>nz (c i)) a b with
  |none=>rfl|some r=>
   grind [Option.getD,Cw,nz]
 grind [B0,nz]
variable{e:Int}
theorem JC:nz e=none↔e=0:=by grind[nz]
theorem TJ{α:Type}[Inhabited α]{l:List α}{f:α->K1}{p:α->Bool}(h:∀x∈l,f x=some (p x)):
  (fq (kl (ρ:=Int) (fun(o:Int)(_:Unit)=>(idx l o).bind fun d=>(f d).bind fun j=>if j=true then some (.ret o)else some (.next ())) 0 (l.length:Int) ()) (fun _=>some (-1)) (fun w=>some w))=
   some ((fst (fun i=>if p (AA l i)=true then some i else none) 0 l.length).getD (-1)):=by
 rw [BU (fun i=>if p (AA l i)=true then some i else none)]
 .rw[Di];cases fst (fun i=>if p (AA l i)=true then some i else none) 0 l.length<;>rfl
 .intro i q u _;rw[AD q u,bs,h _ (AK q u),bs,mW]
theorem Vk{α:Type}[Inhabited α]{l:List α}{p:α->Bool}:decide (0<=(fst (fun i=>if p (AA l i)=true then some i else none) 0 l.length).getD (-1))=l.any p:=by
 rw [HK,og];cases h:fst (fun i=>if p (AA l i)=true then some i else none) 0 l.length with
 |none=>
  grind [B0,Option.isSome,Option.isSome_eq_false_iff,Option.isNone_iff_eq_none,AA]
 |some k=>
  grind [Cw,AA,Option.getD,Option.isSome,Option.isSome_iff_ne_none,B0]
theorem Eg{α:Type}[Inhabited α]{l:List α}{f:α->K1}{p:α->Bool}(h:∀x∈l,f x=some (p x)):
  ((fq (kl (ρ:=Int) (fun(o:Int)(_:Unit)=>(idx l o).bind fun d=>(f d).bind fun j=>if j=true then some (.ret o)else some (.next ())) 0 (l.length:Int) ()) (fun _=>some (-1)) (fun q=>some q)).bind fun u=>some (decide (0<=u)))=some (l.any p):=by
 rw [TJ h,bs,Vk]
end Go.Sf
namespace Go.Sf.Sc
open Go Go.Sf
instance:Inhabited kq:=⟨⟨⟨#[]⟩,0,0,[]⟩⟩
instance:Inhabited Bz:=⟨⟨⟨#[]⟩,0,false,[]⟩⟩
instance:Inhabited B9:=⟨⟨⟨#[]⟩,0,0,0,0,0,0⟩⟩
instance:Inhabited Bf:=⟨⟨0,0,0⟩⟩
instance:Inhabited CU:=⟨⟨0,0,⟨0,0⟩⟩⟩
instance:Inhabited Test:=⟨⟨0,⟨0,0⟩,⟨0,0⟩⟩⟩
instance:Inhabited d7:=⟨⟨0,[],⟨[],[]⟩,⟨⟨[],[]⟩,[],0,[]⟩⟩⟩
variable{l:Fp}
theorem Re{f:Int->K1}{p:Int->Bool}(h:∀x∈l,f x=some (p x)):Ak l f=some (l.any p):=Eg h
theorem Y6{l:List Bf}{f:Bf->K1}{p:Bf->Bool}(h:∀x∈l,f x=some (p x)):BJ l f=some (l.any p):=Eg h
theorem Wy{l:List d7}{f:d7->K1}{p:d7->Bool}(h:∀x∈l,f x=some (p x)):Bg l f=some (l.any p):=Eg h
theorem Yb{l:List Bz}{p:Bz->Bool}:B5 l (fun x=>some (p x))=some (l.any p):=Eg (fun _ _=>rfl)
theorem Ya{l:List B9}{p:B9->Bool}:B4 l (fun x=>some (p x))=some (l.any p):=Eg (fun _ _=>rfl)
theorem jf{l:List kq}{p:kq->Bool}:CQ l (fun x=>some (p x))=some (l.any p):=Eg (fun _ _=>rfl)
theorem Wz{p:Int->Bool}:Ak l (fun x=>some (p x))=some (l.any p):=Eg (fun _ _=>rfl)
theorem Y7{l:List Bf}{p:Bf->Bool}:BJ l (fun x=>some (p x))=some (l.any p):=Eg (fun _ _=>rfl)
theorem Y8{l:List CU}{p:CU->Bool}:CC l (fun x=>some (p x))=some (l.any p):=Eg (fun _ _=>rfl)
theorem mj(l:Fp)(v:Int):slices_Index_int l v=some ((fst (fun i=>if decide (v=AA l i)=true then some i else none) 0 l.length).getD (-1)):=by
 have:=TJ (l:=l) (f:=fun x=>some (decide (v=x))) (p:=fun x=>decide (v=x)) (fun _ _=>rfl);unfold slices_Index_int
 grind
theorem KW(l:Fp)(v:Int):slices_Contains_int l v=some (l.any fun x=>decide (v=x)):=by grind[slices_Contains_int,mj,Vk]
theorem jh(l:a6)(v:Bool):Ez l v=some (l.any fun x=>v==x):=by
 have:=Eg (l:=l) (f:=fun x=>some (v==x)) (p:=fun x=>v==x) (fun _ _=>rfl);unfold Ez H9
 grind
structure S9(a:kq):Prop where
 name:(a.po.size:Int)<=40
 names:a.wi.length<=25
 each:∀x∈a.wi,(x.size:Int)<=40
structure At(t:AC):Prop where
 ei:t.d3.length<=20
 em:t.d4.length<=30
 name:∀n∈t.d3,(n.po.size:Int)<=40
 AbY:∀n∈t.d3,n.x3.length<=30
 each:∀n∈t.d3,∀a∈n.x3,S9 a
 ename:∀e∈t.d4,(e.po.size:Int)<=40
def par(t:AC)(i:Int):Int:=(AA t.d3 i).Aad
def Eo(t:AC)(k:Int):Prop:=∀i,0<=i->i<k->-1<=par t i/\par t i<i
def Bx(t:AC):Nat->Int->List kq
 |0,_=>[]|n+1,a=>if a<0 then[]else Bx t n (par t a)++(AA t.d3 a).x3
def Ay(t:AC)(a:Int):List kq:=Bx t (a+1).toNat a
variable{t:AC}{a:Int}
theorem Il{n:Nat}(h:a<0):Bx t n a=[]:=by
 cases n with
 |zero=>rfl|succ n=>rw[Bx,ae h]
variable{k:Int}
theorem LN(d:Eo t k):∀(n m:Nat)(a:Int),a<k->a<n->a<m->Bx t n a=Bx t m a
 |n,m,a,h,j,o=>by
  by_cases f:a<0
  .grind[Il]
  .cases n with
   |zero=>omega|succ n=>
    cases m with
    |zero=>omega|succ m=>
     rw [Bx,Bx,az f,az f];have:=d a (by omega) h;rw[LN d n m (par t a) (by omega) (by omega) (by omega)]
theorem Ld(hf:At t)(f:k<=t.d3.length)(d:Eo t k):∀(n:Nat)(a:Int),a<k->((Bx t n a).length:Int)<=30*n
 |0,_,_=>by simp[Bx]|n+1,a,h=>by
  rw [Bx];split
  .simp;omega
  .rename_i j;have o:=d a (by omega) h;have q:=Ld hf f d n (par t a) (by omega);have u:=hf.AbY _ (AK (l:=t.d3) (show 0<=a by omega) (by omega))
   grind
theorem Ts(hf:At t)(h:k<=t.d3.length)(f:Eo t k):∀(n:Nat)(a:Int),a<k->∀x∈Bx t n a,S9 x
 |0,_,_=>by simp[Bx]|n+1,a,j=>by
  rw [Bx];split
  .simp
  .rename_i o;have q:=f a (by omega) j;intro x d;rcases List.mem_append.1 d with d|d
   .exact Ts hf h f n (par t a) (by omega) x d
   .exact hf.each _ (AK (l:=t.d3) (show 0<=a by omega) (by omega)) x d
theorem GG(hf:At t)(d:k<=t.d3.length)(f:Eo t k)(h:a<k):(Ay t a).length<=600:=by
 have:=Ld hf d f (a+1).toNat a h;have:=hf.ei;unfold Ay;omega
theorem Lf(hf:At t)(d:k<=t.d3.length)(f:Eo t k)(h:a<k):∀x∈Ay t a,S9 x:=Ts hf d f _ a h
theorem Xm(hf:At t)(j:k<=t.d3.length)(h:Eo t k):∀(n:Nat)(a:Int),0<=a->a<k->a<n->C0 n t a=some (Bx t n a)
 |0,_,_,_,_=>by omega|n+1,a,q,z,D=>by
  have A:=h a (by omega) z;have u:=Ld hf j h n (par t a) (by omega);have B:=hf.AbY _ (AK (l:=t.d3) q (by omega));have C:=hf.ei;rw[C0,Bx,az (by omega),AD q (by omega)];simp only[bs];show((if decide (0<=par t a)=true then(C0 n t (par t a)).bind fun f=>some f else some []).bind _)=_;have e:(if decide (0<=par t a)=true then(C0 n t (par t a)).bind fun f=>some f else some [])=some (Bx t n (par t a)):=by
   by_cases o:0<=par t a
   .rw[ae (by simpa using o),Xm hf j h n (par t a) o (by omega) (by omega)];rfl
   .rw[az (by simpa using o),Il (by omega)]
  have w:(Bx t n (par t a)).length+(AA t.d3 a).x3.length<=Ad:=by
   unfold Ad;have:((Bx t n (par t a)).length:Int)<=30*n:=u;have x:Bx t n (par t a)=Bx t 20 (par t a):=by
    by_cases d:par t a<0
    .rw[Il d,Il d]
    .exact LN h n 20 (par t a) (by omega) (by omega) (by omega)
   have y:=Ld hf j h 20 (par t a) (by omega);rw[<-x]at y;omega
  rw [e,bs,Af w];rfl
theorem ZV(hf:At t)(d:k<=t.d3.length)(f:Eo t k)(h:0<=a)(j:a<k):JQ t a=some (Ay t a):=
 EC (a+1).toNat fun n o=>by
  grind [Xm,Ay,LN]
theorem Xv(hf:At t)(h:k<=t.d3.length)(f:Eo t k):∀(n:Nat)(a:Int),-1<=a->a<k->a+1<n->Fa n t a=some (Bx t n a)
 |0,_,_,_,_=>by omega|n+1,a,z,u,A=>by
  rw [Fa,Bx];by_cases d:a<0
  .grind
  .have w:=f a (by omega) u;have x:=hf.AbY _ (AK (l:=t.d3) (show 0<=a by omega) (by omega));have y:=hf.ei;rw[az (by simpa using d),az d,AD (by omega) (by omega)];simp only[bs];have j:Bx t n (par t a)=Bx t 20 (par t a):=by
    by_cases d:par t a<0
    .rw[Il d,Il d]
    .exact LN f n 20 (par t a) (by omega) (by omega) (by omega)
   have o:=Ld hf h f 20 (par t a) (by omega);rw[<-j]at o;have q:(Bx t n (par t a)).length+(AA t.d3 a).x3.length<=Ad:=by unfold Ad;omega
   rw [show(AA t.d3 a).Aad=par t a from rfl,Xv hf h f n (par t a) (by omega) (by omega) (by omega),bs,Af (by simp;unfold Ad;omega)];simp only[bs,List.nil_append];rw[Af q];rfl
theorem Zd(hf:At t)(d:k<=t.d3.length)(f:Eo t k)(h:0<=a)(j:a<k):M7 t a=some (Ay t a):=
 EC (a+2).toNat fun n o=>by
  grind [Xv,Ay,LN]
end Go.Sf.Sc
namespace Go.Sf.Sc
open Go Go.Sf
def Jo(l:List ByteArray):Int:=
 if (20:Int)<l.length then 3 else(fst (fun i=>if EZ (AA l i)=false then some 2 else if og (fun j=>AA l j==AA l i) 0 i=true then some 5 else none) 0 l.length).getD 0
variable{b:Int}
theorem W8{l:List ByteArray}{x:ByteArray}(d:0<=b)(f:b<=l.length):(l.take b.toNat).contains x=og (fun j=>AA l j==x) 0 b:=by
 rw [List.contains_eq_any_beq,OY d f]
 grind
theorem kO{l:List ByteArray}(o:∀x∈l,(x.size:Int)<=40):Gb l=some (Jo l):=by
 unfold Gb Jo;by_cases d:(20:Int)<l.length
 .grind
 .rw[az (by simpa using d),az d];rw[BU (fun i=>if EZ (AA l i)=false then some 2 else if og (fun j=>AA l j==AA l i) 0 i=true then some 5 else none),CT];intro i f h _;have q:=o _ (AK f h);rw[AD f h,bs,Og (by omega),bs,LH f (by omega)];simp only[bs,N0,W8 f (show i<=l.length by omega)];cases EZ (AA l i)<;>cases og (fun j=>AA l j==AA l i) 0 i<;>rfl
theorem kh{l:List ByteArray}(o:∀x∈l,(x.size:Int)<=40):Kg l=some (Jo l):=by
 unfold Kg Jo;by_cases d:(20:Int)<l.length
 .grind
 .rw[az (by simpa using d),az d];rw[BU (fun i=>if EZ (AA l i)=false then some 2 else if og (fun j=>AA l j==AA l i) 0 i=true then some 5 else none),CT];intro i f h _;have q:=o _ (AK f h);rw[AD f h,bs,Oh (by omega),bs,BP (fun j=>AA l j==AA l i) 5]
  .cases EZ (AA l i)<;>cases og (fun j=>AA l j==AA l i) 0 i<;>rfl
  grind [AD]
def Mz(all:List kq)(k:Int):Int:=
 let x:=AA all k
 if EZ x.po=false then 2 else if og (fun j=>(AA all j).po==x.po) 0 k=true then 5 else
 if x.wi.length=0 then(if -1000000<=x.Low/\x.Low<=x.AaE/\x.AaE<=1000000 then 0 else 6)else
 if Jo x.wi≠0 then Jo x.wi else if x.Low=0/\x.AaE=x.wi.length-1 then 0 else 6
variable{k:Int}
theorem Yo{d:List kq}(q:∀x∈d,S9 x)(o:0<=k)(u:k<d.length):D5 (AA d k) (d.take k.toNat)=some (Mz d k):=by
 have j:=q _ (AK o u);have A:=j.name;unfold D5 Mz;dsimp only;rw[Og (by omega),bs,show(fun f=>IA f (AA d k))=(fun f=>some (f.po==(AA d k).po))from rfl,jf,bs,OY o (by omega),kO j.each,bs];have w:=j.names;have y:Ae ((AA d k).wi.length-1)=(AA d k).wi.length-1:=As (by omega) (by omega);rw[y];have z:(AA d k).wi.length=0->Jo (AA d k).wi=0:=fun h=>by rw[List.eq_nil_of_length_eq_zero h];rfl
 generalize Jo (AA d k).wi=e at z|-;simp only[bs,zzX,Bool.or_eq_true,tg,Bool.not_eq_true',decide_eq_false_iff_not,Bool.not_eq_false',Bool.or_eq_false_iff,Bool.and_eq_false_iff,ne_eq]
 repeat' (first|rfl|(exfalso;omega;done)|split)
 all_goals (first|rfl|(exfalso;omega)|omega|simp_all|(simp_all;omega))
theorem Yq{x:kq}(d:S9 x):HV x=some (
 if x.wi.length=0 then(if -1000000<=x.Low/\x.Low<=x.AaE/\x.AaE<=1000000 then 0 else 6)else
 if Jo x.wi≠0 then Jo x.wi else if x.Low=0/\x.AaE=x.wi.length-1 then 0 else 6):=by
 have f:=d.names;have h:Ae (x.wi.length-1)=x.wi.length-1:=As (by omega) (by omega);unfold HV DM;simp only[bs,h,kh d.each];generalize Jo x.wi=e;simp only[bs,zzX,Bool.or_eq_true,tg,Bool.not_eq_true',decide_eq_false_iff_not,Bool.not_eq_false',Bool.or_eq_false_iff,Bool.and_eq_false_iff,ne_eq]
 repeat' (first|rfl|(exfalso;omega;done)|split)
 all_goals (first|rfl|(exfalso;omega)|omega|simp_all|(simp_all;omega))
def H8(t:AC)(i:Int):Int:=
 let n:=AA t.d3 i
 if EZ n.po=false then 2 else if og (fun j=>(AA t.d3 j).po==n.po) 0 i=true then 5 else
 if n.Aad< -1\/i<=n.Aad then 6 else if 4<n.x3.length\/8<(Ay t i).length then 3 else
 (fst (fun k=>nz (Mz (Ay t i) k)) ((Ay t i).length-n.x3.length) (Ay t i).length).getD 0
variable{t:AC}{i:Int}
theorem Tv(d:0<=i):(AA t.d3 i).x3.length<=(Ay t i).length:=by
 unfold Ay;rw[show(i+1).toNat=i.toNat+1 by omega,Bx,az (by omega),cE];omega
theorem Eo.next(h:Eo t i)(f:-1<=par t i)(o:par t i<i):Eo t (i+1):=by
 intro j d q;by_cases u:j=i
 .grind
 .exact h j d (by omega)
theorem nQ(hf:At t)(f:0<=i)(w:i<t.d3.length)(A:Eo t i):Hm t i=some (H8 t i):=by
 have C:=hf.name _ (AK f w);unfold Hm H8;dsimp only;rw[AD f w,bs,Og (by omega),bs,LH f (by omega),bs,show(fun q=>MU q (AA t.d3 i))=(fun q=>some (q.po==(AA t.d3 i).po))from rfl,Yb,bs,OY f (by omega)];cases EZ (AA t.d3 i).po
 .rfl
 .cases og (fun j=>(AA t.d3 j).po==(AA t.d3 i).po) 0 i
  .by_cases h:(AA t.d3 i).Aad< -1\/i<=(AA t.d3 i).Aad
   .rcases h with h|h<;>simp[h]
   .have d:Eo t (i+1):=A.next (by unfold par;omega) (by unfold par;omega)
    have u:(decide ((AA t.d3 i).Aad< -1)||decide (i<=(AA t.d3 i).Aad))=false:=by
     rw [Bool.eq_false_iff];simpa using h
    rw [ZV hf (k:=i+1) (by omega) d f (by omega),bs];have y:=GG hf (k:=i+1) (a:=i) (by omega) d (by omega);have z:=Tv (t:=t) f;have o:=Lf hf (k:=i+1) (a:=i) (by omega) d (by omega);rw[As (by omega) (by omega),BU (fun k=>nz (Mz (Ay t i) k)),CT]
    .simp only[u,h,Bool.not_true,Bool.false_eq_true,if_false];simp only[bs,zzX,Bool.or_eq_true,tg,Bool.not_eq_true',decide_eq_false_iff_not,Bool.not_eq_false',Bool.or_eq_false_iff,Bool.and_eq_false_iff,ne_eq]
     repeat' (first|rfl|(exfalso;omega;done)|split)
     all_goals (first|rfl|(exfalso;omega)|omega|simp_all|(simp_all;omega))
    .intro k B x _;rw[AD (by omega) x,bs,LH (by omega) (by omega),bs,Yo o (by omega) x,bs,Ka]
  .rfl
theorem nt(hf:At t)(h:0<=i)(q:i<t.d3.length)(A:Eo t i):MA t i=some (H8 t i):=by
 have E:=hf.name _ (AK h q);have F:=hf.ei;unfold MA H8 DM;dsimp only;rw[AD h q,bs,Oh (by omega),bs,BP (fun j=>(AA t.d3 j).po==(AA t.d3 i).po) 5]
 .cases EZ (AA t.d3 i).po
  .rfl
  .cases og (fun j=>(AA t.d3 j).po==(AA t.d3 i).po) 0 i
   .simp only[Bool.not_true,Bool.false_eq_true,if_false,Bh,bs];rw[As (by omega) (by omega)];by_cases w:(AA t.d3 i).Aad< -1\/i<=(AA t.d3 i).Aad
    .rw[ae,az (by decide),ae w];simp;omega
    .have d:Eo t (i+1):=A.next (by unfold par;omega) (by unfold par;omega)
     rw [az (by simp;omega),az (by decide),az w];rw[Zd hf (k:=i+1) (by omega) d h (by omega),bs];have x:=GG hf (k:=i+1) (a:=i) (by omega) d (by omega);have y:=Tv (t:=t) h;have f:=Lf hf (k:=i+1) (a:=i) (by omega) d (by omega);rw[As (by omega) (by omega)];rw[BU (fun k=>nz (Mz (Ay t i) k)),CT]
     .simp only[bs,zzX,Bool.or_eq_true,tg,Bool.not_eq_true',decide_eq_false_iff_not,Bool.not_eq_false',Bool.or_eq_false_iff,Bool.and_eq_false_iff,ne_eq]
      repeat' (first|rfl|(exfalso;omega;done)|split)
      all_goals (first|rfl|(exfalso;omega)|omega|simp_all|(simp_all;omega))
     .intro k u o _;have z:=f _ (AK (show 0<=k by omega) o);have C:=z.name;simp only[AD (show 0<=k by omega) o,bs];rw[Oh (by omega),bs,BP (fun j=>(AA (Ay t i) j).po==(AA (Ay t i) k).po) 5]
      .rw[Yq z];simp only[bs,Ka];unfold Mz;dsimp only;cases EZ (AA (Ay t i) k).po
       .rfl
       .cases og (fun j=>(AA (Ay t i) j).po==(AA (Ay t i) k).po) 0 k<;>rfl
      .intro j B D _;rw[AD B (by omega),bs];split<;>rfl
   .rfl
 .intro j u o _;rw[AD u (by omega),bs];split<;>rfl
def Lg(low high:Int):Bool:=((decide (0<=low))&&(decide (low<=40)))&&((decide (high=(-1)))||((decide (low<=high))&&(decide (high<=40))))
theorem kX(low high:Int):JF low high=some (Lg low high):=by
 unfold JF Lg DM
 grind
def J9(t:AC)(i:Int):Int:=
 let x:=AA t.d4 i
 if EZ x.po=false then 2 else if og (fun j=>(AA t.d4 j).po==x.po) 0 i=true then 5 else
 if (0<=x.ne/\x.ne<t.d3.length)/\(0<=x.To/\x.To<t.d3.length)/\Lg x.Abh x.Aa0=true/\Lg x.AbB x.Abi=true then 0 else 6
theorem nH(hf:At t)(d:0<=i)(h:i<t.d4.length):Hl t i=some (J9 t i):=by
 have o:=hf.ename _ (AK d h);unfold Hl J9 J6;dsimp only;rw[AD d h,bs,Og (by omega),bs,LH d (by omega),bs,show(fun f=>MT f (AA t.d4 i))=(fun f=>some (f.po==(AA t.d4 i).po))from rfl,Ya,bs,OY d (by omega)];simp only[show∀a b,I8 a b=some (Lg a b)from fun _ _=>rfl,bs];generalize EZ (AA t.d4 i).po=b1;generalize og (fun j=>(AA t.d4 j).po==(AA t.d4 i).po) 0 i=b2;generalize Lg (AA t.d4 i).Abh (AA t.d4 i).Aa0=b3;generalize Lg (AA t.d4 i).AbB (AA t.d4 i).Abi=b4;cases b1
 .rfl
 grind
theorem nd(hf:At t)(o:0<=i)(q:i<t.d4.length):L9 t i=some (J9 t i):=by
 have w:=hf.ename _ (AK o q);have x:=hf.ei;unfold L9 J9 DM;dsimp only;rw[AD o q,bs,Oh (by omega),bs,BP (fun j=>(AA t.d4 j).po==(AA t.d4 i).po) 5]
 .simp only[As (show -9223372036854775808<=(t.d3.length:Int)-1 by omega) (by omega),kX,bs];generalize EZ (AA t.d4 i).po=b1;generalize og (fun j=>(AA t.d4 j).po==(AA t.d4 i).po) 0 i=b2;generalize Lg (AA t.d4 i).Abh (AA t.d4 i).Aa0=b3;generalize Lg (AA t.d4 i).AbB (AA t.d4 i).Abi=b4;cases b1
  .rfl
  .cases b2
   .cases b3<;>cases b4
    all_goals
     by_cases f:0<=(AA t.d4 i).ne/\(AA t.d4 i).ne<t.d3.length
     .have d:(AA t.d4 i).ne<=(t.d3.length:Int)-1:=by omega
      by_cases u:0<=(AA t.d4 i).To/\(AA t.d4 i).To<t.d3.length
      .have h:(AA t.d4 i).To<=(t.d3.length:Int)-1:=by omega
       simp [f,u,d,h,Bh]
      .have:(decide (0<=(AA t.d4 i).To)&&decide ((AA t.d4 i).To<=(t.d3.length:Int)-1))=false:=by rw[Bool.eq_false_iff];simp;omega
       simp [f,u,d,this,Bh]
     .have:(decide (0<=(AA t.d4 i).ne)&&decide ((AA t.d4 i).ne<=(t.d3.length:Int)-1))=false:=by rw[Bool.eq_false_iff];simp;omega
      simp [f,this,Bh]
   .rfl
 grind [AD]
def Ax(t:AC):ByteArray×Int:=
 if t.d3.length=0 then(⟨#[]⟩,7)else if 12<t.d3.length\/20<t.d4.length then(⟨#[]⟩,3)else
 match fst (fun i=>(nz (H8 t i)).map fun e=>((AA t.d3 i).po,e)) 0 t.d3.length with
 |some r=>r|none=>(fst (fun i=>(nz (J9 t i)).map fun e=>((AA t.d4 i).po,e)) 0 t.d4.length).getD (⟨#[]⟩,0)
theorem cY(h:H8 t i=0):-1<=par t i/\par t i<i:=by grind[H8,par,AA]
theorem LF{α β:Type}{o:Option α}{g:α->β}:o.map g=none↔o=none:=by cases o<;>simp
theorem TN(h:∀j,0<=j->j<i->H8 t j=0):Eo t i:=fun j d f=>cY (h j d f)
theorem Sb{ρ:Type}(e:Int)(n:ByteArray):(if(!decide (e=0))=true then some (Bp.ret (n,e))else some (Bp.next ()))=some (PS ((nz e).map fun e=>(n,e))):=by grind[nz,PS]
theorem Mn(hf:At t):C3 t=some (Ax t):=by
 unfold C3 Ax;rw[BU (fun i=>(nz (H8 t i)).map fun e=>((AA t.d3 i).po,e)),Di]
 .rw[BU (fun i=>(nz (J9 t i)).map fun e=>((AA t.d4 i).po,e)),Di]
  .cases fst (fun i=>(nz (H8 t i)).map fun e=>((AA t.d3 i).po,e)) 0 t.d3.length<;>cases fst (fun i=>(nz (J9 t i)).map fun e=>((AA t.d4 i).po,e)) 0 t.d4.length
   all_goals dsimp only
   all_goals try simp only[Option.getD]
   all_goals
    simp only[bs,zzX,Bool.or_eq_true,tg,Bool.not_eq_true',decide_eq_false_iff_not,Bool.not_eq_false',Bool.or_eq_false_iff,Bool.and_eq_false_iff,ne_eq]
    repeat' (first|rfl|(exfalso;omega;done)|split)
    all_goals (first|rfl|(exfalso;omega)|omega|simp_all|(simp_all;omega))
  .intro i d f _;rw[AD d f,bs,nH hf d f,bs];exact Sb (ρ:=Unit) _ _
 .intro i d f q;have u:Eo t i:=TN fun j h o=>JC.1 (LF.1 (q j h o));rw[AD d f,bs,nQ hf d f u,bs];exact Sb (ρ:=Unit) _ _
theorem OP(hf:At t):Eh t=some (Ax t):=by
 unfold Eh Ax;rw[BU (fun i=>(nz (H8 t i)).map fun e=>((AA t.d3 i).po,e)),Di]
 .rw[BU (fun i=>(nz (J9 t i)).map fun e=>((AA t.d4 i).po,e)),Di]
  .cases fst (fun i=>(nz (H8 t i)).map fun e=>((AA t.d3 i).po,e)) 0 t.d3.length<;>cases fst (fun i=>(nz (J9 t i)).map fun e=>((AA t.d4 i).po,e)) 0 t.d4.length
   all_goals dsimp only
   all_goals try simp only[Option.getD]
   all_goals
    simp only[bs,zzX,Bool.or_eq_true,tg,Bool.not_eq_true',decide_eq_false_iff_not,Bool.not_eq_false',Bool.or_eq_false_iff,Bool.and_eq_false_iff,ne_eq]
    repeat' (first|rfl|(exfalso;omega;done)|split)
    all_goals (first|rfl|(exfalso;omega)|omega|simp_all|(simp_all;omega))
  .intro i d f _;simp only[nd hf d f,AD d f,bs];exact Sb (ρ:=Unit) _ _
 .intro i d f q;have u:Eo t i:=TN fun j h o=>JC.1 (LF.1 (q j h o));simp only[nt hf d f u,AD d f,bs];exact Sb (ρ:=Unit) _ _
end Go.Sf.Sc
namespace Go.Sf.Sc
open Go Go.Sf
theorem Hs{α:Type}{c:Bool}{a b:α}:(if c=true then some a else some b)=some (if c=true then a else b):=by cases c<;>rfl
def M0(n:Int):Bool:=(decide (0<=n))&&(decide (n<=99))
def Rs(e:Bf)(n:Int):Bool:=M0 e.mo&&(decide (0<=e.ne)&&decide (e.ne<n))&&(decide (0<=e.To)&&decide (e.To<n))
def Bl(g:d5):Int:=
 if 40<g.d3.length\/80<g.d4.length then 3 else if(g.d3.any fun n=>!M0 n)=true then 6 else if(g.d4.any fun e=>!Rs e g.d3.length)=true then 6 else 0
structure Dm(g:d5):Prop where
 ei:g.d3.length<=40
 em:g.d4.length<=80
 kind:∀n∈g.d3,0<=n/\n<=99
 fit:∀e∈g.d4,(0<=e.mo/\e.mo<=99)/\(0<=e.ne/\e.ne<g.d3.length)/\(0<=e.To/\e.To<g.d3.length)
variable{g:d5}
theorem Cm(h:Bl g=0):Dm g:=by
 unfold Bl at h;split at h
 .cases h
 .split at h
  .cases h
  .split at h
   .cases h
   .rename_i o f d;refine⟨by omega,by omega,fun n j=>?_,fun e he=>?_⟩
    .rw[Bool.not_eq_true,List.any_eq_false]at f
     grind [M0]
    .rw[Bool.not_eq_true,List.any_eq_false]at d;have:=d e he;simp only[Rs,M0,Bool.not_eq_true',Bool.not_eq_false,tg,zzX]at this;omega
theorem nL{e:Bf}{n:Nat}(h:n<=40):Lv e n=some (Rs e n):=by
 unfold Lv Gi Rs M0;simp only[bs,As (show -9223372036854775808<=(n:Int)-1 by omega) (by omega)];have d:decide (e.ne<=(n:Int)-1)=decide (e.ne<n):=by rw[decide_eq_decide];omega
 have f:decide (e.To<=(n:Int)-1)=decide (e.To<n):=by rw[decide_eq_decide];omega
 rw [d,f];generalize (decide (0<=e.mo)&&decide (e.mo<=99))=b1;generalize (decide (0<=e.ne)&&decide (e.ne<n))=b2;cases b1<;>cases b2<;>simp
theorem KC(g:d5):CW g=some (Bl g):=by
 unfold CW Bl;by_cases h:40<g.d3.length\/80<g.d4.length
 .grind
 .rw[az (by simp;omega),az h,show Kz=(fun n=>some (!M0 n))from rfl,Wz,Y6 (p:=fun e=>!Rs e g.d3.length) (fun e _=>by
   grind [K0,nL])]
  grind
theorem LT(g:d5):Dk g=some (Bl g):=by
 unfold Dk Bl;by_cases h:40<g.d3.length\/80<g.d4.length
 .grind
 .rw[az (by simp;omega),az h,HK,HK,BP (fun i=>!M0 (AA g.d3 i)) 6]
  .rw[BP (fun i=>!Rs (AA g.d4 i) g.d3.length) 6]
   .cases og (fun i=>!M0 (AA g.d3 i)) 0 g.d3.length
    .cases og (fun i=>!Rs (AA g.d4 i) g.d3.length) 0 g.d4.length<;>rfl
    .rfl
   .intro i d f _;rw[AD d f,bs];unfold M8 Rs;simp only[show∀n,KF n=some (M0 n)from fun _=>rfl,bs]
    grind
  grind [AD,KF,AA,M0]
def Cj(t:AC)(g:d5):Bool:=!(g.d3.any fun n=>decide (t.d3.length<=n))&&!(g.d4.any fun e=>decide (t.d4.length<=e.mo))
variable{t:AC}
theorem H1(d:Dm g)(h:Cj t g=true):(∀n∈g.d3,0<=n/\n<t.d3.length)/\∀e∈g.d4,0<=e.mo/\e.mo<t.d4.length:=by
 unfold Cj at h;simp only[tg,Bool.not_eq_true',List.any_eq_false,zzX]at h;refine⟨fun n f=>?_,fun e he=>?_⟩
 .have:=h.1 n f;have:=d.kind n f;omega
 .have:=h.2 e he;have:=d.fit e he;omega
theorem kT(t:AC)(g:d5):He t g=some (Cj t g):=by grind[He,Cj,MM,Wz,MN,Bf,Y7]
theorem VH(h:Dm g):GW t g=some (Cj t g):=by
 unfold GW Cj;rw[HK,HK,BP (fun i=>decide (t.d3.length<=AA g.d3 i)) false]
 .rw[BP (fun i=>decide (t.d4.length<=(AA g.d4 i).mo)) false]
  .cases og (fun i=>decide (t.d3.length<=AA g.d3 i)) 0 g.d3.length
   .cases og (fun i=>decide (t.d4.length<=(AA g.d4 i).mo)) 0 g.d4.length<;>rfl
   .rfl
  .intro i d f _;have:=(h.fit _ (AK d f)).1.1;simp only[AD d f,bs]
   grind
 .intro i d f _;have:=(h.kind _ (AK d f)).1;simp only[AD d f,bs]
  grind
structure Fk(t:AC):Prop where
 ei:t.d3.length<=12
 em:t.d4.length<=20
 node:∀i:Int,0<=i->i<t.d3.length->H8 t i=0
 edge:∀i:Int,0<=i->i<t.d4.length->J9 t i=0
theorem DF(h:(Ax t).2=0):Fk t:=by
 unfold Ax at h;split at h
 .cases h
 .split at h
  .cases h
  .rename_i u w;have f:∀i:Int,0<=i->i<t.d3.length->H8 t i=0:=by
    grind [Cw,nz,JC,LF,B0]
   have he:∀i:Int,0<=i->i<t.d4.length->J9 t i=0:=by
    split at h
    .rename_i r d;obtain⟨i,o,q,j,_⟩:=Cw d;rw[f i o q]at j;cases j
    .cases d:fst (fun i=>(nz (J9 t i)).map fun e=>((AA t.d4 i).po,e)) 0 t.d4.length with
     |some r=>
      grind [Cw,nz]
     |none=>
      grind [JC,LF,B0]
   exact ⟨by omega,by omega,f,he⟩
theorem Fk.par(h:Fk t):Eo t t.d3.length:=TN h.node
variable{i:Int}
theorem Fk.ends(h:Fk t)(d:0<=i)(f:i<t.d4.length):(0<=(AA t.d4 i).ne/\(AA t.d4 i).ne<t.d3.length)/\(0<=(AA t.d4 i).To/\(AA t.d4 i).To<t.d3.length):=by
 have:=h.edge i d f
 grind [J9]
def JV(t:AC)(a:Int):Bool:=decide (0<=a)&&decide (a<t.d3.length)
variable{a:Int}
theorem LQ:JV t a=true↔0<=a/\a<t.d3.length:=by unfold JV;simp
theorem VD(hf:At t)(l:Fp):El t l=some (if(Ax t).2≠0 then(Ax t).2 else if(l.all (JV t))=true then 0 else 6):=by
 unfold El;rw[Mn hf,bs,Re (p:=fun a=>!JV t a) (fun a _=>by unfold K9 JV;rw[show decide (a<0)=!decide (0<=a)from by rw[<-decide_not,decide_eq_decide];omega,show decide ((t.d3.length:Int)<=a)=!decide (a<t.d3.length)from by rw[<-decide_not,decide_eq_decide];omega,Bool.not_and]),bs]
 grind
theorem Zf(hf:At t)(a b:Int):JG t a b=some (if(Ax t).2≠0 then(Ax t).2 else if(JV t a&&JV t b)=true then 0 else 6):=by
 have d:=hf.ei;have e:∀a,decide (a<=(t.d3.length:Int)-1)=decide (a<(t.d3.length:Int)):=fun a=>by rw[decide_eq_decide];omega
 unfold JG DM;rw[OP hf,bs]
 grind [As,Ax,JV]
theorem dk{α:Type}[Inhabited α]{l:List α}(d:0<=i)(f:i<l.length):BG l i (AA l i)=l:=by grind[BG,AA,List.getElem?_eq_getElem,List.set_getElem_self]
theorem CD{α:Type}[Inhabited α]{l:List α}(d:0<=i)(f:i<l.length):l.take (i+1).toNat=l.take i.toNat++[AA l i]:=by
 unfold AA;rw[show(i+1).toNat=i.toNat+1 by omega,List.take_add_one,List.getD_eq_getElem?_getD,List.getElem?_eq_getElem (by omega)];rfl
theorem BO{α:Type}{l:List α}(h:l.length<=Ad):Ah [] l=some l:=by grind[Af]
def F9(t:AC)(a:Int):List kq×Int:=if(Ax t).2≠0 then([],(Ax t).2)else if JV t a=true then(Ay t a,0)else([],6)
theorem Pr(hf:At t)(a:Int):Dl t a=some (F9 t a):=by
 unfold Dl F9;rw[VD hf,bs];by_cases h:(Ax t).2=0
 .have j:=DF h;have e:[a].all (JV t)=JV t a:=by simp
  rw [e];simp only[h,ne_eq,not_true_eq_false,if_false];cases hi:JV t a
  .rfl
  .rw[ae rfl,ae rfl];have o:=LQ.1 hi;have D:=GG hf (Int.le_refl _) j.par o.2;have B:=Lf hf (Int.le_refl _) j.par o.2;rw[az (by decide),ZV hf (Int.le_refl _) j.par o.1 o.2,bs];obtain⟨s',C,rfl⟩:=QN (f:=(fun(q:Int)(u:List kq)=>
 (idx u q).bind fun w=>
 (slices_Clone_string w.wi).bind fun x=>
 (idx u q).bind fun d=>
 some (BG u q (kq.mk d.po d.Low d.AaE x)))) (fun _ s=>s=Ay t a) (a:=0) (b:=(Ay t a).length) (s:=Ay t a) (by omega) rfl (fun i s y z A=>by
     subst A;have:=(B _ (AK y z)).names;refine⟨Ay t a,?_,rfl⟩;unfold slices_Clone_string;rw[AD y z,bs,BO (by unfold Ad;omega),bs,bs];congr 1;exact dk y z)
   rw [C];rfl
 .simp only[h,ne_eq,not_false_eq_true,if_true,decide_false,Bool.not_false]
theorem Ps(hf:At t)(a:Int):FR t a=some (F9 t a):=by
 unfold FR F9;rw[Zf hf,bs];by_cases h:(Ax t).2=0
 .have d:=DF h;rw[Bool.and_self];simp only[h,ne_eq,not_true_eq_false,if_false];cases hi:JV t a
  .rfl
  .rw[ae rfl,ae rfl];have f:=LQ.1 hi;have u:=GG hf (Int.le_refl _) d.par f.2;have q:=Lf hf (Int.le_refl _) d.par f.2;rw[az (by decide),Zd hf (Int.le_refl _) d.par f.1 f.2,bs];rw[Bk (fun i=>(Ay t a).take i.toNat) (by omega) (by simp)]
   .rw[bs,Int.toNat_natCast,List.take_length]
   .intro i j o;have:=(q _ (AK j o)).names;rw[AD j o,bs,BO (by unfold Ad;omega),bs,Af (by rw[c7];simp;unfold Ad;omega),CD j o];rfl
 grind
end Go.Sf.Sc
namespace Go.Sf.Sc
open Go Go.Sf
def Oq(t:AC):Nat->Int->Fp
 |0,_=>[]|n+1,a=>if a<0 then[]else a::Oq t n (par t a)
theorem Zv(t:AC):∀(n:Nat)(a:Int),(Oq t n a).length<=n
 |0,_=>by simp[Oq]|n+1,a=>by
  rw [Oq];split
  .simp
  .have:=Zv t n (par t a);simp;omega
def IY(t:AC)(a b:Int):Bool:=(Oq t (a+1).toNat a).any fun x=>decide (b=x)
variable{t:AC}
theorem ZM(f:t.d3.length<=12)(q:Eo t t.d3.length):∀(n:Nat)(a:Int)(l:Fp),a<t.d3.length->a<n->l.length+n<=1000 ->
  ∃x,LC (ρ:=Fp) (fun(d:Int×Fp)=>
 if (decide (0<=d.1))=true then
 (Ah d.2 [d.1]).bind fun h=>
 (idx t.d3 d.1).bind fun j=>
 some (.next (j.Aad,h))
 else
 some (.brk (d.1,d.2))) (a,l) (.inl (x,l++Oq t n a))
 |0,a,l,o,u,_=>by
  refine ⟨a,.brk ?_⟩
  grind [Oq]
 |n+1,a,l,o,u,A=>by
  by_cases w:a<0
  .refine⟨a,.brk ?_⟩
   grind [Oq]
  .have y:=q a (by omega) o;obtain⟨x,z⟩:=ZM f q n (par t a) (l++[a]) (by omega) (by omega) (by simp;omega);refine⟨x,.next (s':=(par t a,l++[a])) ?_ ?_⟩
   .rw[ae (by simp;omega),Af (by simp;unfold Ad;omega),bs,AD (by omega) o];rfl
   grind [Oq,par]
variable{a b:Int}
theorem fc(h:Fk t)(o:0<=a)(d:a<t.d3.length):H2 t a b=some (IY t a b):=by
 have f:=h.ei;obtain⟨x,j⟩:=ZM f h.par (a+1).toNat a [] d (by omega) (by simp;omega);have q:=Zv t (a+1).toNat a;unfold H2 Iw;rw[j.eq,Bh]
 grind [slices_Reverse_int,Ad,KW,IY]
theorem Xx(d:Eo t t.d3.length)(j:0<=b):∀(n m:Nat)(a:Int),-1<=a->a<t.d3.length->a+1<n->a<m->E6 n t a b=some ((Oq t m a).any fun x=>decide (b=x))
 |0,_,_,_,_,_,_=>by omega|n+1,m,a,q,h,u,w=>by
  rw [E6];by_cases f:a<0
  .rw[az (by simp;omega),az (by simp;omega)];cases m<;>simp[Oq,f]
  .cases m with
   |zero=>omega|succ m=>
    have o:=d a (by omega) h;rw[Oq,az f,List.any_cons,ae (show decide (0<=a)=true by simp;omega),AD (by omega) h];simp only[bs];rw[show(AA t.d3 a).Aad=par t a from rfl,Xx d j n m (par t a) (by omega) (by omega) (by omega) (by omega)]
    grind
theorem Sk(h:Fk t)(j:0<=a)(d:a<t.d3.length)(f:0<=b):Gl t a b=some (IY t a b):=
 EC (a+2).toNat fun n o=>Xx h.par f n (a+1).toNat a (by omega) d (by omega) (by omega)
def QM(t:AC)(e f g:Int):Bool:=
 decide ((Ax t).2=0)&&(JV t f&&JV t g)&&(decide (0<=e)&&decide (e<t.d4.length))&&(IY t f (AA t.d4 e).ne&&IY t g (AA t.d4 e).To)
theorem cg(hf:At t)(e f g:Int):GP t e f g=some (QM t e f g):=by
 unfold GP QM;rw[VD hf,bs,show[f,g].all (JV t)=(JV t f&&JV t g)by simp];by_cases h:(Ax t).2=0
 .simp only[h,ne_eq,not_true_eq_false,if_false];have d:=DF h;cases hi:(JV t f&&JV t g)
  .rfl
  .rw[tg,LQ,LQ]at hi;by_cases he:0<=e/\e<t.d4.length
   .rw[az (by simp;omega),AD he.1 he.2];simp only[bs,fc d hi.1.1 hi.1.2,fc d hi.2.1 hi.2.2,he.1,he.2,decide_true,Bool.true_and]
    grind
   grind
 .simp[h]
theorem dA(hf:At t)(e f g:Int):KD t e f g=some (QM t e f g):=by
 have u:=hf.em;unfold KD QM DM;rw[Zf hf,bs];by_cases h:(Ax t).2=0
 .simp only[h,ne_eq,not_true_eq_false,if_false];have d:=DF h;cases hi:(JV t f&&JV t g)
  .rfl
  .rw[tg,LQ,LQ]at hi;rw[As (by omega) (by omega)];simp only[bs];by_cases he:0<=e/\e<t.d4.length
   .have j:=d.ends he.1 he.2;have o:e<=(t.d4.length:Int)-1:=by omega
    rw [az (by simp),bs,az (by simp[he.1,o]),AD he.1 he.2];simp only[bs,Sk d hi.1.1 hi.1.2 j.1.1,Sk d hi.2.1 hi.2.2 j.2.1,he.1,he.2,decide_true,Bool.true_and];cases IY t f (AA t.d4 e).ne<;>rfl
   .have:(decide (0<=e)&&decide (e<t.d4.length))=false:=by rw[Bool.eq_false_iff];simpa using he
    have q:(decide (0<=e)&&decide (e<=(t.d4.length:Int)-1))=false:=by rw[Bool.eq_false_iff];simp;omega
    rw [this,q];simp
 .simp[h]
def MQ(n:Int)(x:j4):Bool:=(((decide ((-1)<=x.Var))&&(decide (x.Var<n)))&&(decide ((-1000000)<=x.Add)))&&(decide (x.Add<=1000000))
def NN(n:Int)(x:Test):Int:=if¬x.ns=1/\¬x.ns=2 then 1 else if(MQ n x.kp&&MQ n x.fd)=true then 0 else 6
def I7(n:Int)(l:List Test):Int:=if n<0\/12<n then 6 else if 40<l.length then 3 else(fst (fun i=>nz (NN n (AA l i))) 0 l.length).getD 0
theorem nU(n:Int)(x:Test):IF n x=some (NN n x):=by
 unfold IF NN;simp only[show∀n x,HM n x=some (MQ n x)from fun _ _=>rfl,bs];generalize MQ n x.kp=b1;generalize MQ n x.fd=b2;cases b1<;>cases b2
 all_goals
  simp only[bs,zzX,Bool.or_eq_true,tg,Bool.not_eq_true',decide_eq_false_iff_not,Bool.not_eq_false',Bool.or_eq_false_iff,Bool.and_eq_false_iff,ne_eq]
  repeat' (first|rfl|(exfalso;omega;done)|split)
  all_goals (first|rfl|(exfalso;omega)|omega|simp_all|(simp_all;omega))
theorem fv(n:Int)(x:j4):IM n x=some (if MQ n x=true then 0 else 6):=by
 unfold IM MQ;simp only[bs,zzX,Bool.or_eq_true,tg,Bool.not_eq_true',decide_eq_false_iff_not,Bool.not_eq_false',Bool.or_eq_false_iff,Bool.and_eq_false_iff,ne_eq]
 repeat' (first|rfl|(exfalso;omega;done)|split)
 all_goals (first|rfl|(exfalso;omega)|omega|simp_all|(simp_all;omega))
theorem n8(n:Int)(x:Test):Nd n x=some (NN n x):=by
 unfold Nd NN;simp only[fv,bs];generalize MQ n x.kp=b1;generalize MQ n x.fd=b2;cases b1<;>cases b2
 all_goals
  simp only[bs,zzX,Bool.or_eq_true,tg,Bool.not_eq_true',decide_eq_false_iff_not,Bool.not_eq_false',Bool.or_eq_false_iff,Bool.and_eq_false_iff,ne_eq]
  repeat' (first|rfl|(exfalso;omega;done)|split)
  all_goals (first|rfl|(exfalso;omega)|omega|simp_all|(simp_all;omega))
theorem kS(n:Int)(l:List Test):Gh n l=some (I7 n l):=by
 unfold Gh I7;rw[BU (fun i=>nz (NN n (AA l i))),CT]
 .simp only[bs,zzX,Bool.or_eq_true,tg,Bool.not_eq_true',decide_eq_false_iff_not,Bool.not_eq_false',Bool.or_eq_false_iff,Bool.and_eq_false_iff,ne_eq]
  repeat' (first|rfl|(exfalso;omega;done)|split)
  all_goals (first|rfl|(exfalso;omega)|omega|simp_all|(simp_all;omega))
 .intro i d f _;rw[AD d f,bs,nU,bs,Ka]
theorem ku(n:Int)(l:List Test):Kf n l=some (I7 n l):=by
 unfold Kf I7;rw[BU (fun i=>nz (NN n (AA l i))),CT]
 .simp only[bs,zzX,Bool.or_eq_true,tg,Bool.not_eq_true',decide_eq_false_iff_not,Bool.not_eq_false',Bool.or_eq_false_iff,Bool.and_eq_false_iff,ne_eq]
  repeat' (first|rfl|(exfalso;omega;done)|split)
  all_goals (first|rfl|(exfalso;omega)|omega|simp_all|(simp_all;omega))
 .intro i d f _;rw[AD d f,bs,n8,bs,Ka]
def P6(t:AC)(p:ec)(node ix:Int):kq×Bool:=
 if node<0\/p.d5.d3.length<=node then(default,false)else
 let l:=(F9 t (AA p.d5.d3 node)).1
 if ix<0\/l.length<=ix then(default,false)else(AA l ix,true)
theorem Tu(hf:At t)(a:Int):(F9 t a).1.length<=600/\((F9 t a).2≠0->(F9 t a).1=[]):=by
 unfold F9;split
 .simp
 .rename_i h;have d:=DF (t:=t) (by omega);split
  .rename_i hi;exact⟨GG hf (Int.le_refl _) d.par (LQ.1 hi).2,by simp⟩
  .simp
variable{p:ec}
theorem kH(hf:At t)(d:Dm p.d5)(s:CU):ET t p s=some (P6 t p s.tl s.kq):=by
 have j:=d.ei;unfold ET P6 CP;dsimp only;rw[As (by omega) (by omega),bs];by_cases h:s.tl<0\/p.d5.d3.length<=s.tl
 .rw[ae (by simp;omega),ae h];rfl
 .rw[az (by simp;omega),az h,AD (by omega) (by omega),bs,Pr hf,bs];have o:=(Tu hf (AA p.d5.d3 s.tl)).1;rw[As (by omega) (by omega),bs];by_cases f:s.kq<0\/(F9 t (AA p.d5.d3 s.tl)).1.length<=s.kq
  .rw[ae (by simp;omega),ae f];rfl
  grind [AD]
theorem kW(hf:At t)(node d:Int):MF t p node d=some (P6 t p node d):=by
 unfold MF P6;dsimp only;by_cases h:node<0\/p.d5.d3.length<=node
 .rw[ae (by simp;omega),ae h];rfl
 .rw[az (by simp;omega),az h,AD (by omega) (by omega),bs,Ps hf,bs];have j:=(Tu hf (AA p.d5.d3 node)).2;by_cases f:d<0\/(F9 t (AA p.d5.d3 node)).1.length<=d
  .rw[ae (by simp;omega),ae f];rfl
  grind [F9,AA,AD]
end Go.Sf.Sc
namespace Go.Sf
variable{σ ρ:Type}
def dr(s:σ)(o:Option ρ):Bp σ ρ:=match o with
 |none=>.next s|some r=>.ret r
def jH(s:σ)(o:Option ρ):σ ⊕ ρ:=match o with
 |none=>.inl s|some r=>.inr r
theorem XO{f:Int->σ->Option (Bp σ ρ)}(g:Int->σ)(c:Int->Option ρ):∀(n:Nat)(a:Int),
  (∀i,a<=i->i<a+n->(∀j,a<=j->j<i->c j=none)->f i (g i)=some (dr (g (i+1)) (c i)))->Aae f n a (g a)=some (jH (g (a+n)) (Ed c n a))
 |0,a,_=>by simp[Aae,Ed,jH]|n+1,a,h=>by
  have q:=h a (Int.le_refl _) (by omega) (fun j d o=>by omega);rw[FP,q,Ed];cases y:c a with
  |some r=>rfl|none=>
   simp only[dr];rw[show a+((n+1:Nat):Int)=a+1+n by omega];refine XO g c n (a+1) (fun i d o u=>h i (by omega) (by omega) (fun j w x=>?_))
   grind
variable{a b:Int}
theorem JB{f:Int->σ->Option (Bp σ ρ)}(g:Int->σ)(c:Int->Option ρ){s:σ}(d:a<=b)(o:s=g a)(h:∀i,a<=i->i<b->(∀j,a<=j->j<i->c j=none)->f i (g i)=some (dr (g (i+1)) (c i))):kl f a b s=some (jH (g b) (fst c a b)):=by
 subst o;unfold kl fst;have:=XO g c (b-a).toNat a (fun i q w u=>h i q (by omega) u)
 grind
variable{α:Type}
variable{e:Int}
theorem DW{X:QQ}{Y:Int}(h:e=0->X=some Y):(if(!decide (e=0))=true then some e else X)=some (if e≠0 then e else Y):=by grind
variable{v:α}{X:Option α}{Y:α}
theorem Ee(h:e=0->X=some Y):(if(!decide (e=0))=true then some v else X)=some (if e≠0 then v else Y):=by grind
variable{P:Prop}
theorem Lh[Decidable P]{b:Bool}(d:b=true↔P)(h:¬P->X=some Y):(if b=true then some v else X)=some (if P then v else Y):=by grind
theorem Tz{b:Bool}(h:b=true->X=some Y):(if(!b)=true then some v else X)=some (if b=false then v else Y):=by grind
theorem W5{b:Bool}(h:b=false->X=some Y):(if b=true then some v else X)=some (if b=true then v else Y):=by grind
end Go.Sf
namespace Go.Sf.Sc
open Go Go.Sf
def P7(t:AC)(p:ec)(s:CU):Bool:=!(P6 t p s.tl s.kq).2||decide (s.j4.Var< -1)||decide (p.hV<=s.j4.Var)||(decide (s.j4.Add< -1000000)||decide (1000000<s.j4.Add))
def Jp(p:ec)(v:Int):Bool:=p.ff.any fun s=>decide (s.j4.Var=v)
def G2(t:AC)(p:ec):Int:=
 if (Ax t).2≠0 then(Ax t).2 else if Bl p.d5≠0 then Bl p.d5 else if Cj t p.d5=false then 13 else
 if p.hV<0\/12<p.hV then 6 else if 10<p.ff.length\/10<p.sc.length then 3 else
 if (p.ff.any (P7 t p))=true then 6 else if I7 p.hV p.sc≠0 then I7 p.hV p.sc else
 if og (fun v=>!Jp p v) 0 p.hV=true then 9 else 0
def Ix(p:ec)(i:Int):a6:=(List.range p.hV.toNat).map fun(v:Nat)=>(p.ff.take i.toNat).any fun s=>decide (s.j4.Var=(v:Int))
variable{p:ec}
theorem bY:Ix p 0=List.replicate p.hV.toNat false:=by
 unfold Ix;refine List.ext_getElem (by simp) (fun n d f=>by simp)
theorem eP(p:ec)(i:Int):(Ix p i).length=p.hV.toNat:=by simp[Ix]
variable{i:Int}
theorem eQ(d:0<=i)(f:i<p.ff.length)(hv:0<=(AA p.ff i).j4.Var):BG (Ix p i) (AA p.ff i).j4.Var true=Ix p (i+1):=by
 unfold BG;refine List.ext_getElem (by simp[Ix]) (fun n h j=>?_);simp only[Ix,List.getElem_set,List.getElem_map,List.getElem_range,CD d f,List.any_append,List.any_cons,List.any_nil,Bool.or_false]
 grind
theorem bX(d:0<=i)(f:i<p.ff.length)(hv:(AA p.ff i).j4.Var<0):Ix p i=Ix p (i+1):=by
 refine List.ext_getElem (by simp[Ix]) (fun n h j=>?_);simp only[Ix,List.getElem_map,List.getElem_range,CD d f,List.any_append,List.any_cons,List.any_nil,Bool.or_false]
 grind
theorem eM(p:ec):((Ix p p.ff.length).any fun x=>false==x)=og (fun v=>!Jp p v) 0 p.hV:=by
 rw [Bool.eq_iff_iff,List.any_eq_true,Dv];simp only[Ix,Int.toNat_natCast,List.take_length,List.mem_map,List.mem_range];constructor
 .rintro⟨x,⟨v,hv,rfl⟩,d⟩;refine⟨v,by omega,by omega,?_⟩
  grind [Jp]
 .rintro⟨v,f,h,d⟩;refine⟨_,⟨v.toNat,by omega,rfl⟩,?_⟩
  grind [Int.toNat_of_nonneg,Jp]
theorem ZI{α ρ:Type}[Inhabited α]{l:List α}{q:α->Bool}{v:ρ}:fst (fun i=>if q (AA l i)=true then some v else none) 0 l.length=if l.any q=true then some v else none:=by
 rw [LP,HK]
variable{t:AC}
theorem UY(hf:At t)(p:ec):Cd t p=some (G2 t p):=by
 unfold Cd G2;rw[Mn hf,bs,KC,bs];refine DW fun F=>DW fun D=>?_;have x:=Cm D;have e:((Ak p.d5.d3 (fun d=>F7 d t)).bind fun o=>
   (if o=true then some true else((BJ p.d5.d4 (fun d=>F8 d t)).bind fun q=>some (q))))=some (!Cj t p.d5):=by
  unfold Cj;rw[show(fun d=>F7 d t)=(fun(n:Int)=>some (decide (t.d3.length<=n)))from rfl,Wz,show(fun d=>F8 d t)=(fun(e:Bf)=>some (decide (t.d4.length<=e.mo)))from rfl,Y7];simp only[bs];cases p.d5.d3.any fun n=>decide (t.d3.length<=n)<;>simp
 rw [<-Option.bind_assoc,e,bs];refine Tz fun E=>?_;unfold CP;simp only[bs];refine Lh (by simp;try omega) fun hv=>Lh (by simp;try omega) fun G=>?_;unfold IJ;rw[ae (by omega),bs,<-bY,As (show -9223372036854775808<=p.hV-1 by omega) (by omega),JB (Ix p) (fun i=>if P7 t p (AA p.ff i)=true then some 6 else none) (by omega) rfl,ZI]
 .cases f:p.ff.any (P7 t p)
  .simp only[Bool.false_eq_true,if_false,jH,Bh,kS,bs,jh,eM];by_cases h:I7 p.hV p.sc=0
   .simp only[h];cases og (fun v=>!Jp p v) 0 p.hV<;>rfl
   .simp[h]
  .rfl
 .intro i u w _;rw[AD u w,bs,kH hf x,bs];unfold P7;by_cases f:(P6 t p (AA p.ff i).tl (AA p.ff i).kq).2=true
  .by_cases C:(AA p.ff i).j4.Var< -1\/p.hV<=(AA p.ff i).j4.Var
   .have y:(decide (-1<=(AA p.ff i).j4.Var)&&decide ((AA p.ff i).j4.Var<=p.hV-1))=false:=by rw[Bool.eq_false_iff];simp;omega
    have z:(decide ((AA p.ff i).j4.Var< -1)||decide (p.hV<=(AA p.ff i).j4.Var))=true:=by simp;omega
    rw [f,y,Bool.or_assoc (!true),z];rfl
   .have y:(decide (-1<=(AA p.ff i).j4.Var)&&decide ((AA p.ff i).j4.Var<=p.hV-1))=true:=by simp;omega
    have z:(decide ((AA p.ff i).j4.Var< -1)||decide (p.hV<=(AA p.ff i).j4.Var))=false:=by rw[Bool.eq_false_iff];simp;omega
    rw [f,y,Bool.or_assoc (!true),z];by_cases H:(AA p.ff i).j4.Add< -1000000\/1000000<(AA p.ff i).j4.Add
    .have A:(decide (-1000000<=(AA p.ff i).j4.Add)&&decide ((AA p.ff i).j4.Add<=1000000))=false:=by rw[Bool.eq_false_iff];simp;omega
     have B:(decide ((AA p.ff i).j4.Add< -1000000)||decide (1000000<(AA p.ff i).j4.Add))=true:=by simp;omega
     rw [A,B];rfl
    .have A:(decide (-1000000<=(AA p.ff i).j4.Add)&&decide ((AA p.ff i).j4.Add<=1000000))=true:=by simp;omega
     have B:(decide ((AA p.ff i).j4.Add< -1000000)||decide (1000000<(AA p.ff i).j4.Add))=false:=by rw[Bool.eq_false_iff];simp;omega
     rw [A,B];by_cases j:0<=(AA p.ff i).j4.Var
     .simp only[Bool.not_true,Bool.false_eq_true,if_false,bs,j,decide_true,if_true,Bool.or_false];rw[AD j (by rw[eP];omega),bs,eQ u w j];rfl
     .simp only[Bool.not_true,Bool.false_eq_true,if_false,bs,j,decide_false,Bool.or_false];rw[bX u w (by omega)];rfl
  .rw[Bool.not_eq_true]at f;rw[f];rfl
theorem iq(p:ec)(v:Int):Jw p v=some (Jp p v):=by
 unfold Jw Jp;rw[BP (fun i=>decide ((AA p.ff i).j4.Var=v)) true,HK]
 .cases og (fun i=>decide ((AA p.ff i).j4.Var=v)) 0 p.ff.length<;>rfl
 .intro i d f _;rw[AD d f,bs,Hs]
theorem Wh(hf:At t)(p:ec):GX t p=some (G2 t p):=by
 unfold GX G2;rw[OP hf,bs,LT,bs];refine DW fun u=>DW fun o=>?_;have f:=Cm o;rw[VH f,bs];refine Tz fun q=>Lh (by simp;try omega) fun hv=>Lh (by simp;try omega) fun w=>?_;rw[BP (fun i=>P7 t p (AA p.ff i)) 6,<-HK]
 .cases x:p.ff.any (P7 t p)
  .simp only[Bool.false_eq_true,if_false,Bh,ku,bs];by_cases d:I7 p.hV p.sc=0
   .simp only[d];rw[BP (fun v=>!Jp p v) 9]
    .cases og (fun v=>!Jp p v) 0 p.hV<;>rfl
    .intro i h j _;rw[iq,bs,Hs]
   .simp[d]
  .rfl
 .intro i h j _;rw[AD h j,bs,kW hf,bs];unfold P7 K3
  grind
def NJ(t:AC)(p:ec)(i:Int):Int:=
 let s:=AA p.ff i
 if s.tl<0\/p.d5.d3.length<=s.tl then 6 else
 let l:=(F9 t (AA p.d5.d3 s.tl)).1
 if ((((((decide (s.kq<0))||(decide ((l.length:Int)<=s.kq)))||(decide (s.j4.Var<(-1))))||(decide (p.hV<=s.j4.Var)))||(decide (s.j4.Add<(-1000000))))||(decide (1000000<s.j4.Add)))=true then 6 else
 if og (fun j=>(decide ((AA p.ff j).tl=s.tl))&&(decide ((AA p.ff j).kq=s.kq))) 0 i=true then 5 else 0
theorem nS(hf:At t)(r:hT)(d:0<=i)(f:i<r.fd.ff.length):Ie t r i=some (NJ t r.fd i):=by
 unfold Ie NJ;dsimp only;rw[AD d f,bs];refine Lh (by simp) fun h=>?_;rw[AD (by omega) (by omega),bs,Pr hf,bs,LH d (by omega),bs,
  show (fun j=>NG j (AA r.fd.ff i))=(fun y=>some ((decide (y.tl=(AA r.fd.ff i).tl))&&(decide (y.kq=(AA r.fd.ff i).kq))))from rfl,Y8,bs,OY d (by omega)]
 grind
theorem nx(hf:At t)(p:ec)(d:0<=i)(f:i<p.ff.length):MH t p i=some (NJ t p i):=by
 unfold MH NJ;dsimp only;rw[AD d f,bs];refine Lh (by simp) fun h=>?_;rw[AD (by omega) (by omega),bs,Ps hf,bs,
  BP (fun j=>(decide ((AA p.ff j).tl=(AA p.ff i).tl))&&(decide ((AA p.ff j).kq=(AA p.ff i).kq))) 5]
 .refine W5 fun _=>?_;cases og (fun j=>(decide ((AA p.ff j).tl=(AA p.ff i).tl))&&(decide ((AA p.ff j).kq=(AA p.ff i).kq))) 0 i<;>rfl
 grind [AD,AA,kq]
def I5(t:AC)(r:hT):Int:=
 if Bl r.fd.d5≠0 then Bl r.fd.d5 else if Cj t r.fd.d5=false then 13 else
 if r.fd.hV≠r.kp.hV\/0<r.fd.sc.length then 1 else if 10<r.fd.ff.length then 3 else
 (fst (fun i=>nz (NJ t r.fd i)) 0 r.fd.ff.length).getD 0
theorem kP(hf:At t)(r:hT):Hd t r=some (I5 t r):=by
 unfold Hd I5;rw[KC,bs,kT,bs,BU (fun i=>nz (NJ t r.fd i)),CT]
 .grind
 grind [nS,Ka]
theorem kj(hf:At t)(r:hT):Kr t r=some (I5 t r):=by
 unfold Kr I5;rw[LT,bs];refine DW fun d=>?_;rw[VH (Cm d),bs,BU (fun i=>nz (NJ t r.fd i)),CT]
 .grind
 grind [nx,Ka]
end Go.Sf.Sc
namespace Go.Sf
variable{a b:Int}
theorem aM{ρ:Type}{c d:Int->Option ρ}(h:∀i,c i=d i):fst c a b=fst d a b:=by rw[funext h]
def Cx(l:Fp)(v:Int):Int:=(fst (fun i=>if decide (v=AA l i)=true then some i else none) 0 l.length).getD (-1)
variable{l:Fp}
theorem II{v:Int}(h:v∈l):0<=Cx l v/\Cx l v<l.length/\AA l (Cx l v)=v/\∀j,0<=j->j<Cx l v->AA l j≠v:=by
 unfold Cx;cases hf:fst (fun i=>if decide (v=AA l i)=true then some i else none) 0 l.length with
 |none=>
  grind [BV,B0]
 |some k=>
  grind [Cw,AA]
variable{R:Int->Int->Prop}
theorem Kc(h:l.Pairwise R){i j:Int}(d:0<=i)(f:i<j)(o:j<l.length):R (AA l i) (AA l j):=by grind[List.pairwise_iff_getElem,AA,List.getElem?_eq_getElem]
theorem Sr(h:∀i j:Int,0<=i->i<j->j<l.length->R (AA l i) (AA l j)):l.Pairwise R:=by
 refine List.pairwise_iff_getElem.2 (fun i j d f o=>?_);have:=h i j (by omega) (by omega) (by omega);unfold AA at this
 grind
theorem TF(u:l.Pairwise (·<·)){v:Int}(h:v∈l):(l.countP (fun x=>decide (x<v)):Int)=Cx l v:=by
 obtain ⟨w,y,o,_⟩:=II h;generalize E:Cx l v=k at w y o;have e:l=l.take k.toNat++l.drop k.toNat:=(List.take_append_drop _ _).symm;have z:(l.take k.toNat).countP (fun x=>decide (x<v))=k.toNat:=by
  rw [List.countP_eq_length.2 (fun x d=>?_),c7]
  .omega
  .obtain⟨i,C,D,rfl⟩:=BV d;rw[c7]at D;rw[OK (by omega),zzX,<-o];exact Kc u C (by omega) y
 have A:(l.drop k.toNat).countP (fun x=>decide (x<v))=0:=by
  rw [List.countP_eq_zero];intro x d;obtain⟨n,q⟩:=List.getElem?_of_mem d;rw[List.getElem?_drop]at q;have B:=(List.getElem?_eq_some_iff.1 q).1;have f:x=AA l (k+n):=by
   unfold AA;rw[List.getD_eq_getElem?_getD,show(k+(n:Int)).toNat=k.toNat+n by omega,q];rfl
  rw [zzX,f,<-o];by_cases j:n=0
  .subst j;simp
  .have:=Kc u w (show k<k+(n:Int)by omega) (by omega);omega
 rw [e,List.countP_append,z,A];omega
end Go.Sf
namespace Go.Sf.Sc
open Go Go.Sf
theorem jx(l:Fp)(n:Int):(fq (kl (ρ:=Int) (fun(h:Int)(_:Unit)=>
 (idx l h).bind fun d=>
 if (decide (d=n))=true then
 some (.ret h)
 else
 some (.next ())) 0 (l.length:Int) ()) (fun _=>
 some (-1)) (fun j=>some j))=some (Cx l n):=by
 have:=TJ (l:=l) (f:=fun x=>some (decide (x=n))) (p:=fun x=>decide (x=n)) (fun _ _=>rfl);simp only[bs]at this;rw[this];unfold Cx;congr 2;exact aM fun i=>by simp only[eq_comm]
theorem nm(l:Fp)(v:Int):Hw l v=some (Cx l v):=jx l v
def hasB(l:Fp)(v:Int):Bool:=l.any fun x=>decide (v=x)
variable{l:Fp}
theorem CI{v:Int}:hasB l v=true↔v∈l:=by
 unfold hasB
 grind
theorem Mi(l:Fp)(n:Int):(fq (kl (ρ:=Bool) (fun(f:Int)(_:Unit)=>
 (idx l f).bind fun d=>
 if (decide (d=n))=true then
 some (.ret true)
 else
 some (.next ())) 0 (l.length:Int) ()) (fun _=>
 some false) (fun h=>some h))=some (hasB l n):=by
 unfold hasB;rw[BP (fun i=>decide (n=AA l i)) true,HK]
 .cases og (fun i=>decide (n=AA l i)) 0 l.length<;>rfl
 .intro i j o _;rw[AD j o,bs,Hs];simp only[eq_comm]
theorem ke(l:Fp)(v:Int):PG l v=some (hasB l v):=Mi l v
theorem kc(l:Fp)(v:Int):Nf l v=some (hasB l v):=Mi l v
def OZ(l:Fp)(n:Int):Int:=(fst (fun i=>if AA l i<0\/n<=AA l i then some 6 else if 0<i/\AA l i<=AA l (i-1)then some 12 else none) 0 l.length).getD 0
theorem ig(q:l.length<=1000)(n:Int):HC l n=some (OZ l n):=by
 unfold HC OZ;rw[BU (fun i=>if AA l i<0\/n<=AA l i then some 6 else if 0<i/\AA l i<=AA l (i-1)then some 12 else none),CT];intro i j o _;rw[AD j o,bs];by_cases h:AA l i<0\/n<=AA l i
 .rw[ae (by simpa using h),ae h];rfl
 .rw[az (by simpa using h),az h];by_cases d:0<i
  .rw[ae (by simpa using d),As (by omega) (by omega),AD (by omega) (by omega),bs,bs];by_cases f:AA l i<=AA l (i-1)
   .rw[ae (by simpa using f),ae ⟨d,f⟩];rfl
   .rw[az (by simpa using f),az (fun h=>f h.2)];rfl
  .rw[az (by simpa using d),bs,az (by decide),az (fun h=>d h.1)];rfl
theorem io(u:l.length<=1000)(n:Int):Fx l n=some (OZ l n):=by
 unfold Fx OZ;rw[BU (fun i=>if AA l i<0\/n<=AA l i then some 6 else if 0<i/\AA l i<=AA l (i-1)then some 12 else none),CT];intro i j o _;rw[AD j o];simp only[bs];by_cases h:AA l i<0\/n<=AA l i
 .have:(if decide (AA l i<0)=true then some true else some (decide (n<=AA l i)))=some true:=by
   rcases h with h|h
   .simp[h]
   .by_cases q:AA l i<0<;>simp[h,q]
  rw [this,bs,ae rfl,ae h];rfl
 .have:(if decide (AA l i<0)=true then some true else some (decide (n<=AA l i)))=some false:=by
   rw [az (by simp;omega),decide_eq_false (by omega)]
  rw [this,bs,az (by decide),az h];by_cases d:0<i
  .rw[ae (by simpa using d),As (by omega) (by omega),AD (by omega) (by omega),bs,bs];by_cases f:AA l i<=AA l (i-1)
   .rw[ae (by simpa using f),ae ⟨d,f⟩];rfl
   .rw[az (by simpa using f),az (fun h=>f h.2)];rfl
  .rw[az (by simpa using d),bs,az (by decide),az (fun h=>d h.1)];rfl
variable{a b:Int}
theorem O4{c:Int->QQ}(d:∀i,c i≠some 0)(h:(fst c a b).getD 0=0):∀i,a<=i->i<b->c i=none:=by
 have:fst c a b=none:=by
  cases hf:fst c a b with
  |none=>rfl|some r=>
   grind [Option.getD,Cw]
 exact B0.1 this
variable{n:Int}
theorem RU(h:OZ l n=0):(∀x∈l,0<=x/\x<n)/\l.Pairwise (·<·):=by
 have y:=O4 (c:=fun i=>if AA l i<0\/n<=AA l i then some 6 else if 0<i/\AA l i<=AA l (i-1)then some 12 else none) (fun i=>by
  split
  .simp
  .split<;>simp) h
 have f:∀i:Int,0<=i->i<l.length->(0<=AA l i/\AA l i<n)/\(0<i->AA l (i-1)<AA l i):=by
  intro i o w;have:=y i o w;split at this
  .cases this
  .split at this
   .cases this
   .omega
 refine ⟨fun x q=>?_,Sr (fun i j o d u=>?_)⟩
 .obtain⟨i,z,A,rfl⟩:=BV q;exact(f i z A).1
 .obtain⟨k,B⟩:∃k:Nat,j=i+1+k:=⟨(j-i-1).toNat,by omega⟩;subst B;clear d
  induction k with
  |zero=>
   have:=(f (i+1) (by omega) (by omega)).2 (by omega);rw[show i+1-1=i by omega]at this;simpa using this
  |succ k C=>
   have a:=C (by omega);have b:=(f (i+1+((k+1:Nat):Int)) (by omega) u).2 (by omega);rw[show i+1+((k+1:Nat):Int)-1=i+1+k by omega]at b;omega
theorem Qi(f:l.length<=1000)(d:l.Pairwise (·<·))(v:Int):slices_BinarySearch_int l v=some (((l.countP (fun x=>decide (x<v)):Nat):Int),hasB l v):=by
 unfold slices_BinarySearch_int;rw[ae ⟨by unfold Ad;omega,d.imp (fun h=>by omega)⟩];congr 2;rw[Bool.eq_iff_iff,CI,List.contains_iff_mem]
def M3(g:d5)(p:BB):Int:=
 if OZ p.d3 g.d3.length≠0 then OZ p.d3 g.d3.length else if OZ p.d4 g.d4.length≠0 then OZ p.d4 g.d4.length else
 (fst (fun i=>if(hasB p.d3 (AA g.d4 (AA p.d4 i)).ne&&hasB p.d3 (AA g.d4 (AA p.d4 i)).To)=true then none else some 14) 0 p.d4.length).getD 0
structure Wp(g:d5)(p:BB):Prop where
 ei:(∀x∈p.d3,0<=x/\x<g.d3.length)/\p.d3.Pairwise (·<·)
 em:(∀x∈p.d4,0<=x/\x<g.d4.length)/\p.d4.Pairwise (·<·)
 ends:∀x∈p.d4,(AA g.d4 x).ne∈p.d3/\(AA g.d4 x).To∈p.d3
variable{g:d5}
theorem Ub{p:BB}(h:M3 g p=0):Wp g p:=by
 unfold M3 at h;split at h
 .omega
 .split at h
  .omega
  .rename_i q u;refine⟨RU (by omega),RU (by omega),fun x f=>?_⟩;obtain⟨i,j,o,rfl⟩:=BV f;have:=O4 (c:=fun i=>if(hasB p.d3 (AA g.d4 (AA p.d4 i)).ne&&hasB p.d3 (AA g.d4 (AA p.d4 i)).To)=true then none else some 14) (fun i=>by
    split<;>simp) h i j o
   split at this
   .rename_i d;rw[tg,CI,CI]at d;exact d
   .cases this
def EJ(g:d5)(p:BB):Int:=if Bl g≠0 then Bl g else M3 g p
structure PP(p:BB):Prop where
 ei:p.d3.length<=1000
 em:p.d4.length<=1000
theorem ZX{p:BB}(d:PP p):Ds g p=some (EJ g p):=by
 unfold Ds EJ;rw[KC,bs];refine DW fun o=>?_;have w:=Cm o;unfold K8 M3;rw[ig d.ei,bs,ig d.em,bs,Option.bind_fun_some];refine DW fun q=>DW fun u=>?_;obtain⟨a1,x⟩:=RU q;obtain⟨y,z⟩:=RU u;rw[BU (fun i=>if(hasB p.d3 (AA g.d4 (AA p.d4 i)).ne&&hasB p.d3 (AA g.d4 (AA p.d4 i)).To)=true then none else some 14),CT];intro i f h _;have j:=y _ (AK f h);unfold J4;rw[AD f h,bs,AD j.1 j.2];simp only[bs,Qi d.ei x];cases hasB p.d3 (AA g.d4 (AA p.d4 i)).ne<;>cases hasB p.d3 (AA g.d4 (AA p.d4 i)).To<;>rfl
theorem VG{p:BB}(d:PP p):Hv g p=some (EJ g p):=by
 unfold Hv EJ;rw[LT,bs];refine DW fun o=>?_;have u:=Cm o;unfold M9 M3;rw[io d.ei,bs,io d.em,bs,Option.bind_fun_some];refine DW fun x=>DW fun q=>?_;obtain⟨w,y⟩:=RU q;rw[BU (fun i=>if(hasB p.d3 (AA g.d4 (AA p.d4 i)).ne&&hasB p.d3 (AA g.d4 (AA p.d4 i)).To)=true then none else some 14),CT];intro i f h _;have j:=w _ (AK f h);rw[AD f h,bs,AD j.1 j.2];simp only[bs,kc];cases hasB p.d3 (AA g.d4 (AA p.d4 i)).ne<;>cases hasB p.d3 (AA g.d4 (AA p.d4 i)).To<;>rfl
def L8(g:d5)(p:BB):d5:=⟨p.d3.map (AA g.d3),p.d4.map fun x=>⟨(AA g.d4 x).mo,Cx p.d3 (AA g.d4 x).ne,Cx p.d3 (AA g.d4 x).To⟩⟩
variable{i:Int}
theorem G5{α:Type}{f:Int->α}(d:0<=i)(h:i<l.length):(l.take (i+1).toNat).map f=(l.take i.toNat).map f++[f (AA l i)]:=by grind[CD]
theorem QS(z:l.length<=1000)(h:∀x∈l,0<=x/\x<g.d3.length)(es:List Bf):(sr (fun(y:Int)(u:d5)=>
 (idx l y).bind fun d=>
 (idx g.d3 d).bind fun f=>
 (Ah u.d3 [f]).bind fun j=>
 some (d5.mk j u.d4)) 0 (l.length:Int) (d5.mk [] es))=some (d5.mk (l.map (AA g.d3)) es):=by
 rw [Bk (fun i=>d5.mk ((l.take i.toNat).map (AA g.d3)) es) (by omega) (by simp)]
 .rw[Int.toNat_natCast,List.take_length]
 .intro i o q;have w:=h _ (AK o q);rw[AD o q,bs,AD w.1 w.2,bs,Af (by simp;unfold Ad;omega),bs,G5 o q]
theorem UF(B:l.length<=1000)(h:∀x∈l,0<=x/\x<g.d4.length)(o:Fp)(F:Bf->Bf){f:Bf->List Bf->Option (List Bf)}(hf:∀x∈l,∀s,s.length<=1000->f (AA g.d4 x) s=some (s++[F (AA g.d4 x)])):(sr (fun(A:Int)(y:d5)=>
 (idx l A).bind fun q=>
 (idx g.d4 q).bind fun u=>
 (f u y.d4).bind fun w=>
 some (d5.mk y.d3 w)) 0 (l.length:Int) (d5.mk o []))=some (d5.mk o (l.map fun x=>F (AA g.d4 x))):=by
 rw [Bk (fun i=>d5.mk o ((l.take i.toNat).map fun x=>F (AA g.d4 x))) (by omega) (by simp)]
 .rw[Int.toNat_natCast,List.take_length]
 .intro i d j;have z:=h _ (AK d j);rw[AD d j,bs,AD z.1 z.2,bs,hf _ (AK d j) _ (by simp;omega),bs,G5 d j]
theorem cf{p:BB}(d:PP p):Dh g p=some (if EJ g p≠0 then(⟨[],[]⟩,⟨[],[]⟩,EJ g p)else(L8 g p,⟨p.d3,p.d4⟩,0)):=by
 unfold Dh;rw[ZX d,bs];refine Ee fun h=>?_;have w:Bl g=0/\M3 g p=0:=by
  grind [EJ]
 have ho:=Ub w.2;rw[QS d.ei ho.ei.1,bs];have:=UF (g:=g) (l:=p.d4) d.em ho.em.1 (p.d3.map (AA g.d3)) (fun x=>⟨x.mo,Cx p.d3 x.ne,Cx p.d3 x.To⟩) (f:=fun j s=>
  (slices_BinarySearch_int p.d3 j.ne).bind fun o=>
  (slices_BinarySearch_int p.d3 j.To).bind fun q=>
  Ah s [Bf.mk j.mo o.1 q.1]) (fun x u s y=>by
   have he:=ho.ends x u;rw[Qi d.ei ho.ei.2,bs,Qi d.ei ho.ei.2,bs,Af (by simp;unfold Ad;omega),TF ho.ei.2 he.1,TF ho.ei.2 he.2])
 simp only[Option.bind_assoc]at this;rw[this,bs];unfold slices_Clone_int;have z:=d.ei;have A:=d.em;rw[BO (by unfold Ad;omega),bs,BO (by unfold Ad;omega)];rfl
theorem Vx{p:BB}(j:PP p):G6 g p=some (if EJ g p≠0 then(⟨[],[]⟩,⟨[],[]⟩,EJ g p)else(L8 g p,⟨p.d3,p.d4⟩,0)):=by
 unfold G6;rw[VG j,bs];refine Ee fun h=>?_;have u:Bl g=0/\M3 g p=0:=by
  grind [EJ]
 have ho:=Ub u.2;rw[QS j.ei ho.ei.1,bs];have:=UF (g:=g) (l:=p.d4) j.em ho.em.1 (p.d3.map (AA g.d3)) (fun x=>⟨x.mo,Cx p.d3 x.ne,Cx p.d3 x.To⟩) (f:=fun d s=>
  (Hw p.d3 d.ne).bind fun o=>
  (Hw p.d3 d.To).bind fun q=>
  Ah s [Bf.mk d.mo o q]) (fun x w s y=>by
   grind [nm,Af,Ad])
 simp only[Option.bind_assoc]at this;rw[this,bs];have z:=j.ei;have A:=j.em;rw[BO (by unfold Ad;omega),bs,BO (by unfold Ad;omega)];rfl
end Go.Sf.Sc
namespace Go.Sf.Sc
open Go Go.Sf
def KZ(a b:d5)(m:d6)(i:Int):QQ:=
 if AA m.d3 i<0\/b.d3.length<=AA m.d3 i then some 6 else if AA b.d3 (AA m.d3 i)≠AA a.d3 i then some 13 else none
def Gk(a b:d5)(m:d6)(i:Int):QQ:=
 if AA m.d4 i<0\/b.d4.length<=AA m.d4 i then some 6 else
 if (AA a.d4 i).mo≠(AA b.d4 (AA m.d4 i)).mo then some 13 else
 if AA m.d3 (AA a.d4 i).ne≠(AA b.d4 (AA m.d4 i)).ne\/AA m.d3 (AA a.d4 i).To≠(AA b.d4 (AA m.d4 i)).To then some 11 else none
def IK(a b:d5)(m:d6):Int:=
 if Bl a≠0 then Bl a else if Bl b≠0 then Bl b else if m.d3.length≠a.d3.length\/m.d4.length≠a.d4.length then 20 else
 match fst (KZ a b m) 0 m.d3.length with
 |some e=>e|none=>(fst (Gk a b m) 0 m.d4.length).getD 0
structure WT(a b:d5)(m:d6):Prop where
 ga:Dm a
 gb:Dm b
 AaG:m.d3.length=a.d3.length
 AaP:m.d4.length=a.d4.length
 node:∀i:Int,0<=i->i<m.d3.length->(0<=AA m.d3 i/\AA m.d3 i<b.d3.length)/\AA b.d3 (AA m.d3 i)=AA a.d3 i
 edge:∀i:Int,0<=i->i<m.d4.length->(0<=AA m.d4 i/\AA m.d4 i<b.d4.length)/\(AA a.d4 i).mo=(AA b.d4 (AA m.d4 i)).mo/\
  AA m.d3 (AA a.d4 i).ne=(AA b.d4 (AA m.d4 i)).ne/\AA m.d3 (AA a.d4 i).To=(AA b.d4 (AA m.d4 i)).To
variable{m:d6}
theorem SY{a b:d5}(h:IK a b m=0):WT a b m:=by
 unfold IK at h;split at h
 .omega
 split at h
 .omega
 split at h
 .cases h
 rename_i o q u;have j:fst (KZ a b m) 0 m.d3.length=none:=by
  grind [Cw,KZ]
 rw [j]at h;have he:=O4 (fun i=>by
  grind [Gk]) h
 refine ⟨Cm (by omega),Cm (by omega),by omega,by omega,fun i d f=>?_,fun i d f=>?_⟩
 .grind[B0,KZ]
 grind [Gk]
theorem WZ(a b:d5)(m:d6):Cy a b m=some (IK a b m):=by
 unfold Cy IK;rw[KC,bs,KC,bs];refine DW fun u=>DW fun w=>Lh (by simp;try omega) fun z=>?_;have ga:=Cm u;have gb:=Cm w;rw[BU (KZ a b m),Di]
 .cases x:fst (KZ a b m) 0 m.d3.length with
  |some e=>rfl|none=>
   have y:=B0.1 x;dsimp only;rw[BU (Gk a b m),CT];intro i h q _;unfold Gk;rw[AD h q,bs];by_cases d:AA m.d4 i<0\/b.d4.length<=AA m.d4 i
   .rw[ae (by simpa using d),ae d];rfl
   .have hf:=ga.fit _ (AK (l:=a.d4) h (by omega));rw[az (by simpa using d),az d,AD h (by omega),bs,AD (by omega) (by omega),bs];by_cases f:(AA a.d4 i).mo=(AA b.d4 (AA m.d4 i)).mo
    .rw[az (by simpa using f),az (by simpa using f),AD (by omega) (by omega),bs];by_cases j:AA m.d3 (AA a.d4 i).ne=(AA b.d4 (AA m.d4 i)).ne
     .rw[az (by simpa using j),AD (by omega) (by omega),bs,bs];by_cases o:AA m.d3 (AA a.d4 i).To=(AA b.d4 (AA m.d4 i)).To
      .rw[az (by simpa using o),az (by simp[j,o])];rfl
      .rw[ae (by simpa using o),ae (.inr o)];rfl
     .rw[ae (by simpa using j),bs,ae rfl,ae (.inl j)];rfl
    .rw[ae (by simpa using f),ae f];rfl
 .intro i h q _;unfold KZ;rw[AD h q,bs];by_cases d:AA m.d3 i<0\/b.d3.length<=AA m.d3 i
  .rw[ae (by simpa using d),ae d];rfl
  .rw[az (by simpa using d),az d,AD (by omega) (by omega),bs,AD h (by omega),bs];by_cases f:AA b.d3 (AA m.d3 i)=AA a.d3 i
   .rw[az (by simpa using f),az (by simpa using f)];rfl
   .rw[ae (by simpa using f),ae f];rfl
theorem SA{x y:Prop}[Decidable x][Decidable y]:(if decide x=true then some true else some (decide y))=some (decide (x\/y)):=by grind
theorem Wg(a b:d5)(m:d6):GT a b m=some (IK a b m):=by
 unfold GT IK;rw[LT,bs,LT,bs];refine DW fun u=>DW fun w=>Lh (by simp;try omega) fun z=>?_;have ga:=Cm u;have gb:=Cm w;rw[show(a.d3.length:Int)=m.d3.length by omega,show(a.d4.length:Int)=m.d4.length by omega,BU (KZ a b m),Di]
 .cases x:fst (KZ a b m) 0 m.d3.length with
  |some e=>rfl|none=>
   have y:=B0.1 x;dsimp only;rw[BU (Gk a b m),CT];intro i h q _;unfold Gk;rw[AD h q];simp only[bs,SA];by_cases d:AA m.d4 i<0\/b.d4.length<=AA m.d4 i
   .rw[ae (by simpa using d),ae d];rfl
   .have hf:=ga.fit _ (AK (l:=a.d4) h (by omega));rw[az (by simpa using d),az d,AD h (by omega),bs,AD (by omega) (by omega),bs];by_cases f:(AA a.d4 i).mo=(AA b.d4 (AA m.d4 i)).mo
    .rw[az (by simpa using f),az (by simpa using f),AD (by omega) (by omega),bs];by_cases j:AA m.d3 (AA a.d4 i).ne=(AA b.d4 (AA m.d4 i)).ne
     .rw[az (by simpa using j),AD (by omega) (by omega),bs,bs];by_cases o:AA m.d3 (AA a.d4 i).To=(AA b.d4 (AA m.d4 i)).To
      .rw[az (by simpa using o),az (by simp[j,o])];rfl
      .rw[ae (by simpa using o),ae (.inr o)];rfl
     .rw[ae (by simpa using j),bs,ae rfl,ae (.inl j)];rfl
    .rw[ae (by simpa using f),ae f];rfl
 .intro i h q _;unfold KZ;rw[AD h q];simp only[bs,SA];by_cases d:AA m.d3 i<0\/b.d3.length<=AA m.d3 i
  .rw[ae (by simpa using d),ae d];rfl
  .rw[az (by simpa using d),az d,AD (by omega) (by omega),bs,AD h (by omega),bs];by_cases f:AA b.d3 (AA m.d3 i)=AA a.d3 i
   .rw[az (by simpa using f),az (by simpa using f)];rfl
   .rw[ae (by simpa using f),ae f];rfl
def IG(l:Fp):Bool:=!og (fun i=>og (fun j=>decide (AA l i=AA l j)) 0 i) 0 l.length
variable{l:Fp}
theorem QJ:IG l=true↔l.Nodup:=by grind[IG,Bool.not_eq_true',Bi,Sr,Kc]
theorem Wf(l:Fp):Ea l=some (IG l):=by
 unfold Ea IG;rw[BP (fun i=>og (fun j=>decide (AA l i=AA l j)) 0 i) false]
 .cases og (fun i=>og (fun j=>decide (AA l i=AA l j)) 0 i) 0 l.length<;>rfl
 .intro i d f _;rw[BP (fun j=>decide (AA l i=AA l j)) false]
  .cases og (fun j=>decide (AA l i=AA l j)) 0 i<;>rfl
  .intro j h o _;rw[AD d f,bs,AD h (by omega),bs,Hs]
theorem Xo(f:l.length<=1000):∃k,Fv l=some k/\decide (k=(l.length:Int))=IG l:=by
 have d:(O7 l).length=l.length:=(N9 l).length_eq;refine⟨((Go.Lib.compact (O7 l)).length:Int),?_,?_⟩
 .grind[Fv,slices_Clone_int,slices_Sort_int,slices_Compact_int,BO,Ad]
 .rw[Bool.eq_iff_iff,QJ,zzX,<-(N9 l).nodup_iff,<-Qs (Oc l),d];omega
def Jm(m:d6):Bool:=IG m.d3&&IG m.d4
theorem ii{a b:d5}(h:IK a b m=0):Ch a b m=some (Jm m):=by
 have ho:=SY h;have:=ho.ga.ei;have:=ho.ga.em;have:=ho.AaG;have:=ho.AaP;obtain⟨k,d,f⟩:=Xo (l:=m.d3) (by omega);obtain⟨j,o,q⟩:=Xo (l:=m.d4) (by omega);unfold Ch Jm;rw[WZ,h,bs,ae (decide_eq_true rfl),d];simp only[bs,o,f,q];cases IG m.d3<;>rfl
theorem rg{a b:d5}(h:IK a b m=0):Ha a b m=some (Jm m):=by grind[Ha,Jm,Wg,Wf,IG]
def O8(r:hT):Int:=
 if EJ r.kp.d5 r.x4≠0 then EJ r.kp.d5 r.x4 else
 if IK (L8 r.kp.d5 r.x4) r.fd.d5 r.sx≠0 then IK (L8 r.kp.d5 r.x4) r.fd.d5 r.sx else if Jm r.sx=false then 11 else 0
variable{r:hT}
theorem nN(d:PP r.x4):Ic r=some (O8 r):=by
 unfold Ic O8;rw[cf d,bs];by_cases h:EJ r.kp.d5 r.x4=0
 .simp only[h,ne_eq,not_true_eq_false,if_false,decide_true,Bool.not_true,Bool.false_eq_true];rw[WZ,bs];refine DW fun f=>?_;rw[ii f,bs];exact Tz fun _=>rfl
 .simp[h]
def Sn(r:hT):Int:=if EJ r.kp.d5 r.x4≠0 then EJ r.kp.d5 r.x4 else IK (L8 r.kp.d5 r.x4) r.fd.d5 r.sx
theorem ny(d:PP r.x4):MI r=some (Sn r):=by
 unfold MI Sn;rw[VG d,bs];refine DW fun h=>?_
 grind [Vx,Wg]
theorem jz(h:O8 r=0):EJ r.kp.d5 r.x4=0/\IK (L8 r.kp.d5 r.x4) r.fd.d5 r.sx=0/\Jm r.sx=true:=by grind[O8]
def BC(l:Fp)(n:Int):Fp:=((List.range n.toNat).map Int.ofNat).filter fun i=>!hasB l i
variable{i:Int}
theorem MK(l:Fp)(h:0<=i):BC l (i+1)=BC l i++if(!hasB l i)=true then[i]else[]:=by
 unfold BC;rw[show(i+1).toNat=i.toNat+1 by omega,List.range_succ,List.map_append,List.filter_append]
 grind
theorem Hc{n x:Int}(h:x∈BC l n):0<=x/\x<n:=by
 unfold BC at h
 grind
theorem PJ(l:Fp)(n:Int):(BC l n).length<=n.toNat:=by
 unfold BC
 grind
variable{n:Int}
theorem SG(q:0<=n)(w:n<=1000){f:Int->K1}(hf:∀i,f i=some (hasB l i)):(sr (fun(j:Int)(o:Fp)=>
 (f j).bind fun d=>
 if (!d)=true then
 (Ah o [j]).bind fun h=>
 some h
 else
 some o) 0 n [])=some (BC l n):=by
 refine Bk (BC l) q (by simp[BC]) (fun i u x=>?_);have:=PJ l i;rw[hf,bs,MK l u];cases hasB l i
 .rw[ae (by decide),ae (by decide),Af (by simp;unfold Ad;omega)];rfl
 .rw[az (by decide),az (by decide),List.append_nil]
theorem Xq(d:0<=n)(f:n<=1000):JO l n=some (BC l n):=by
 unfold JO;rw[SG d f (fun i=>KW l i)];rfl
theorem dN(d:0<=n)(f:n<=1000):KI n l=some (BC l n):=by
 unfold KI;rw[SG d f (fun i=>ke l i)];rfl
def Hr(r:hT):Fp:=BC r.sx.d3 r.fd.d5.d3.length
def Me(r:hT):Fp:=BC r.sx.d4 r.fd.d5.d4.length
theorem cm(d:Dm r.fd.d5):J2 r=some (Hr r,Me r):=by
 have:=d.ei;have:=d.em;unfold J2;rw[Xq (by omega) (by omega),bs,Xq (by omega) (by omega)];rfl
theorem dF(d:Dm r.fd.d5):I4 r=some (Hr r,Me r):=by
 have:=d.ei;have:=d.em;unfold I4;rw[dN (by omega) (by omega),bs,dN (by omega) (by omega)];rfl
def LD(t:AC)(g:d5)(i:Int):Bool:=QM t (AA g.d4 i).mo (AA g.d3 (AA g.d4 i).ne) (AA g.d3 (AA g.d4 i).To)
def Xb(t:AC)(g:d5)(ei em:Fp):Bool:=!(ei.any fun i=>(AA t.d3 (AA g.d3 i)).Aaq)&&!(em.any fun i=>!LD t g i)
variable{t:AC}{g:d5}
theorem rd(hf:At t)(o:Dm g)(q:Cj t g=true){ei em:Fp}(u:∀x∈ei,0<=x/\x<g.d3.length)(he:∀x∈em,0<=x/\x<g.d4.length):Fd t g ei em=some (Xb t g ei em):=by
 have h:=H1 o q;unfold Fd Xb;rw[Re (p:=fun i=>(AA t.d3 (AA g.d3 i)).Aaq) (fun x f=>by
  have d:=u x f;have j:=h.1 _ (AK d.1 d.2);unfold KL;rw[AD d.1 d.2,bs,AD j.1 j.2];rfl),bs,Re (p:=fun i=>!LD t g i) (fun x f=>by
  have d:=he x f;have j:=o.fit _ (AK d.1 d.2);unfold FM;rw[AD d.1 d.2,bs,AD (by omega) (by omega),bs,AD (by omega) (by omega),bs,cg hf];rfl)]
 grind
theorem ri(hf:At t)(q:Dm g)(u:Cj t g=true){ei em:Fp}(w:∀x∈ei,0<=x/\x<g.d3.length)(he:∀x∈em,0<=x/\x<g.d4.length):Jy t g ei em=some (Xb t g ei em):=by
 have j:=H1 q u;unfold Jy Xb;rw[HK,HK,BP (fun i=>(AA t.d3 (AA g.d3 (AA ei i))).Aaq) false]
 .rw[BP (fun i=>!LD t g (AA em i)) false]
  .cases og (fun i=>(AA t.d3 (AA g.d3 (AA ei i))).Aaq) 0 ei.length
   .cases og (fun i=>!LD t g (AA em i)) 0 em.length<;>rfl
   .rfl
  .intro i f h _;have d:=he _ (AK f h);have o:=q.fit _ (AK d.1 d.2);rw[AD f h,bs,AD d.1 d.2,bs,AD (by omega) (by omega),bs,AD (by omega) (by omega),bs,dA hf,bs,Hs];rfl
 .intro i f h _;have d:=w _ (AK f h);have o:=j.1 _ (AK d.1 d.2);rw[AD f h,bs,AD d.1 d.2,bs,AD o.1 o.2,bs,Hs]
end Go.Sf.Sc
namespace Go.Sf.Sc
open Go Go.Sf
structure Ma(p:ec):Prop where
 ei:p.d5.d3.length<=45
 em:p.d5.d4.length<=90
 slots:p.ff.length<=15
 tests:p.sc.length<=15
structure Z2(m:d6):Prop where
 ei:m.d3.length<=140
 em:m.d4.length<=140
inductive DU:d7->Prop where
 |mk (c:d7) (hq:Ma c.ec) (hm:Z2 c.Map) (hk:∀k∈c.gt,DU k):DU c
variable{c:d7}
theorem DU.q(h:DU c):Ma c.ec:=by cases h;assumption
theorem DU.m(h:DU c):Z2 c.Map:=by cases h;assumption
theorem DU.k(h:DU c):∀k∈c.gt,DU k:=by cases h;assumption
theorem Ey{c k:d7}(h:k∈c.gt):SizeOf.sizeOf k<SizeOf.sizeOf c:=by
 have:=List.sizeOf_lt_of_mem h;cases c
 grind
theorem D4(c:d7):0<SizeOf.sizeOf c:=by
 cases c
 grind
def N4(c:d7):Bool:=decide (c.Map.d3.length=0/\c.Map.d4.length=0/\c.ec.d5.d3.length=0/\c.ec.d5.d4.length=0/\c.ec.ff.length=0/\c.ec.sc.length=0/\c.ec.hV=0)
theorem nF(hf:DU c):EU c=some (N4 c):=by
 have d:=hf.q;have f:=hf.m;have:=d.ei;have:=d.em;have:=d.slots;have:=d.tests;have:=f.ei;have:=f.em;unfold EU N4;rw[As (n:=(c.Map.d3.length:Int)+c.Map.d4.length) (by omega) (by omega),As (n:=(c.Map.d3.length:Int)+c.Map.d4.length+c.ec.d5.d3.length) (by omega) (by omega),
  As (n:=(c.Map.d3.length:Int)+c.Map.d4.length+c.ec.d5.d3.length+c.ec.d5.d4.length) (by omega) (by omega),
  As (n:=(c.Map.d3.length:Int)+c.Map.d4.length+c.ec.d5.d3.length+c.ec.d5.d4.length+c.ec.ff.length) (by omega) (by omega),
  As (n:=(c.Map.d3.length:Int)+c.Map.d4.length+c.ec.d5.d3.length+c.ec.d5.d4.length+c.ec.ff.length+c.ec.sc.length) (by omega) (by omega)]
 congr 1
 grind
theorem fu(hf:DU c):Gp c=some (N4 c):=by
 have d:=hf.q;have f:=hf.m;have:=d.ei;have:=d.em;have:=d.slots;have:=d.tests;have:=f.ei;have:=f.em;unfold Gp N4;rw[As (n:=(c.Map.d3.length:Int)+c.Map.d4.length) (by omega) (by omega),As (n:=(c.Map.d3.length:Int)+c.Map.d4.length+c.ec.d5.d3.length) (by omega) (by omega),
  As (n:=(c.Map.d3.length:Int)+c.Map.d4.length+c.ec.d5.d3.length+c.ec.d5.d4.length) (by omega) (by omega),
  As (n:=(c.ec.ff.length:Int)+c.ec.sc.length) (by omega) (by omega)]
 congr 1
 grind
def QU(c:d7):Bool:=
 if c.ns=1 then decide (c.gt.length=0)&&N4 c else if c.ns=2 then decide (c.gt.length=1)&&N4 c else
 if c.ns=3\/c.ns=4 then decide (1<=c.gt.length)&&N4 c else if c.ns=5 then decide (c.gt.length=1)else false
def P1:Nat->d7->Bool
 |0,_=>false|n+1,c=>QU c&&c.gt.all (P1 n)
theorem nW:∀(N:Nat)(c:d7),SizeOf.sizeOf c<=N->DU c->∀n,2*N<=n->BI n c=some (P1 N c)
 |0,c,h,_,_,_=>by have:=D4 c;omega|N+1,c,h,hf,n,B=>by
  obtain ⟨n,rfl⟩:∃m,n=m+2:=⟨n-2,by omega⟩;rw[BI,P1,nF hf];have f:Bg c.gt (BT (n+1))=some (!c.gt.all (P1 N)):=by
   rw [Wy (p:=fun k=>!P1 N k) (fun k f=>by
    have:=Ey f;rw[BT,nW N k (by omega) (hf.k k f) n (by omega)];rfl),List.all_eq_not_any_not,Bool.not_not]
  rw [f];unfold QU;simp only[bs,zzX];generalize N4 c=b;generalize c.gt.all (P1 N)=w;have y:decide ((c.gt.length:Int)=0)=decide (c.gt.length=0):=by rw[decide_eq_decide];omega
  have z:decide ((c.gt.length:Int)=1)=decide (c.gt.length=1):=by rw[decide_eq_decide];omega
  have A:decide (1<=(c.gt.length:Int))=decide (1<=c.gt.length):=by rw[decide_eq_decide];omega
  simp only[show((c.gt.length:Int)=0)↔c.gt.length=0 by omega,show((c.gt.length:Int)=1)↔c.gt.length=1 by omega,show(1<=(c.gt.length:Int))↔1<=c.gt.length by omega];by_cases j:c.ns=1
  .rw[ae j,ae j];by_cases d:c.gt.length=0<;>cases b<;>cases w<;>simp[d]
  .rw[az j,az j];by_cases o:c.ns=2
   .rw[ae o,ae o];by_cases d:c.gt.length=1<;>cases b<;>cases w<;>simp[d]
   .rw[az o,az o];by_cases u:c.ns=3
    .simp only[u,if_true,true_or];by_cases d:1<=c.gt.length<;>cases b<;>cases w<;>simp[d]
    .by_cases x:c.ns=4
     .simp only[x,if_true,or_true,show¬(4:Int)=3 by decide,if_false];by_cases d:1<=c.gt.length<;>cases b<;>cases w<;>simp[d]
     .simp only[u,x,if_false,or_false];by_cases q:c.ns=5
      .rw[ae q,ae q];by_cases d:c.gt.length=1<;>cases w<;>simp[d]
      .rw[az q,az q];cases w<;>rfl
theorem nj(hf:DU c):Kq c=some (QU c):=by
 unfold Kq QU;rw[fu hf];simp only[bs,zzX];generalize N4 c=b;simp only[show((c.gt.length:Int)=0)↔c.gt.length=0 by omega,show((c.gt.length:Int)=1)↔c.gt.length=1 by omega,show(0<(c.gt.length:Int))↔1<=c.gt.length by omega]
 grind
theorem mR{α:Type}[Inhabited α]{l:List α}{p:α->Bool}:l.all p=!og (fun i=>!p (AA l i)) 0 l.length:=by
 rw [List.all_eq_not_any_not,HK]
theorem im:∀(N:Nat)(c:d7),SizeOf.sizeOf c<=N->DU c->∀n,N<=n->D2 n c=some (P1 N c)
 |0,c,h,_,_,_=>by have:=D4 c;omega|N+1,c,h,hf,n,o=>by
  obtain ⟨n,rfl⟩:∃m,n=m+1:=⟨n-1,by omega⟩;rw[D2,P1,nj hf,bs,mR,BP (fun i=>!P1 N (AA c.gt i)) false]
  .cases QU c
   .rfl
   .cases og (fun i=>!P1 N (AA c.gt i)) 0 c.gt.length<;>rfl
  .intro i d f _;have j:=AK (l:=c.gt) d f;have:=Ey j;rw[AD d f,bs,im N _ (by omega) (hf.k _ j) n (by omega),bs,Hs]
noncomputable def jI(c:d7):Bool:=P1 (SizeOf.sizeOf c) c
theorem rf(hf:DU c):Es c=some (jI c):=EC (2*SizeOf.sizeOf c) fun n d=>nW _ c (bk _) hf n d
theorem rm(hf:DU c):Mr c=some (jI c):=EC (SizeOf.sizeOf c) fun n d=>im _ c (bk _) hf n d
def Ly:Nat->d7->Int×Int
 |0,_=>(0,0)|n+1,c=>
  let s:=c.gt.foldl (fun s k=>(Ae (s.1+(Ly n k).1),max s.2 (Ly n k).2)) ((1,0):Int×Int)
  (s.1,if c.ns=5 then Ae (s.2+1)else s.2)
theorem Vq{α σ:Type}[Inhabited α]{l:List α}{g:σ->α->σ}{s:σ}{f:Int->σ->Option σ}(h:∀(i:Int)s,0<=i->i<l.length->f i s=some (g s (AA l i))):sr f 0 l.length s=some (l.foldl g s):=by
 rw [Bk (fun i=>(l.take i.toNat).foldl g s) (by omega) (by simp)]
 .rw[Int.toNat_natCast,List.take_length]
 grind [CD]
theorem cr:∀(N:Nat)(c:d7),SizeOf.sizeOf c<=N->∀n,N<=n->CA n c=some (Ly N c)
 |0,c,h,_,_=>by have:=D4 c;omega|N+1,c,h,n,j=>by
  obtain ⟨n,rfl⟩:∃m,n=m+1:=⟨n-1,by omega⟩;rw[CA,Ly,Vq (g:=fun s k=>(Ae (s.1+(Ly N k).1),max s.2 (Ly N k).2))]
  .grind
  .intro i s d f;have:=Ey (AK (l:=c.gt) d f);rw[AD d f,bs,cr N _ (by omega) n (by omega)];rfl
theorem dL:∀(N:Nat)(c:d7),SizeOf.sizeOf c<=N->∀n,N<=n->Eb n c=some (Ly N c)
 |0,c,h,_,_=>by have:=D4 c;omega|N+1,c,h,n,j=>by
  obtain ⟨n,rfl⟩:∃m,n=m+1:=⟨n-1,by omega⟩;rw[Eb,Ly,Vq (g:=fun s k=>(Ae (s.1+(Ly N k).1),max s.2 (Ly N k).2))]
  .grind
  .intro i s d f;have:=Ey (AK (l:=c.gt) d f);rw[AD d f,bs,dL N _ (by omega) n (by omega)];rfl
noncomputable def WX(c:d7):Int×Int:=Ly (SizeOf.sizeOf c) c
noncomputable def Ol(c:d7):Int:=if jI c=false then 1 else if 12<(WX c).1\/3<(WX c).2 then 3 else 0
theorem kQ(hf:DU c):D1 c=some (Ol c):=by
 unfold D1 Ol;rw[rf hf,bs,show GA c=some (WX c)from EC (SizeOf.sizeOf c) fun n d=>cr _ c (bk _) n d,bs]
 grind
theorem km(hf:DU c):Kn c=some (Ol c):=by
 unfold Kn Ol;rw[rm hf,bs,show Nw c=some (WX c)from EC (SizeOf.sizeOf c) fun n d=>dL _ c (bk _) n d,bs]
 grind
theorem UE(g:d5):Bl g≠9:=by grind[Bl]
variable{t:AC}{p:ec}
theorem Xu(d:(Ax t).2=0)(h:G2 t p=0\/G2 t p=9):0<=p.hV/\p.hV<=12:=by grind[UE,G2]
def R0(t:AC)(q:ec)(v:Int):Int:=if G2 t q≠9 then G2 t q else if og (fun i=>!Jp q i) v q.hV=true then 9 else 0
variable{P:Prop}
theorem tK{α:Type}[Decidable P]{v:α}{X:Option α}{Y:α}(h:P->X=some Y):(if(!decide P)=true then some v else X)=some (if¬P then v else Y):=by grind
theorem rc(hf:At t)(f:(Ax t).2=0){q:ec}{v:Int}(u:0<=v)(h:v<=q.hV):DH t q v=some (R0 t q v):=by
 unfold DH R0;rw[UY hf,bs];refine tK fun d=>?_;have hv:=Xu f (.inr d);rw[LZ (c:=fun i=>(if(!Jp q i)=true then some ()else none).map fun _=>.inr 9) (a:=v) (b:=q.hV) h]
 .rw[OL,LP];cases og (fun i=>!Jp q i) v q.hV<;>rfl
 .intro i w o _;rw[ae (by simpa using o),show(fun j=>Gy j i)=(fun y=>some (decide (y.j4.Var=i)))from rfl,Y8,bs,show(q.ff.any fun y=>decide (y.j4.Var=i))=Jp q i from rfl,d,As (by omega) (by omega)];cases Jp q i<;>rfl
 .rw[az (by simp)]
theorem ki(p:ec)(v:Int):MG p v=some (Jp p v):=iq p v
theorem rh(hf:At t)(q:ec)(v:Int):Ko t v q=some (if q.hV<v then 20 else R0 t q v):=by
 unfold Ko R0;refine Lh (by simp) fun _=>?_;rw[Wh hf,bs];refine tK fun d=>?_;rw[d,BP (fun i=>!Jp q i) 9]
 .cases og (fun i=>!Jp q i) v q.hV<;>rfl
 .intro i f h _;rw[ki,bs,Hs]
def Jc:Nat->AC->ec->d7->Int
 |0,_,_,_=>0|N+1,t,p,c=>
  if c.ns=5 then
   if c.ec.hV<p.hV then 20 else if R0 t c.ec p.hV≠0 then R0 t c.ec p.hV else
   if IK p.d5 c.ec.d5 c.Map≠0 then IK p.d5 c.ec.d5 c.Map else if Jm c.Map=false then 1 else
   (fst (fun i=>nz (Jc N t c.ec (AA c.gt i))) 0 c.gt.length).getD 0
  else (fst (fun i=>nz (Jc N t p (AA c.gt i))) 0 c.gt.length).getD 0
theorem cu(hf:At t)(o:(Ax t).2=0):∀(N:Nat)(c:d7)(p:ec),0<=p.hV->SizeOf.sizeOf c<=N->∀n,N<=n->Bu n t p c=some (Jc N t p c)
 |0,c,p,_,h,_,_=>by have:=D4 c;omega|N+1,c,p,C,h,n,D=>by
  obtain ⟨n,rfl⟩:∃m,n=m+1:=⟨n-1,by omega⟩;rw[Bu,Jc];have j:∀q:ec,0<=q.hV->(fq (kl (ρ:=Int) (fun(y:Int)(_:Unit)=>
    (idx c.gt y).bind fun f=>
    (Bu n t q f).bind fun d=>
    if (!decide (d=0))=true then
    some (.ret d)
    else
    some (.next ())) 0 (c.gt.length:Int) ()) (fun _=>
    some 0) (fun z=>some z))=some ((fst (fun i=>nz (Jc N t q (AA c.gt i))) 0 c.gt.length).getD 0):=by
   intro q B;rw[BU (fun i=>nz (Jc N t q (AA c.gt i))),CT];intro i u w _;have:=Ey (AK (l:=c.gt) u w);rw[AD u w,bs,cu hf o N _ q B (by omega) n (by omega),bs,Ka]
  by_cases x:c.ns=5
  .rw[ae (by simpa using x),ae x];refine Lh (by simp) fun hv=>?_;rw[rc hf o C (by omega),bs];refine DW fun hi=>?_;rw[WZ,bs];refine DW fun A=>?_;rw[ii A,bs]
   grind
  grind
theorem dM(hf:At t):∀(N:Nat)(c:d7)(p:ec),SizeOf.sizeOf c<=N->∀n,N<=n->Ei n t p c=some (Jc N t p c)
 |0,c,p,h,_,_=>by have:=D4 c;omega|N+1,c,p,h,n,A=>by
  obtain ⟨n,rfl⟩:∃m,n=m+1:=⟨n-1,by omega⟩;rw[Ei,Jc];have d:∀q:ec,(fq (kl (ρ:=Int) (fun(x:Int)(_:Unit)=>
    (idx c.gt x).bind fun o=>
    (Ei n t q o).bind fun f=>
    if (!decide (f=0))=true then
    some (.ret f)
    else
    some (.next ())) 0 (c.gt.length:Int) ()) (fun _=>
    some 0) (fun y=>some y))=some ((fst (fun i=>nz (Jc N t q (AA c.gt i))) 0 c.gt.length).getD 0):=by
   intro q;rw[BU (fun i=>nz (Jc N t q (AA c.gt i))),CT];intro i u w _;have:=Ey (AK (l:=c.gt) u w);rw[AD u w,bs,dM hf N _ q (by omega) n (by omega),bs,Ka]
  by_cases j:c.ns=5
  .rw[ae (by simpa using j),ae j,rh hf,bs];by_cases hv:c.ec.hV<p.hV
   .simp[hv]
   .simp only[az hv];refine DW fun hi=>?_;rw[Wg,bs];refine DW fun z=>?_;rw[rg z,bs];exact Tz fun _=>d _
  .rw[az (by simpa using j),az j];exact d p
noncomputable def Ll(t:AC)(p:ec)(c:d7):Int:=if G2 t p≠0 then G2 t p else if Ol c≠0 then Ol c else Jc (SizeOf.sizeOf c) t p c
theorem cj(hf:At t)(d:(Ax t).2=0)(p:ec)(f:DU c):Cf t p c=some (Ll t p c):=by
 unfold Cf Ll;rw[UY hf,bs];refine DW fun h=>?_;rw[kQ f,bs,Option.bind_fun_some];exact DW fun _=>EC (SizeOf.sizeOf c) fun n j=>cu hf d _ c p (Xu d (.inl h)).1 (bk _) n j
theorem dE(hf:At t)(p:ec)(d:DU c):JH t p c=some (Ll t p c):=by
 unfold JH Ll;rw[Wh hf,bs];refine DW fun h=>?_;rw[km d,bs,Option.bind_fun_some];exact DW fun _=>EC (SizeOf.sizeOf c) fun n f=>dM hf _ c p (bk _) n f
end Go.Sf.Sc
namespace Go.Sf.Sc
open Go Go.Sf
structure PQ(r:hT):Prop where
 name:(r.po.size:Int)<=60
 left:Ma r.kp
 right:Ma r.fd
 jj:PP r.x4
 into:Z2 r.sx
 cond:DU r.d7
noncomputable def FT(t:AC)(r:hT):Int:=
 if (Ax t).2≠0 then(Ax t).2 else if EZ r.po=false then 2 else if G2 t r.kp≠0 then G2 t r.kp else
 if I5 t r≠0 then I5 t r else if O8 r≠0 then O8 r else if Xb t r.fd.d5 (Hr r) (Me r)=false then 13 else Ll t r.kp r.d7
variable{t:AC}{r:hT}
theorem TW(h:I5 t r=0):Dm r.fd.d5/\Cj t r.fd.d5=true:=by grind[I5,Cm]
theorem cv(hf:At t)(d:PQ r):GM t r=some (FT t r):=by
 have q:=d.name;unfold GM FT;rw[Mn hf,bs];refine DW fun j=>?_;rw[Og (by omega),bs];refine Tz fun _=>?_;rw[UY hf,bs];refine DW fun _=>?_;rw[kP hf,bs];refine DW fun f=>?_;have ho:=TW f;rw[nN d.jj,bs];refine DW fun o=>?_;rw[cm ho.1,bs];dsimp only;rw[rd (ei:=Hr r) (em:=Me r) hf ho.1 ho.2 (fun x h=>Hc h) (fun x h=>Hc h),bs];refine Tz fun _=>?_;rw[cj hf j _ d.cond,bs]
theorem dO(hf:At t)(d:PQ r):JI t r=some (FT t r):=by
 have u:=d.name;unfold JI FT;rw[OP hf,bs];refine DW fun q=>?_;rw[Oh (by omega),bs];refine Tz fun _=>?_;rw[Wh hf,bs];refine DW fun _=>?_;rw[kj hf,bs];refine DW fun f=>?_;have ho:=TW f;rw[ny d.jj,bs,Wf,bs];simp only[Wf,bs];have e:(if(!IG r.sx.d3)=true then some true else some (!IG r.sx.d4))=some (!Jm r.sx):=by
  grind [Jm,IG]
 rw [e,bs];have o:O8 r=if Sn r≠0 then Sn r else if Jm r.sx=false then 11 else 0:=by
  grind [O8,Sn,EJ]
 rw [o];by_cases j:Sn r=0
 .simp only[j,ne_eq,not_true_eq_false,if_false,decide_true,Bool.not_true,Bool.false_eq_true];cases hi:Jm r.sx
  .simp
  .simp only[Bool.not_true,Bool.false_eq_true,if_false,not_true_eq_false,Bool.true_eq_false];rw[dF ho.1,bs];dsimp only;rw[ri (ei:=Hr r) (em:=Me r) hf ho.1 ho.2 (fun x h=>Hc h) (fun x h=>Hc h),bs];refine Tz fun _=>?_;rw[dE hf _ d.cond,bs]
 .simp[j]
def Aa5(t:AC)(l:Fp):Bool:=!(l.any fun k=>t.d3.any fun n=>decide (n.Aad=k))
structure bi(t:AC)(r:hT):Prop where
 left:Dm r.kp.d5
 ltyped:Cj t r.kp.d5=true
 right:Dm r.fd.d5
 AbN:Cj t r.fd.d5=true
 rtests:r.fd.sc.length=0
 part:Wp r.kp.d5 r.x4
 mor:WT (L8 r.kp.d5 r.x4) r.fd.d5 r.sx
 inj:r.sx.d3.Nodup/\r.sx.d4.Nodup
variable{p:ec}
theorem nX(h:G2 t p=0):Dm p.d5/\Cj t p.d5=true:=by grind[G2,Cm]
theorem Zi(h:FT t r=0):(Ax t).2=0/\bi t r:=by
 unfold FT at h;split at h
 .omega
 split at h
 .cases h
 split at h
 .omega
 split at h
 .omega
 split at h
 .omega
 rename_i o q u w x;have d:=nX (t:=t) (p:=r.kp) (by omega);have f:=TW (t:=t) (r:=r) (by omega);have j:=jz (r:=r) (by omega);have hi:IG r.sx.d3=true/\IG r.sx.d4=true:=by
  grind [Jm]
 refine ⟨by omega,d.1,d.2,f.1,f.2,?_,?_,SY j.2.1,QJ.1 hi.1,QJ.1 hi.2⟩
 .grind[I5]
 grind [EJ,Ub]
end Go.Sf.Sc
namespace Go.Sf
variable{a b:Int}
theorem Sp{ρ:Type}{f:Int->Option (Bp Int ρ)}(p:Int->Bool)(v:ρ)(d:a<=b)(h:∀i,a<=i->i<b->f i=some (if p i=true then .ret v else .next (i+1)))(j:f b=some (.brk b)):EO f a=some (if og p a b=true then .inr v else .inl b):=by
 rw [LZ (c:=fun i=>(if p i=true then some ()else none).map fun _=>.inr v) d]
 .grind[OL,LP,og]
 .intro i o q _;rw[h i o q];cases p i<;>rfl
 .exact j
theorem G4{α:Type}{e:α->TV}{n:Nat}{l:List α}(h:TV.Sm (.list n (l.map e))):(l.length:Int)<=140737488351232/\∀x∈l,(e x).Sm:=by
 simp only[TV.Sm,ca]at h;refine⟨by have:=h.1;unfold reachBytes at this;omega,fun x d=>Sl.1 h.2 _ (List.mem_map.2 ⟨x,d,rfl⟩)⟩
end Go.Sf
namespace Go.Sf.Sc
open Go Go.Sf
def Ww(a:kq):Bool:=(decide (40<(a.po.size:Int))||decide (25<(a.wi.length:Int)))||og (fun i=>decide (40<((AA a.wi i).size:Int))) 0 a.wi.length
theorem eu{a:kq}(h:Ww a=false):S9 a:=by
 unfold Ww at h;simp only[Bool.or_eq_false_iff,decide_eq_false_iff_not,Bi]at h;refine⟨by omega,by omega,fun x d=>?_⟩
 grind [BV]
variable{t:AC}
theorem Rr(T:(AQ t).Sm):∃b,Js t=some b/\(b=true->At t):=by
 have K:TV.Sms [_,_]:=T;obtain⟨w,N⟩:=G4 (e:=EX) K.1;unfold Js;by_cases hl:20<t.d3.length\/30<t.d4.length
 .rw[ae (by simp;omega)]
  grind
 rw [az (by simp;omega)];rcases QO (f:=(fun(A:Int)(Q:Int)=>
 (idx t.d3 A).bind fun y=>
 (if(decide (30<(Ae (Q+(y.x3.length:Int)))))=true then some true else((idx t.d3 A).bind fun E=>
 some (decide (40<(E.po.size:Int))))).bind fun F=>
 if F=true then
 some (Bp.ret false)
 else
 fq (EO (ρ:=Bool) (fun(s2:Int)=>
 (idx t.d3 A).bind fun G=>
 if (decide (s2<(G.x3.length:Int)))=true then
 (idx t.d3 A).bind fun H=>
 (idx H.x3 s2).bind fun q=>
 if ((decide (40<(q.po.size:Int)))||(decide (25<(q.wi.length:Int))))=true then
 some (.ret false)
 else
 fq (EO (ρ:=Bool) (fun(x:Int)=>
 if (decide (x<(q.wi.length:Int)))=true then
 (idx q.wi x).bind fun I=>
 if (decide (40<(I.size:Int)))=true then
 some (.ret false)
 else
 some (.next (Ae (x+1)))
 else
 some (.brk x)) 0) (fun x=>
 some (.next (Ae (s2+1)))) (fun U=>some (.ret U))
 else
 some (.brk s2)) 0) (fun s2=>
 some (.next (Ae (Q+(y.x3.length:Int))))) (fun V=>some (.ret V))))
  (fun i s=>0<=s/\s<=30/\∀j,0<=j->j<i->((AA t.d3 j).po.size:Int)<=40/\(AA t.d3 j).x3.length<=30/\∀a∈(AA t.d3 j).x3,S9 a) (fun _=>False) (fun r=>r=false) (a:=0) (b:=t.d3.length) (s:=0) (by omega) ⟨by omega,by omega,fun j z d=>by omega⟩ (fun i s B C W=>by
   have Z:=N _ (AK (l:=t.d3) B C);have L:TV.Sms [_,_,_,_]:=Z;obtain⟨ha,O⟩:=G4 (e:=GI) L.2.2.2.1;obtain⟨hI1,hI2,hI3⟩:=W;have hw:Ae (s+(AA t.d3 i).x3.length)=s+(AA t.d3 i).x3.length:=As (by omega) (by omega);simp only[AD B C,bs,hw,SA];by_cases hc:30<s+(AA t.d3 i).x3.length\/40<((AA t.d3 i).po.size:Int)
   .grind
   rw [az (by simpa using hc)];rw[Sp (fun j=>Ww (AA (AA t.d3 i).x3 j)) false (b:=(AA t.d3 i).x3.length) (by omega)]
   .cases S:og (fun j=>Ww (AA (AA t.d3 i).x3 j)) 0 (AA t.d3 i).x3.length
    .refine .inl ⟨_,rfl,by omega,by omega,fun j J D=>?_⟩
     grind [BV,eu,Bi]
    .exact .inr (.inr ⟨_,rfl,rfl⟩)
   .intro j J D;rw[ae (by simpa using D),AD J D,bs];have hy:=O _ (AK (l:=(AA t.d3 i).x3) J D);have M:TV.Sms [_,_,_,_]:=hy;obtain⟨hm,_⟩:=G4 (e:=eS) M.2.2.2.1;unfold Ww;cases z:(decide (40<((AA (AA t.d3 i).x3 j).po.size:Int))||decide (25<((AA (AA t.d3 i).x3 j).wi.length:Int)))
    .rw[az (by decide),Sp (fun k=>decide (40<((AA (AA (AA t.d3 i).x3 j).wi k).size:Int))) false (b:=(AA (AA t.d3 i).x3 j).wi.length) (by omega)]
     .cases og (fun k=>decide (40<((AA (AA (AA t.d3 i).x3 j).wi k).size:Int))) 0 (AA (AA t.d3 i).x3 j).wi.length
      .rw[Bool.or_false,As (show -9223372036854775808<=j+1 by omega) (by omega)];rfl
      .rfl
     .intro k u o;rw[ae (by simpa using o),AD u o,bs,As (show -9223372036854775808<=k+1 by omega) (by omega),Hs]
     .rw[az (by simp)]
    .rfl
   .rw[az (by simp)])with⟨s',z,d⟩|⟨r,z,d⟩
 .rw[z];rcases d with d|d
  .rw[Bh,BP (fun i=>decide (40<((AA t.d4 i).po.size:Int))) false]
   .cases S:og (fun i=>decide (40<((AA t.d4 i).po.size:Int))) 0 t.d4.length
    .refine⟨true,rfl,fun _=>⟨by omega,by omega,fun n w=>?_,fun n w=>?_,fun n w=>?_,fun e he=>?_⟩⟩
     .obtain⟨k,u,o,rfl⟩:=BV w;exact(d.2.2 k u o).1
     .obtain⟨k,u,o,rfl⟩:=BV w;exact(d.2.2 k u o).2.1
     .obtain⟨k,u,o,rfl⟩:=BV w;exact(d.2.2 k u o).2.2
     .obtain⟨k,u,o,rfl⟩:=BV he;have:=Bi.1 S k u o;simpa using this
    .exact⟨false,rfl,fun h=>by cases h⟩
   .intro i B C _;rw[AD B C,bs,Hs]
  .exact d.elim
 .rw[z];subst d;exact⟨false,rfl,fun h=>by cases h⟩
theorem Pn(p:ec):∃b,Ia p=some b/\(b=true->Ma p):=by
 refine ⟨_,rfl,fun h=>?_⟩;simp only[tg,zzX]at h;exact⟨by omega,by omega,by omega,by omega⟩
variable{a b:Int}
theorem U3(h:0<=a)(d:a<=140737488351232)(j:0<=b)(f:b<=140737488351232):Ae (a+b)=a+b:=As (by omega) (by omega)
variable{m:d6}
theorem U2(f:(Ap m).Sm):∃b,Jt m 140=some b/\(b=true->Z2 m):=by
 have d:TV.Sms [_,_]:=f;have j:=(G4 (e:=eI) d.1).1;have o:=(G4 (e:=eI) d.2.1).1;refine⟨_,rfl,fun h=>?_⟩;rw[U3 (by omega) j (by omega) o]at h;simp only[zzX]at h;exact⟨by omega,by omega⟩
theorem fA{m:BB}(f:(GJ m).Sm):∃b,PF m 140=some b/\(b=true->PP m):=by
 have d:TV.Sms [_,_]:=f;have j:=(G4 (e:=eI) d.1).1;have o:=(G4 (e:=eI) d.2.1).1;refine⟨_,rfl,fun h=>?_⟩;rw[U3 (by omega) j (by omega) o]at h;simp only[zzX]at h;exact⟨by omega,by omega⟩
variable{c:d7}
theorem ZA(h:(AJ c).Sm):(Ap c.Map).Sm/\(c.gt.length:Int)<=140737488351232/\∀k∈c.gt,(AJ k).Sm:=by
 have f:TV.Sms [_,_,_,_,_,_,_,_,_]:=h;obtain⟨_,d,j,o,_⟩:=f;rw[Lr]at d;obtain⟨q,u⟩:=G4 d;exact⟨⟨j,o,trivial⟩,q,u⟩
theorem XF:∀(N:Nat)(c:d7),SizeOf.sizeOf c<=N->(AJ c).Sm->∀up:Int,0<=up->up<=1000->∃r,(∀n,N<=n->CX n c up=some r)/\-1<=r/\r<=up-1/\(0<=r->DU c)
 |0,c,h,_,_,_,_=>by have:=D4 c;omega|N+1,c,h,hs,up,m0,m1=>by
  obtain ⟨O,Q,B⟩:=ZA hs;obtain⟨S,E,T⟩:=Pn c.ec;obtain⟨U,I,V⟩:=U2 O;have step:∀n,N+1<=n->∃m,n=m+1/\N<=m:=fun n d=>⟨n-1,by omega,by omega⟩;cases S
  .refine⟨-1,fun n d=>?_,by omega,by omega,fun h=>by omega⟩;obtain⟨n,rfl,_⟩:=step n d;rw[CX,E];rfl
  cases U
  .refine⟨-1,fun n d=>?_,by omega,by omega,fun h=>by omega⟩;obtain⟨n,rfl,_⟩:=step n d;rw[CX,E,bs,I];rfl
  have loop:∀(m:Nat)(k left:Int),0<=k->k+m=c.gt.length->-1<=left->left<=1000->∃f u,(∀n,N<=n->LC (ρ:=Int) (fun(q:Int×Int)=>
    if ((decide (q.2<(c.gt.length:Int)))&&(decide (0<=q.1)))=true then
    (idx c.gt q.2).bind fun x=>
    (CX n x q.1).bind fun y=>
    some (.next (y,Ae (q.2+1)))
    else
    some (.brk (q.1,q.2))) (left,k) (.inl (f,u)))/\-1<=f/\f<=left/\(0<=f->∀j,k<=j->j<c.gt.length->DU (AA c.gt j)):=by
   intro m
   induction m with
   |zero=>
    intro k left C K D l1;refine⟨left,k,fun n d=>.brk ?_,D,by omega,fun _ j z w=>by omega⟩;rw[az (by simp;omega)]
   |succ m ih=>
    intro k left C K D l1;by_cases L:0<=left
    .have o:=AK (l:=c.gt) C (by omega);have:=Ey o;obtain⟨r,W,Z,r3,r4⟩:=XF N _ (by omega) (B _ o) left L l1;obtain⟨f,u,a1,F,J,G⟩:=ih (k+1) r (by omega) (by omega) Z (by omega);refine⟨f,u,fun n d=>.next (s':=(r,k+1)) ?_ (a1 n d),F,by omega,fun A j z w=>?_⟩
     .rw[ae (by simp;omega),AD C (by omega),bs,W n d,bs,As (by omega) (by omega)]
     .by_cases M:j=k
      .subst M;exact r4 (by omega)
      .exact G A j (by omega) w
    .refine⟨left,k,fun n d=>.brk ?_,D,by omega,fun h=>by omega⟩;rw[az (by simp;omega)]
  obtain ⟨f,u,a1,F,J,G⟩:=loop c.gt.length 0 (up-1) (by omega) (by omega) (by omega) (by omega);refine⟨f,fun n d=>?_,F,J,fun A=>.mk c (T rfl) (V rfl) (fun k B=>?_)⟩
  .obtain⟨n,rfl,H⟩:=step n d;rw[CX,E,bs,I];simp only[bs,Bool.not_true,Bool.false_eq_true,if_false];rw[As (n:=up-1) (by omega) (by omega),(a1 n H).eq,Bh]
  .obtain⟨j,z,w,rfl⟩:=BV B;exact G A j z w
theorem e8(d:(AJ c).Sm):∃b,Ib c=some b/\(b=true->DU c):=by
 obtain ⟨r,f,_,_,j⟩:=XF (SizeOf.sizeOf c) c (bk _) d 40 (by omega) (by omega);have e:OC c 40=some r:=EC (SizeOf.sizeOf c) f;unfold Ib;rw[e];exact⟨_,rfl,fun h=>j (by simpa using h)⟩
theorem Jj{b:Bool}{o:K1}{c:Bool}(h:o=some c):(if b=true then o.bind fun x=>some x else some false)=some (b&&c):=by
 subst h;cases b<;>rfl
variable{r:hT}
theorem fB(d:(B3 r).Sm):∃b,Nh r=some b/\(b=true->PQ r):=by
 have f:TV.Sms [_,_,_,_,_,_,_,_,_,_,_,_,_,_,_,_,_,_,_,_,_,_,_,_,_]:=d;obtain⟨_,_,_,_,_,_,_,_,_,_,_,j,o,q,u,_,w,x,c3,y,z,A,B,C,c9,_⟩:=f;obtain⟨N,D,E⟩:=Pn r.kp;obtain⟨O,F,G⟩:=Pn r.fd;obtain⟨Q,H,I⟩:=fA (m:=r.x4) ⟨j,o,trivial⟩;obtain⟨S,J,K⟩:=U2 (m:=r.sx) ⟨q,u,trivial⟩;obtain⟨T,L,M⟩:=e8 (c:=r.d7) ⟨w,x,c3,y,z,A,B,C,c9,trivial⟩;unfold Nh;rw[Jj D,bs,Jj F,bs,Jj H,bs,Jj J,bs,Jj L,bs];refine⟨_,rfl,fun h=>?_⟩;simp only[tg,zzX]at h;exact⟨h.1.1.1.1.1,E h.1.1.1.1.2,G h.1.1.1.2,I h.1.1.2,K h.1.2,M h.2⟩
end Go.Sf.Sc
