/- Plain lemmas: what the functions of the program and of the reference compute. -/
import Derived.Test.YtmbomnkcdolalaaGreatSfRead
import Derived.Test.YtmbomnkcdolalaaGreatFns
import Derived.Test.YtmbomnkcdolalaaGreatSfPl
set_option linter.all false
set_option maxRecDepth 100000
namespace Go.Sf
theorem YE{ρ τ:Type}{d:Int->Option ρ}{g:ρ->τ}:∀(n:Nat)(a:Int),E4 (fun i=>(d i).map g) n a=(E4 d n a).map g
 |0,_=>rfl|n+1,a=>by
  rw [E4,E4];cases d a with
  |some r=>rfl|none=>exact YE n (a+1)
variable{a b:Int}
theorem PA{ρ τ:Type}{d:Int->Option ρ}{g:ρ->τ}:fst (fun i=>(d i).map g) a b=(fst d a b).map g:=YE _ _
theorem WU{ρ:Type}{d:Int->Option ρ}{r:ρ}:∀{n:Nat}{a:Int},E4 d n a=some r->∃i,a<=i/\i<a+n/\d i=some r/\∀j,a<=j->j<i->d j=none
 |0,_,h=>by cases h
 |n+1,a,h=>by
  rw [E4]at h;cases hd:d a with
  |some w=>
   grind
  |none=>
   rw [hd]at h;obtain⟨i,f,o,q,u⟩:=WU h
   grind
theorem Cz{ρ:Type}{d:Int->Option ρ}{r:ρ}(h:fst d a b=some r):∃i,a<=i/\i<b/\d i=some r/\∀j,a<=j->j<i->d j=none:=by
 obtain ⟨i,f,o,q,u⟩:=WU h
 grind
def LA(p:Int->Bool)(s:ByteArray):Int:=(fst (fun i=>if p (bt s i)then none else some i) 0 s.size).getD s.size
theorem Te(p:Int->Bool)(s:ByteArray):0<=LA p s/\LA p s<=s.size/\(∀j,0<=j->j<LA p s->p (bt s j)=true)/\(LA p s<s.size->p (bt s (LA p s))=false):=by
 unfold LA;cases h:fst (fun i=>if p (bt s i)then none else some i) 0 s.size with
 |none=>
  rw [Bz]at h
  grind
 |some r=>
  grind [Cz,bt,Option.getD]
variable{s:ByteArray}
theorem bV(h:s≠⟨#[]⟩):0<s.size:=by
 rcases Nat.eq_zero_or_pos s.size with f|f
 .exfalso;apply h;cases s with|mk d=>congr 1;exact Array.eq_empty_of_size_eq_zero f
 .exact f
end Go.Sf
namespace Go.Sf.Sc
open Go Go.Sf
def Ff(c:Int):Bool:=((decide (97<=c))&&(decide (c<=122)))||((decide (65<=c))&&(decide (c<=90)))
def Aan(c:Int):Bool:=(decide (48<=c))&&(decide (c<=57))
def Qf(c:Int):Bool:=Ff c||Aan c||decide (c=95)
theorem aO(c:Int):Ki c=some (Ff c):=rfl
theorem Xj(c:Int):J1 c=some (Aan c):=rfl
theorem ah(c:Int):KU c=some (Ff c):=rfl
theorem dP(c:Int):IK c=some (Aan c):=rfl
theorem rB(c:Int):M9 c=some (Qf c):=by
 unfold M9 Qf;rw[aO,bs,Xj]
 grind
variable{s:ByteArray}
theorem fC(d:(s.size:Int)<=4611686018427387904){ok:Int->K1}{p:Int->Bool}(h:∀c,ok c=some (p c)):Gu s ok=some (LA p s):=by
 unfold Gu;rw[MG (c:=fun i=>(if p (bt s i)then none else some i).map .inl) (a:=0) (b:=s.size) (by omega)]
 .rw[PA];unfold LA;cases fst (fun i=>if p (bt s i)=true then none else some i) 0 s.size<;>rfl
 .grind[PG,bt,Eo,Ar]
 .simp
def E0(s:ByteArray):Bool:=decide (0<s.size)&&Ff (bt s 0)&&decide (s.size<=20)&&decide (LA Qf s=s.size)
theorem Xh(l:List ByteArray)(v:ByteArray):∃k,slices_Index_string l v=some k/\(0<=k↔v∈l):=by
 unfold slices_Index_string;rw[BX (fun i=>if(v==AA l i)=true then some i else none)]
 .cases h:fst (fun i=>if(v==AA l i)=true then some i else none) 0 l.length with
  |none=>
   rw [Bz]at h;refine⟨-1,rfl,by omega,fun o=>?_⟩
   grind [Be]
  |some k=>
   obtain ⟨i,d,f,q,_⟩:=Cz h;have j:(v==AA l i)=true/\i=k:=by
    grind
   obtain ⟨j,rfl⟩:=j;refine⟨i,rfl,fun _=>?_,fun _=>d⟩
   grind [AM]
 .intro i d f _;simp only[AE d f,bs];split<;>rfl
theorem Oh(l:List ByteArray)(v:ByteArray):slices_Contains_string l v=some (l.contains v):=by
 unfold slices_Contains_string;obtain⟨k,d,f⟩:=Xh l v
 grind
theorem q8(z:0<s.size)(w:(s.size:Int)<=4611686018427387904):∃k n e,IA s=some (k,n,e)/\(((decide (e=0))&&(decide (k=1)))&&(decide (n=(s.size:Int))))=E0 s:=by
 have F:=Te Qf s;unfold IA E0;simp only[PG (Int.le_refl 0) (show(0:Int)<s.size by omega),bs,aO,Xj,fC w rB,fC w Xj,z,decide_true,Bool.true_and];by_cases d:Ff (bt s 0)=true
 .rw[a6 d];by_cases f:20<LA Qf s
  .refine⟨0,0,3,by simp[f],?_⟩;simp[d];intro E h;omega
  .refine⟨1,_,0,by rw[ae (by simpa using f)],?_⟩;simp only[d,decide_true,Bool.true_and];rw[Bool.eq_iff_iff];simp only[zzX,pq];omega
 .rw[ae d];have j:Ff (bt s 0)=false:=by simpa using d
  rw [j,Bool.false_and,Bool.false_and];by_cases hd:Aan (bt s 0)=true
  .rw[a6 hd];by_cases x:9<LA Aan s
   .exact⟨0,0,3,by simp[x],by simp⟩
   .exact⟨2,_,0,by rw[ae (by simpa using x)],by simp⟩
  .rw[ae hd];by_cases y:bt s 0=34
   .have A:=Y2 (s:=s) (a:=1) (b:=s.size) (by omega) (by omega) (by omega);have o:∀c,K3 c=some (((decide (32<=c))&&(decide (c<=126)))&&(!decide (c=34))):=fun _=>rfl;have B:=Te (fun c=>((decide (32<=c))&&(decide (c<=126)))&&(!decide (c=34))) (s.extract (1:Int).toNat (s.size:Int).toNat);have q:∃n e,GD s=some (n,e):=by
     unfold GD;rw[MF (by omega) (by omega) (by omega),bs,fC (by omega) o,bs];rw[Ar (by omega) (by omega)];by_cases he:1+LA (fun c=>((decide (32<=c))&&(decide (c<=126)))&&(!decide (c=34))) (s.extract (1:Int).toNat (s.size:Int).toNat)=s.size
     .refine⟨0,2,?_⟩;simp only[he,decide_true,if_true,bs]
     .simp only[he,decide_false,Bool.false_eq_true,if_false];rw[PG (by omega) (by omega)];simp only[bs];split
      .exact⟨_,_,rfl⟩
      .split
       .exact⟨_,_,rfl⟩
       .exact⟨_,_,rfl⟩
    obtain ⟨n,e,u⟩:=q;refine⟨3,n,e,by rw[a6 (by simpa using y),u];rfl,by simp⟩
   .rw[ae (by simpa using y)];have C:∃b,M8 s=some b:=by
     unfold M8;by_cases h:2<=(s.size:Int)
     .rw[a6 (by simpa using h),MF (by omega) (by omega) h];simp only[bs,Oh];exact⟨_,rfl⟩
     .rw[ae (by simpa using h)];exact⟨_,rfl⟩
    obtain ⟨b,D⟩:=C;rw[D,bs];cases b
    .simp only[Bool.false_eq_true,if_false,strings_IndexByte,bs];split
     .exact⟨_,_,_,rfl,rfl⟩
     .exact⟨_,_,_,rfl,rfl⟩
    .exact⟨_,_,_,rfl,rfl⟩
theorem PZ(d:(s.size:Int)<=4611686018427387904):DQ s=some (E0 s):=by
 unfold DQ IU;simp only[show decide ((1:Int)=3)=false from rfl,Bool.false_eq_true,if_false,bs];by_cases he:s=⟨#[]⟩
 .subst he;rfl
 grind [q8,bV]
theorem rW(q:(s.size:Int)<=4611686018427387904)(d:Bool):∃n,OK s 0 d=some n/\0<=n/\n<=s.size/\(d=false->n=LA Qf s):=by
 have h:=Te (fun c=>Aan c||(!d&&(Ff c||decide (c=95)))) s;refine⟨LA (fun c=>Aan c||(!d&&(Ff c||decide (c=95)))) s,?_,h.1,h.2.1,fun hd=>?_⟩
 .unfold OK;rw[MG (c:=fun i=>(if(Aan (bt s i)||(!d&&(Ff (bt s i)||decide (bt s i=95))))then none else some i).map .inl) (a:=0) (b:=s.size) (by omega)]
  .rw[PA];unfold LA;cases fst (fun i=>if(Aan (bt s i)||(!d&&(Ff (bt s i)||decide (bt s i=95))))=true then none else some i) 0 s.size<;>rfl
  .intro i o f _;have j:Aj (0+i)=i:=by rw[Ar (by omega) (by omega)];omega
   simp only[j,f,decide_true,if_true,PG o f,bs,dP,ah]
   grind [Aan,bt,Ff,Eo,Ar]
  .have j:Aj (0+(s.size:Int))=s.size:=by rw[Ar (by omega) (by omega)];omega
   grind
 .subst hd;congr 1
  grind [Qf,Ff,Aan]
theorem ke(q:0<s.size)(u:(s.size:Int)<=4611686018427387904):∃n,KV s 0=some n/\(n=0\/(2<=n/\n<=s.size)):=by
 unfold KV;rw[MG (c:=fun i=>if decide (bt s i=34)=true then some (Sum.inr (i+1):Int ⊕ Int)else if(decide (bt s i<32)||decide (126<bt s i))=true then some (Sum.inr 0)else none) (a:=1) (b:=s.size) (by omega)]
 .cases h:fst (fun i=>if decide (bt s i=34)=true then some (Sum.inr (i+1):Int ⊕ Int)else if(decide (bt s i<32)||decide (126<bt s i))=true then some (Sum.inr 0)else none) 1 s.size with
  |none=>exact⟨0,rfl,.inl rfl⟩|some r=>
   obtain ⟨i,o,f,d,_⟩:=Cz h;split at d
   .cases d;exact⟨_,rfl,.inr (by omega)⟩
   .split at d
    .cases d;exact⟨_,rfl,.inl rfl⟩
    .cases d
 .intro i o f _;have j:Aj (0+i)=i:=by rw[Ar (by omega) (by omega)];omega
  simp only[j,f,decide_true,if_true,PG (show 0<=i by omega) f,bs,Ar (show -9223372036854775808<=i+1 by omega) (by omega)];split
  .rfl
  .split<;>rfl
 .have j:Aj (0+(s.size:Int))=s.size:=by rw[Ar (by omega) (by omega)];omega
  grind
theorem vG(O:0<s.size)(Q:(s.size:Int)<=4611686018427387904):∃t n e,OJ s 0=some (t,n,e)/\(((decide (e=0))&&(decide (n=(s.size:Int))))&&(decide (t.mo=1)))=E0 s:=by
 obtain ⟨m,M,u,w,N⟩:=rW Q (Aan (bt s 0));unfold OJ E0;simp only[PG (Int.le_refl 0) (show(0:Int)<s.size by omega),bs,ah,dP,O,decide_true,Bool.true_and,M];have S:Aj (0+m)=m:=by rw[Ar (by omega) (by omega)];omega
 by_cases F:Ff (bt s 0)=true
 .have hd:Aan (bt s 0)=false:=by
   unfold Ff at F;unfold Aan
   grind
  have W:=N hd;subst W;simp only[F,if_true,hd,Bool.false_eq_true,if_false,bs,S];by_cases q:20<LA Qf s
  .refine⟨_,_,_,by rw[a6 (by simpa using q)],?_⟩
   grind
  .rw[ae (by simpa using q),MF (Int.le_refl _) u w];refine⟨_,_,_,rfl,?_⟩
   grind
 .have G:Ff (bt s 0)=false:=by simpa using F
  simp only[G,Bool.false_eq_true,if_false,bs,Bool.false_and,S];by_cases hd:Aan (bt s 0)=true
  .simp only[hd,if_true,bs];by_cases T:9<m
   .exact⟨_,_,_,by rw[a6 (by simpa using T)],by simp⟩
   .rw[ae (by simpa using T),MF (Int.le_refl _) u w];exact⟨_,_,_,rfl,by simp⟩
  .have H:Aan (bt s 0)=false:=by simpa using hd
   simp only[H,Bool.false_eq_true,if_false,bs];by_cases U:bt s 0=34
   .obtain⟨n,hn,y⟩:=ke O Q;rw[a6 (by simpa using U),hn,bs];rcases y with rfl|y
    .grind
    .rw[ae (by simp;omega)];split
     .grind
     .have Z:Aj (0+1)=1:=by decide
      have e2:Aj (0+n)=n:=by rw[Ar (by omega) (by omega)];omega
      rw [Z,e2,Ar (show -9223372036854775808<=n-1 by omega) (by omega),MF (by omega) (by omega) (by omega)];exact⟨_,_,_,rfl,by simp⟩
   .rw[ae (by simpa using U)];unfold Ns;rw[bs];generalize hL:([(⟨#[45,62]⟩:ByteArray),(⟨#[60,61]⟩:ByteArray),(⟨#[62,61]⟩:ByteArray),(⟨#[61,61]⟩:ByteArray),(⟨#[33,61]⟩:ByteArray),(⟨#[123]⟩:ByteArray),(⟨#[125]⟩:ByteArray),(⟨#[40]⟩:ByteArray),(⟨#[41]⟩:ByteArray),(⟨#[91]⟩:ByteArray),(⟨#[93]⟩:ByteArray),(⟨#[44]⟩:ByteArray),(⟨#[59]⟩:ByteArray),(⟨#[58]⟩:ByteArray),(⟨#[61]⟩:ByteArray),(⟨#[43]⟩:ByteArray),(⟨#[45]⟩:ByteArray),(⟨#[42]⟩:ByteArray),(⟨#[60]⟩:ByteArray),(⟨#[62]⟩:ByteArray),(⟨#[33]⟩:ByteArray),(⟨#[38]⟩:ByteArray),(⟨#[124]⟩:ByteArray),(⟨#[46]⟩:ByteArray),(⟨#[63]⟩:ByteArray)]:List ByteArray)=L;have I:∀x∈L,x.size<=2:=by subst hL;decide
    rcases Rl (f:=(fun(h:Int)(V:Ee)=>
      (idx L h).bind fun A=>
      (if(decide ((Aj (0+(A.size:Int)))<=(s.size:Int)))=true then((idx L h).bind fun B=>
      (AaJ s 0 (Aj (0+(B.size:Int)))).bind fun C=>
      (idx L h).bind fun D=>
      some (C==D))else some false).bind fun E=>
      if E=true then
      (idx L h).bind fun j=>
      (idx L h).bind fun o=>
      some (Bv.ret (Ee.mk 4 j 0,(o.size:Int),(0:Int)))
      else
      some (Bv.next V))) (fun _ s=>True) (fun _=>True) (fun r=>r.1.mo=4) (a:=0) (b:=L.length) (s:=Ee.mk 0 (⟨#[]⟩:ByteArray) 0) (by omega) trivial (fun i t d z _=>by
      have hx:=I _ (AM d z);have J:Aj (0+((AA L i).size:Int))=(AA L i).size:=by rw[Ar (by omega) (by omega)];omega
      simp only[AE d z,bs,J];by_cases K:((AA L i).size:Int)<=s.size
      .rw[a6 (by simpa using K),MF (by omega) (by omega) K];simp only[bs];split
       .exact .inr (.inr ⟨_,rfl,rfl⟩)
       .exact .inl ⟨_,rfl,trivial⟩
      .rw[ae (by simpa using K)];simp only[bs];exact .inl ⟨_,rfl,trivial⟩)with⟨s',d,_⟩|⟨r,d,z⟩
    .rw[d];exact⟨_,_,_,rfl,by simp⟩
    .rw[d];exact⟨_,_,_,rfl,by simp[z]⟩
theorem Pb(d:(s.size:Int)<=4611686018427387904):FK s=some (E0 s):=by
 unfold FK Nr Ov;simp only[show decide ((1:Int)=3)=false from rfl,Bool.false_eq_true,if_false,bs];by_cases he:s=⟨#[]⟩
 .subst he;rfl
 grind [vG,bV]
end Go.Sf.Sc
namespace Go.Sf
variable{ρ β:Type}
def nz(e:Int):QQ:=if e=0 then none else some e
theorem LF(e:Int):(if(!decide (e=0))=true then some (Bv.ret e)else some (Bv.next ()))=some (PN (nz e)):=by grind[nz,PN]
theorem qG(b:Bool)(r:ρ):(if b=true then some (Bv.ret r)else some (Bv.next ()))=some (PN (if b=true then some r else none)):=by
 cases b<;>rfl
variable{kr:ρ->Option β}
theorem Br{σ:Type}{s:σ}{k:σ->Option β}:gp (some (.inl s)) k kr=k s:=rfl
theorem Qp{σ:Type}{r:ρ}{k:σ->Option β}:gp (some (.inr r)) k kr=kr r:=rfl
theorem D0(o:Option ρ)(k:Unit->Option β)(kr:ρ->Option β):gp (some (mK o)) k kr=match o with|none=>k ()|some r=>kr r:=by
 cases o<;>rfl
theorem CN(o:QQ):gp (some (mK o)) (fun _=>some 0) (fun v=>some v)=some (o.getD 0):=by
 cases o<;>rfl
variable{a b:Int}
theorem WV{c:Int->Int}(h:(fst (fun i=>nz (c i)) a b).getD 0=0):∀i,a<=i->i<b->c i=0:=by
 have:fst (fun i=>nz (c i)) a b=none:=by
  cases hf:fst (fun i=>nz (c i)) a b with
  |none=>rfl|some r=>
   grind [Option.getD,Cz,nz]
 grind [Bz,nz]
variable{e:Int}
theorem Iu:nz e=none↔e=0:=by grind[nz]
theorem Vc{α:Type}[Inhabited α]{l:List α}{f:α->K1}{p:α->Bool}(h:∀x∈l,f x=some (p x)):
  (gp (kq (ρ:=Int) (fun(o:Int)(_:Unit)=>(idx l o).bind fun d=>(f d).bind fun j=>if j=true then some (.ret o)else some (.next ())) 0 (l.length:Int) ()) (fun _=>some (-1)) (fun w=>some w))=
   some ((fst (fun i=>if p (AA l i)=true then some i else none) 0 l.length).getD (-1)):=by
 rw [BX (fun i=>if p (AA l i)=true then some i else none)]
 .rw[D0];cases fst (fun i=>if p (AA l i)=true then some i else none) 0 l.length<;>rfl
 .intro i q u _;rw[AE q u,bs,h _ (AM q u),bs,qG]
theorem YL{α:Type}[Inhabited α]{l:List α}{p:α->Bool}:decide (0<=(fst (fun i=>if p (AA l i)=true then some i else none) 0 l.length).getD (-1))=l.any p:=by
 rw [Hp,pc];cases h:fst (fun i=>if p (AA l i)=true then some i else none) 0 l.length with
 |none=>
  grind [Bz,Option.isSome,Option.isSome_eq_false_iff,Option.isNone_iff_eq_none,AA]
 |some k=>
  grind [Cz,AA,Option.getD,Option.isSome,Option.isSome_iff_ne_none,Bz]
theorem EW{α:Type}[Inhabited α]{l:List α}{f:α->K1}{p:α->Bool}(h:∀x∈l,f x=some (p x)):
  ((gp (kq (ρ:=Int) (fun(o:Int)(_:Unit)=>(idx l o).bind fun d=>(f d).bind fun j=>if j=true then some (.ret o)else some (.next ())) 0 (l.length:Int) ()) (fun _=>some (-1)) (fun q=>some q)).bind fun u=>some (decide (0<=u)))=some (l.any p):=by
 rw [Vc h,bs,YL]
end Go.Sf
namespace Go.Sf.Sc
open Go Go.Sf
instance:Inhabited ns:=⟨⟨⟨#[]⟩,0,0,[]⟩⟩
instance:Inhabited B8:=⟨⟨⟨#[]⟩,0,false,[]⟩⟩
instance:Inhabited CG:=⟨⟨⟨#[]⟩,0,0,0,0,0,0⟩⟩
instance:Inhabited Bo:=⟨⟨0,0,0⟩⟩
instance:Inhabited Cf:=⟨⟨0,0,⟨0,0⟩⟩⟩
instance:Inhabited Test:=⟨⟨0,⟨0,0⟩,⟨0,0⟩⟩⟩
instance:Inhabited d7:=⟨⟨0,[],⟨[],[]⟩,⟨⟨[],[]⟩,[],0,[]⟩⟩⟩
variable{l:Fp}
theorem Sv{f:Int->K1}{p:Int->Bool}(h:∀x∈l,f x=some (p x)):A5 l f=some (l.any p):=EW h
theorem cX{l:List Bo}{f:Bo->K1}{p:Bo->Bool}(h:∀x∈l,f x=some (p x)):BT l f=some (l.any p):=EW h
theorem Za{l:List d7}{f:d7->K1}{p:d7->Bool}(h:∀x∈l,f x=some (p x)):Bq l f=some (l.any p):=EW h
theorem bn{l:List B8}{p:B8->Bool}:CB l (fun x=>some (p x))=some (l.any p):=EW (fun _ _=>rfl)
theorem bm{l:List CG}{p:CG->Bool}:CA l (fun x=>some (p x))=some (l.any p):=EW (fun _ _=>rfl)
theorem nR{l:List ns}{p:ns->Bool}:Cc l (fun x=>some (p x))=some (l.any p):=EW (fun _ _=>rfl)
theorem Zb{p:Int->Bool}:A5 l (fun x=>some (p x))=some (l.any p):=EW (fun _ _=>rfl)
theorem cY{l:List Bo}{p:Bo->Bool}:BT l (fun x=>some (p x))=some (l.any p):=EW (fun _ _=>rfl)
theorem cZ{l:List Cf}{p:Cf->Bool}:CJ l (fun x=>some (p x))=some (l.any p):=EW (fun _ _=>rfl)
theorem qR(l:Fp)(v:Int):slices_Index_int l v=some ((fst (fun i=>if decide (v=AA l i)=true then some i else none) 0 l.length).getD (-1)):=by
 have:=Vc (l:=l) (f:=fun x=>some (decide (v=x))) (p:=fun x=>decide (v=x)) (fun _ _=>rfl);unfold slices_Index_int
 grind
theorem LB(l:Fp)(v:Int):slices_Contains_int l v=some (l.any fun x=>decide (v=x)):=by grind[slices_Contains_int,qR,YL]
theorem nT(l:a5)(v:Bool):FO l v=some (l.any fun x=>v==x):=by
 have:=EW (l:=l) (f:=fun x=>some (v==x)) (p:=fun x=>v==x) (fun _ _=>rfl);unfold FO Ic
 grind
structure VR(a:ns):Prop where
 name:(a.qo.size:Int)<=40
 names:a.x3.length<=25
 each:∀x∈a.x3,(x.size:Int)<=40
structure An(t:AC):Prop where
 ei:t.d3.length<=20
 ek:t.d5.length<=30
 name:∀n∈t.d3,(n.qo.size:Int)<=40
 AbX:∀n∈t.d3,n.x4.length<=30
 each:∀n∈t.d3,∀a∈n.x4,VR a
 ename:∀e∈t.d5,(e.qo.size:Int)<=40
def par(t:AC)(i:Int):Int:=(AA t.d3 i).Aac
def FD(t:AC)(k:Int):Prop:=∀i,0<=i->i<k->-1<=par t i/\par t i<i
def B6(t:AC):Nat->Int->List ns
 |0,_=>[]|n+1,a=>if a<0 then[]else B6 t n (par t a)++(AA t.d3 a).x4
def A4(t:AC)(a:Int):List ns:=B6 t (a+1).toNat a
variable{t:AC}{a:Int}
theorem JN{n:Nat}(h:a<0):B6 t n a=[]:=by
 cases n with
 |zero=>rfl|succ n=>rw[B6,a6 h]
variable{k:Int}
theorem L5(d:FD t k):∀(n m:Nat)(a:Int),a<k->a<n->a<m->B6 t n a=B6 t m a
 |n,m,a,h,j,o=>by
  by_cases f:a<0
  .grind[JN]
  .cases n with
   |zero=>omega|succ n=>
    cases m with
    |zero=>omega|succ m=>
     rw [B6,B6,ae f,ae f];have:=d a (by omega) h;rw[L5 d n m (par t a) (by omega) (by omega) (by omega)]
theorem MK(hf:An t)(f:k<=t.d3.length)(d:FD t k):∀(n:Nat)(a:Int),a<k->((B6 t n a).length:Int)<=30*n
 |0,_,_=>by simp[B6]|n+1,a,h=>by
  rw [B6];split
  .simp;omega
  .rename_i j;have o:=d a (by omega) h;have q:=MK hf f d n (par t a) (by omega);have u:=hf.AbX _ (AM (l:=t.d3) (show 0<=a by omega) (by omega))
   grind
theorem WB(hf:An t)(h:k<=t.d3.length)(f:FD t k):∀(n:Nat)(a:Int),a<k->∀x∈B6 t n a,VR x
 |0,_,_=>by simp[B6]|n+1,a,j=>by
  rw [B6];split
  .simp
  .rename_i o;have q:=f a (by omega) j;intro x d;rcases List.mem_append.1 d with d|d
   .exact WB hf h f n (par t a) (by omega) x d
   .exact hf.each _ (AM (l:=t.d3) (show 0<=a by omega) (by omega)) x d
theorem Gd(hf:An t)(d:k<=t.d3.length)(f:FD t k)(h:a<k):(A4 t a).length<=600:=by
 have:=MK hf d f (a+1).toNat a h;have:=hf.ei;unfold A4;omega
theorem ML(hf:An t)(d:k<=t.d3.length)(f:FD t k)(h:a<k):∀x∈A4 t a,VR x:=WB hf d f _ a h
theorem aL(hf:An t)(j:k<=t.d3.length)(h:FD t k):∀(n:Nat)(a:Int),0<=a->a<k->a<n->DF n t a=some (B6 t n a)
 |0,_,_,_,_=>by omega|n+1,a,q,z,D=>by
  have A:=h a (by omega) z;have u:=MK hf j h n (par t a) (by omega);have B:=hf.AbX _ (AM (l:=t.d3) q (by omega));have C:=hf.ei;rw[DF,B6,ae (by omega),AE q (by omega)];simp only[bs];show((if decide (0<=par t a)=true then(DF n t (par t a)).bind fun f=>some f else some []).bind _)=_;have e:(if decide (0<=par t a)=true then(DF n t (par t a)).bind fun f=>some f else some [])=some (B6 t n (par t a)):=by
   by_cases o:0<=par t a
   .rw[a6 (by simpa using o),aL hf j h n (par t a) o (by omega) (by omega)];rfl
   .rw[ae (by simpa using o),JN (by omega)]
  have w:(B6 t n (par t a)).length+(AA t.d3 a).x4.length<=Ah:=by
   unfold Ah;have:((B6 t n (par t a)).length:Int)<=30*n:=u;have x:B6 t n (par t a)=B6 t 20 (par t a):=by
    by_cases d:par t a<0
    .rw[JN d,JN d]
    .exact L5 h n 20 (par t a) (by omega) (by omega) (by omega)
   have y:=MK hf j h 20 (par t a) (by omega);rw[<-x]at y;omega
  rw [e,bs,Ai w];rfl
theorem dF(hf:An t)(d:k<=t.d3.length)(f:FD t k)(h:0<=a)(j:a<k):J2 t a=some (A4 t a):=
 EZ (a+1).toNat fun n o=>by
  grind [aL,A4,L5]
theorem aW(hf:An t)(h:k<=t.d3.length)(f:FD t k):∀(n:Nat)(a:Int),-1<=a->a<k->a+1<n->F7 n t a=some (B6 t n a)
 |0,_,_,_,_=>by omega|n+1,a,z,u,A=>by
  rw [F7,B6];by_cases d:a<0
  .grind
  .have w:=f a (by omega) u;have x:=hf.AbX _ (AM (l:=t.d3) (show 0<=a by omega) (by omega));have y:=hf.ei;rw[ae (by simpa using d),ae d,AE (by omega) (by omega)];simp only[bs];have j:B6 t n (par t a)=B6 t 20 (par t a):=by
    by_cases d:par t a<0
    .rw[JN d,JN d]
    .exact L5 f n 20 (par t a) (by omega) (by omega) (by omega)
   have o:=MK hf h f 20 (par t a) (by omega);rw[<-j]at o;have q:(B6 t n (par t a)).length+(AA t.d3 a).x4.length<=Ah:=by unfold Ah;omega
   rw [show(AA t.d3 a).Aac=par t a from rfl,aW hf h f n (par t a) (by omega) (by omega) (by omega),bs,Ai (by simp;unfold Ah;omega)];simp only[bs,List.nil_append];rw[Ai q];rfl
theorem dO(hf:An t)(d:k<=t.d3.length)(f:FD t k)(h:0<=a)(j:a<k):Nt t a=some (A4 t a):=
 EZ (a+2).toNat fun n o=>by
  grind [aW,A4,L5]
end Go.Sf.Sc
namespace Go.Sf.Sc
open Go Go.Sf
def KS(l:List ByteArray):Int:=
 if (20:Int)<l.length then 3 else(fst (fun i=>if E0 (AA l i)=false then some 2 else if pc (fun j=>AA l j==AA l i) 0 i=true then some 5 else none) 0 l.length).getD 0
variable{b:Int}
theorem Zf{l:List ByteArray}{x:ByteArray}(d:0<=b)(f:b<=l.length):(l.take b.toNat).contains x=pc (fun j=>AA l j==x) 0 b:=by
 rw [List.contains_eq_any_beq,PO d f]
 grind
theorem oE{l:List ByteArray}(o:∀x∈l,(x.size:Int)<=40):Gw l=some (KS l):=by
 unfold Gw KS;by_cases d:(20:Int)<l.length
 .grind
 .rw[ae (by simpa using d),ae d];rw[BX (fun i=>if E0 (AA l i)=false then some 2 else if pc (fun j=>AA l j==AA l i) 0 i=true then some 5 else none),CN];intro i f h _;have q:=o _ (AM f h);rw[AE f h,bs,PZ (by omega),bs,GU f (by omega)];simp only[bs,Oh,Zf f (show i<=l.length by omega)];cases E0 (AA l i)<;>cases pc (fun j=>AA l j==AA l i) 0 i<;>rfl
theorem oW{l:List ByteArray}(o:∀x∈l,(x.size:Int)<=40):LK l=some (KS l):=by
 unfold LK KS;by_cases d:(20:Int)<l.length
 .grind
 .rw[ae (by simpa using d),ae d];rw[BX (fun i=>if E0 (AA l i)=false then some 2 else if pc (fun j=>AA l j==AA l i) 0 i=true then some 5 else none),CN];intro i f h _;have q:=o _ (AM f h);rw[AE f h,bs,Pb (by omega),bs,BS (fun j=>AA l j==AA l i) 5]
  .cases E0 (AA l i)<;>cases pc (fun j=>AA l j==AA l i) 0 i<;>rfl
  grind [AE]
def Nj(all:List ns)(k:Int):Int:=
 let x:=AA all k
 if E0 x.qo=false then 2 else if pc (fun j=>(AA all j).qo==x.qo) 0 k=true then 5 else
 if x.x3.length=0 then(if -1000000<=x.Low/\x.Low<=x.AaD/\x.AaD<=1000000 then 0 else 6)else
 if KS x.x3≠0 then KS x.x3 else if x.Low=0/\x.AaD=x.x3.length-1 then 0 else 6
variable{k:Int}
theorem cA{d:List ns}(q:∀x∈d,VR x)(o:0<=k)(u:k<d.length):ES (AA d k) (d.take k.toNat)=some (Nj d k):=by
 have j:=q _ (AM o u);have A:=j.name;unfold ES Nj;dsimp only;rw[PZ (by omega),bs,show(fun f=>Ie f (AA d k))=(fun f=>some (f.qo==(AA d k).qo))from rfl,nR,bs,PO o (by omega),oE j.each,bs];have w:=j.names;have y:Aj ((AA d k).x3.length-1)=(AA d k).x3.length-1:=Ar (by omega) (by omega);rw[y];have z:(AA d k).x3.length=0->KS (AA d k).x3=0:=fun h=>by rw[List.eq_nil_of_length_eq_zero h];rfl
 generalize KS (AA d k).x3=e at z|-;simp only[bs,zzX,Bool.or_eq_true,pq,Bool.not_eq_true',decide_eq_false_iff_not,Bool.not_eq_false',Bool.or_eq_false_iff,Bool.and_eq_false_iff,ne_eq]
 repeat' (first|rfl|(exfalso;omega;done)|split)
 all_goals (first|rfl|(exfalso;omega)|omega|simp_all|(simp_all;omega))
theorem cF{x:ns}(d:VR x):H0 x=some (
 if x.x3.length=0 then(if -1000000<=x.Low/\x.Low<=x.AaD/\x.AaD<=1000000 then 0 else 6)else
 if KS x.x3≠0 then KS x.x3 else if x.Low=0/\x.AaD=x.x3.length-1 then 0 else 6):=by
 have f:=d.names;have h:Aj (x.x3.length-1)=x.x3.length-1:=Ar (by omega) (by omega);unfold H0 Db;simp only[bs,h,oW d.each];generalize KS x.x3=e;simp only[bs,zzX,Bool.or_eq_true,pq,Bool.not_eq_true',decide_eq_false_iff_not,Bool.not_eq_false',Bool.or_eq_false_iff,Bool.and_eq_false_iff,ne_eq]
 repeat' (first|rfl|(exfalso;omega;done)|split)
 all_goals (first|rfl|(exfalso;omega)|omega|simp_all|(simp_all;omega))
def Ib(t:AC)(i:Int):Int:=
 let n:=AA t.d3 i
 if E0 n.qo=false then 2 else if pc (fun j=>(AA t.d3 j).qo==n.qo) 0 i=true then 5 else
 if n.Aac< -1\/i<=n.Aac then 6 else if 4<n.x4.length\/8<(A4 t i).length then 3 else
 (fst (fun k=>nz (Nj (A4 t i) k)) ((A4 t i).length-n.x4.length) (A4 t i).length).getD 0
variable{t:AC}{i:Int}
theorem WE(d:0<=i):(AA t.d3 i).x4.length<=(A4 t i).length:=by
 unfold A4;rw[show(i+1).toNat=i.toNat+1 by omega,B6,ae (by omega),bk];omega
theorem FD.next(h:FD t i)(f:-1<=par t i)(o:par t i<i):FD t (i+1):=by
 intro j d q;by_cases u:j=i
 .grind
 .exact h j d (by omega)
theorem q9(hf:An t)(f:0<=i)(w:i<t.d3.length)(A:FD t i):IC t i=some (Ib t i):=by
 have C:=hf.name _ (AM f w);unfold IC Ib;dsimp only;rw[AE f w,bs,PZ (by omega),bs,GU f (by omega),bs,show(fun q=>NB q (AA t.d3 i))=(fun q=>some (q.qo==(AA t.d3 i).qo))from rfl,bn,bs,PO f (by omega)];cases E0 (AA t.d3 i).qo
 .rfl
 .cases pc (fun j=>(AA t.d3 j).qo==(AA t.d3 i).qo) 0 i
  .by_cases h:(AA t.d3 i).Aac< -1\/i<=(AA t.d3 i).Aac
   .rcases h with h|h<;>simp[h]
   .have d:FD t (i+1):=A.next (by unfold par;omega) (by unfold par;omega)
    have u:(decide ((AA t.d3 i).Aac< -1)||decide (i<=(AA t.d3 i).Aac))=false:=by
     rw [Bool.eq_false_iff];simpa using h
    rw [dF hf (k:=i+1) (by omega) d f (by omega),bs];have y:=Gd hf (k:=i+1) (a:=i) (by omega) d (by omega);have z:=WE (t:=t) f;have o:=ML hf (k:=i+1) (a:=i) (by omega) d (by omega);rw[Ar (by omega) (by omega),BX (fun k=>nz (Nj (A4 t i) k)),CN]
    .simp only[u,h,Bool.not_true,Bool.false_eq_true,if_false];simp only[bs,zzX,Bool.or_eq_true,pq,Bool.not_eq_true',decide_eq_false_iff_not,Bool.not_eq_false',Bool.or_eq_false_iff,Bool.and_eq_false_iff,ne_eq]
     repeat' (first|rfl|(exfalso;omega;done)|split)
     all_goals (first|rfl|(exfalso;omega)|omega|simp_all|(simp_all;omega))
    .intro k B x _;rw[AE (by omega) x,bs,GU (by omega) (by omega),bs,cA o (by omega) x,bs,LF]
  .rfl
theorem rV(hf:An t)(h:0<=i)(q:i<t.d3.length)(A:FD t i):Mr t i=some (Ib t i):=by
 have E:=hf.name _ (AM h q);have F:=hf.ei;unfold Mr Ib Db;dsimp only;rw[AE h q,bs,Pb (by omega),bs,BS (fun j=>(AA t.d3 j).qo==(AA t.d3 i).qo) 5]
 .cases E0 (AA t.d3 i).qo
  .rfl
  .cases pc (fun j=>(AA t.d3 j).qo==(AA t.d3 i).qo) 0 i
   .simp only[Bool.not_true,Bool.false_eq_true,if_false,Br,bs];rw[Ar (by omega) (by omega)];by_cases w:(AA t.d3 i).Aac< -1\/i<=(AA t.d3 i).Aac
    .rw[a6,ae (by decide),a6 w];simp;omega
    .have d:FD t (i+1):=A.next (by unfold par;omega) (by unfold par;omega)
     rw [ae (by simp;omega),ae (by decide),ae w];rw[dO hf (k:=i+1) (by omega) d h (by omega),bs];have x:=Gd hf (k:=i+1) (a:=i) (by omega) d (by omega);have y:=WE (t:=t) h;have f:=ML hf (k:=i+1) (a:=i) (by omega) d (by omega);rw[Ar (by omega) (by omega)];rw[BX (fun k=>nz (Nj (A4 t i) k)),CN]
     .simp only[bs,zzX,Bool.or_eq_true,pq,Bool.not_eq_true',decide_eq_false_iff_not,Bool.not_eq_false',Bool.or_eq_false_iff,Bool.and_eq_false_iff,ne_eq]
      repeat' (first|rfl|(exfalso;omega;done)|split)
      all_goals (first|rfl|(exfalso;omega)|omega|simp_all|(simp_all;omega))
     .intro k u o _;have z:=f _ (AM (show 0<=k by omega) o);have C:=z.name;simp only[AE (show 0<=k by omega) o,bs];rw[Pb (by omega),bs,BS (fun j=>(AA (A4 t i) j).qo==(AA (A4 t i) k).qo) 5]
      .rw[cF z];simp only[bs,LF];unfold Nj;dsimp only;cases E0 (AA (A4 t i) k).qo
       .rfl
       .cases pc (fun j=>(AA (A4 t i) j).qo==(AA (A4 t i) k).qo) 0 k<;>rfl
      .intro j B D _;rw[AE B (by omega),bs];split<;>rfl
   .rfl
 .intro j u o _;rw[AE u (by omega),bs];split<;>rfl
def MM(low high:Int):Bool:=((decide (0<=low))&&(decide (low<=40)))&&((decide (high=(-1)))||((decide (low<=high))&&(decide (high<=40))))
theorem oQ(low high:Int):Js low high=some (MM low high):=by
 unfold Js MM Db
 grind
def Km(t:AC)(i:Int):Int:=
 let x:=AA t.d5 i
 if E0 x.qo=false then 2 else if pc (fun j=>(AA t.d5 j).qo==x.qo) 0 i=true then 5 else
 if (0<=x.o4/\x.o4<t.d3.length)/\(0<=x.To/\x.To<t.d3.length)/\MM x.Abg x.Aa0=true/\MM x.AbC x.Abh=true then 0 else 6
theorem qt(hf:An t)(d:0<=i)(h:i<t.d5.length):IB t i=some (Km t i):=by
 have o:=hf.ename _ (AM d h);unfold IB Km Kj;dsimp only;rw[AE d h,bs,PZ (by omega),bs,GU d (by omega),bs,show(fun f=>NA f (AA t.d5 i))=(fun f=>some (f.qo==(AA t.d5 i).qo))from rfl,bm,bs,PO d (by omega)];simp only[show∀a b,Jn a b=some (MM a b)from fun _ _=>rfl,bs];generalize E0 (AA t.d5 i).qo=b1;generalize pc (fun j=>(AA t.d5 j).qo==(AA t.d5 i).qo) 0 i=b2;generalize MM (AA t.d5 i).Abg (AA t.d5 i).Aa0=b3;generalize MM (AA t.d5 i).AbC (AA t.d5 i).Abh=b4;cases b1
 .rfl
 grind
theorem rO(hf:An t)(o:0<=i)(q:i<t.d5.length):Mq t i=some (Km t i):=by
 have w:=hf.ename _ (AM o q);have x:=hf.ei;unfold Mq Km Db;dsimp only;rw[AE o q,bs,Pb (by omega),bs,BS (fun j=>(AA t.d5 j).qo==(AA t.d5 i).qo) 5]
 .simp only[Ar (show -9223372036854775808<=(t.d3.length:Int)-1 by omega) (by omega),oQ,bs];generalize E0 (AA t.d5 i).qo=b1;generalize pc (fun j=>(AA t.d5 j).qo==(AA t.d5 i).qo) 0 i=b2;generalize MM (AA t.d5 i).Abg (AA t.d5 i).Aa0=b3;generalize MM (AA t.d5 i).AbC (AA t.d5 i).Abh=b4;cases b1
  .rfl
  .cases b2
   .cases b3<;>cases b4
    all_goals
     by_cases f:0<=(AA t.d5 i).o4/\(AA t.d5 i).o4<t.d3.length
     .have d:(AA t.d5 i).o4<=(t.d3.length:Int)-1:=by omega
      by_cases u:0<=(AA t.d5 i).To/\(AA t.d5 i).To<t.d3.length
      .have h:(AA t.d5 i).To<=(t.d3.length:Int)-1:=by omega
       simp [f,u,d,h,Br]
      .have:(decide (0<=(AA t.d5 i).To)&&decide ((AA t.d5 i).To<=(t.d3.length:Int)-1))=false:=by rw[Bool.eq_false_iff];simp;omega
       simp [f,u,d,this,Br]
     .have:(decide (0<=(AA t.d5 i).o4)&&decide ((AA t.d5 i).o4<=(t.d3.length:Int)-1))=false:=by rw[Bool.eq_false_iff];simp;omega
      simp [f,this,Br]
   .rfl
 grind [AE]
def A2(t:AC):ByteArray×Int:=
 if t.d3.length=0 then(⟨#[]⟩,7)else if 12<t.d3.length\/20<t.d5.length then(⟨#[]⟩,3)else
 match fst (fun i=>(nz (Ib t i)).map fun e=>((AA t.d3 i).qo,e)) 0 t.d3.length with
 |some r=>r|none=>(fst (fun i=>(nz (Km t i)).map fun e=>((AA t.d5 i).qo,e)) 0 t.d5.length).getD (⟨#[]⟩,0)
theorem gj(h:Ib t i=0):-1<=par t i/\par t i<i:=by grind[Ib,par,AA]
theorem KP{α β:Type}{o:Option α}{g:α->β}:o.map g=none↔o=none:=by cases o<;>simp
theorem Vf(h:∀j,0<=j->j<i->Ib t j=0):FD t i:=fun j d f=>gj (h j d f)
theorem UV{ρ:Type}(e:Int)(n:ByteArray):(if(!decide (e=0))=true then some (Bv.ret (n,e))else some (Bv.next ()))=some (PN ((nz e).map fun e=>(n,e))):=by grind[nz,PN]
theorem NV(hf:An t):DH t=some (A2 t):=by
 unfold DH A2;rw[BX (fun i=>(nz (Ib t i)).map fun e=>((AA t.d3 i).qo,e)),D0]
 .rw[BX (fun i=>(nz (Km t i)).map fun e=>((AA t.d5 i).qo,e)),D0]
  .cases fst (fun i=>(nz (Ib t i)).map fun e=>((AA t.d3 i).qo,e)) 0 t.d3.length<;>cases fst (fun i=>(nz (Km t i)).map fun e=>((AA t.d5 i).qo,e)) 0 t.d5.length
   all_goals dsimp only
   all_goals try simp only[Option.getD]
   all_goals
    simp only[bs,zzX,Bool.or_eq_true,pq,Bool.not_eq_true',decide_eq_false_iff_not,Bool.not_eq_false',Bool.or_eq_false_iff,Bool.and_eq_false_iff,ne_eq]
    repeat' (first|rfl|(exfalso;omega;done)|split)
    all_goals (first|rfl|(exfalso;omega)|omega|simp_all|(simp_all;omega))
  .intro i d f _;rw[AE d f,bs,qt hf d f,bs];exact UV (ρ:=Unit) _ _
 .intro i d f q;have u:FD t i:=Vf fun j h o=>Iu.1 (KP.1 (q j h o));rw[AE d f,bs,q9 hf d f u,bs];exact UV (ρ:=Unit) _ _
theorem PF(hf:An t):E7 t=some (A2 t):=by
 unfold E7 A2;rw[BX (fun i=>(nz (Ib t i)).map fun e=>((AA t.d3 i).qo,e)),D0]
 .rw[BX (fun i=>(nz (Km t i)).map fun e=>((AA t.d5 i).qo,e)),D0]
  .cases fst (fun i=>(nz (Ib t i)).map fun e=>((AA t.d3 i).qo,e)) 0 t.d3.length<;>cases fst (fun i=>(nz (Km t i)).map fun e=>((AA t.d5 i).qo,e)) 0 t.d5.length
   all_goals dsimp only
   all_goals try simp only[Option.getD]
   all_goals
    simp only[bs,zzX,Bool.or_eq_true,pq,Bool.not_eq_true',decide_eq_false_iff_not,Bool.not_eq_false',Bool.or_eq_false_iff,Bool.and_eq_false_iff,ne_eq]
    repeat' (first|rfl|(exfalso;omega;done)|split)
    all_goals (first|rfl|(exfalso;omega)|omega|simp_all|(simp_all;omega))
  .intro i d f _;simp only[rO hf d f,AE d f,bs];exact UV (ρ:=Unit) _ _
 .intro i d f q;have u:FD t i:=Vf fun j h o=>Iu.1 (KP.1 (q j h o));simp only[rV hf d f u,AE d f,bs];exact UV (ρ:=Unit) _ _
end Go.Sf.Sc
namespace Go.Sf.Sc
open Go Go.Sf
theorem II{α:Type}{c:Bool}{a b:α}:(if c=true then some a else some b)=some (if c=true then a else b):=by cases c<;>rfl
def Nk(n:Int):Bool:=(decide (0<=n))&&(decide (n<=99))
def S7(e:Bo)(n:Int):Bool:=Nk e.og&&(decide (0<=e.o4)&&decide (e.o4<n))&&(decide (0<=e.To)&&decide (e.To<n))
def Bu(g:d4):Int:=
 if 40<g.d3.length\/80<g.d5.length then 3 else if(g.d3.any fun n=>!Nk n)=true then 6 else if(g.d5.any fun e=>!S7 e g.d3.length)=true then 6 else 0
structure D3(g:d4):Prop where
 ei:g.d3.length<=40
 ek:g.d5.length<=80
 kind:∀n∈g.d3,0<=n/\n<=99
 fit:∀e∈g.d5,(0<=e.og/\e.og<=99)/\(0<=e.o4/\e.o4<g.d3.length)/\(0<=e.To/\e.To<g.d3.length)
variable{g:d4}
theorem C2(h:Bu g=0):D3 g:=by
 unfold Bu at h;split at h
 .cases h
 .split at h
  .cases h
  .split at h
   .cases h
   .rename_i o f d;refine⟨by omega,by omega,fun n j=>?_,fun e he=>?_⟩
    .rw[Bool.not_eq_true,List.any_eq_false]at f
     grind [Nk]
    .rw[Bool.not_eq_true,List.any_eq_false]at d;have:=d e he;simp only[S7,Nk,Bool.not_eq_true',Bool.not_eq_false,pq,zzX]at this;omega
theorem qx{e:Bo}{n:Nat}(h:n<=40):MZ e n=some (S7 e n):=by
 unfold MZ G6 S7 Nk;simp only[bs,Ar (show -9223372036854775808<=(n:Int)-1 by omega) (by omega)];have d:decide (e.o4<=(n:Int)-1)=decide (e.o4<n):=by rw[decide_eq_decide];omega
 have f:decide (e.To<=(n:Int)-1)=decide (e.To<n):=by rw[decide_eq_decide];omega
 rw [d,f];generalize (decide (0<=e.og)&&decide (e.og<=99))=b1;generalize (decide (0<=e.o4)&&decide (e.o4<n))=b2;cases b1<;>cases b2<;>simp
theorem Kq(g:d4):Ci g=some (Bu g):=by
 unfold Ci Bu;by_cases h:40<g.d3.length\/80<g.d5.length
 .grind
 .rw[ae (by simp;omega),ae h,show Li=(fun n=>some (!Nk n))from rfl,Zb,cX (p:=fun e=>!S7 e g.d3.length) (fun e _=>by
   grind [Lj,qx])]
  grind
theorem MB(g:d4):D1 g=some (Bu g):=by
 unfold D1 Bu;by_cases h:40<g.d3.length\/80<g.d5.length
 .grind
 .rw[ae (by simp;omega),ae h,Hp,Hp,BS (fun i=>!Nk (AA g.d3 i)) 6]
  .rw[BS (fun i=>!S7 (AA g.d5 i) g.d3.length) 6]
   .cases pc (fun i=>!Nk (AA g.d3 i)) 0 g.d3.length
    .cases pc (fun i=>!S7 (AA g.d5 i) g.d3.length) 0 g.d5.length<;>rfl
    .rfl
   .intro i d f _;rw[AE d f,bs];unfold Nu S7;simp only[show∀n,Ks n=some (Nk n)from fun _=>rfl,bs]
    grind
  grind [AE,Ks,AA,Nk]
def Cw(t:AC)(g:d4):Bool:=!(g.d3.any fun n=>decide (t.d3.length<=n))&&!(g.d5.any fun e=>decide (t.d5.length<=e.og))
variable{t:AC}
theorem IV(d:D3 g)(h:Cw t g=true):(∀n∈g.d3,0<=n/\n<t.d3.length)/\∀e∈g.d5,0<=e.og/\e.og<t.d5.length:=by
 unfold Cw at h;simp only[pq,Bool.not_eq_true',List.any_eq_false,zzX]at h;refine⟨fun n f=>?_,fun e he=>?_⟩
 .have:=h.1 n f;have:=d.kind n f;omega
 .have:=h.2 e he;have:=d.fit e he;omega
theorem oK(t:AC)(g:d4):H7 t g=some (Cw t g):=by grind[H7,Cw,M2,Zb,M3,Bo,cY]
theorem Xq(h:D3 g):Gr t g=some (Cw t g):=by
 unfold Gr Cw;rw[Hp,Hp,BS (fun i=>decide (t.d3.length<=AA g.d3 i)) false]
 .rw[BS (fun i=>decide (t.d5.length<=(AA g.d5 i).og)) false]
  .cases pc (fun i=>decide (t.d3.length<=AA g.d3 i)) 0 g.d3.length
   .cases pc (fun i=>decide (t.d5.length<=(AA g.d5 i).og)) 0 g.d5.length<;>rfl
   .rfl
  .intro i d f _;have:=(h.fit _ (AM d f)).1.1;simp only[AE d f,bs]
   grind
 .intro i d f _;have:=(h.kind _ (AM d f)).1;simp only[AE d f,bs]
  grind
structure GG(t:AC):Prop where
 ei:t.d3.length<=12
 ek:t.d5.length<=20
 node:∀i:Int,0<=i->i<t.d3.length->Ib t i=0
 edge:∀i:Int,0<=i->i<t.d5.length->Km t i=0
theorem DU(h:(A2 t).2=0):GG t:=by
 unfold A2 at h;split at h
 .cases h
 .split at h
  .cases h
  .rename_i u w;have f:∀i:Int,0<=i->i<t.d3.length->Ib t i=0:=by
    grind [Cz,nz,Iu,KP,Bz]
   have he:∀i:Int,0<=i->i<t.d5.length->Km t i=0:=by
    split at h
    .rename_i r d;obtain⟨i,o,q,j,_⟩:=Cz d;rw[f i o q]at j;cases j
    .cases d:fst (fun i=>(nz (Km t i)).map fun e=>((AA t.d5 i).qo,e)) 0 t.d5.length with
     |some r=>
      grind [Cz,nz]
     |none=>
      grind [Iu,KP,Bz]
   exact ⟨by omega,by omega,f,he⟩
theorem GG.par(h:GG t):FD t t.d3.length:=Vf h.node
variable{i:Int}
theorem GG.ends(h:GG t)(d:0<=i)(f:i<t.d5.length):(0<=(AA t.d5 i).o4/\(AA t.d5 i).o4<t.d3.length)/\(0<=(AA t.d5 i).To/\(AA t.d5 i).To<t.d3.length):=by
 have:=h.edge i d f
 grind [Km]
def J6(t:AC)(a:Int):Bool:=decide (0<=a)&&decide (a<t.d3.length)
variable{a:Int}
theorem L8:J6 t a=true↔0<=a/\a<t.d3.length:=by unfold J6;simp
theorem Xk(hf:An t)(l:Fp):FB t l=some (if(A2 t).2≠0 then(A2 t).2 else if(l.all (J6 t))=true then 0 else 6):=by
 unfold FB;rw[NV hf,bs,Sv (p:=fun a=>!J6 t a) (fun a _=>by unfold Lr J6;rw[show decide (a<0)=!decide (0<=a)from by rw[<-decide_not,decide_eq_decide];omega,show decide ((t.d3.length:Int)<=a)=!decide (a<t.d3.length)from by rw[<-decide_not,decide_eq_decide];omega,Bool.not_and]),bs]
 grind
theorem dQ(hf:An t)(a b:Int):Jt t a b=some (if(A2 t).2≠0 then(A2 t).2 else if(J6 t a&&J6 t b)=true then 0 else 6):=by
 have d:=hf.ei;have e:∀a,decide (a<=(t.d3.length:Int)-1)=decide (a<(t.d3.length:Int)):=fun a=>by rw[decide_eq_decide];omega
 unfold Jt Db;rw[PF hf,bs]
 grind [Ar,A2,J6]
theorem iz{α:Type}[Inhabited α]{l:List α}(d:0<=i)(f:i<l.length):BP l i (AA l i)=l:=by grind[BP,AA,List.getElem?_eq_getElem,List.set_getElem_self]
theorem Bx{α:Type}[Inhabited α]{l:List α}(d:0<=i)(f:i<l.length):l.take (i+1).toNat=l.take i.toNat++[AA l i]:=by
 unfold AA;rw[show(i+1).toNat=i.toNat+1 by omega,List.take_add_one,List.getD_eq_getElem?_getD,List.getElem?_eq_getElem (by omega)];rfl
theorem A1{α:Type}{l:List α}(h:l.length<=Ah):Ak [] l=some l:=by grind[Ai]
def GX(t:AC)(a:Int):List ns×Int:=if(A2 t).2≠0 then([],(A2 t).2)else if J6 t a=true then(A4 t a,0)else([],6)
theorem RK(hf:An t)(a:Int):D2 t a=some (GX t a):=by
 unfold D2 GX;rw[Xk hf,bs];by_cases h:(A2 t).2=0
 .have j:=DU h;have e:[a].all (J6 t)=J6 t a:=by simp
  rw [e];simp only[h,ne_eq,not_true_eq_false,if_false];cases hi:J6 t a
  .rfl
  .rw[a6 rfl,a6 rfl];have o:=L8.1 hi;have D:=Gd hf (Int.le_refl _) j.par o.2;have B:=ML hf (Int.le_refl _) j.par o.2;rw[ae (by decide),dF hf (Int.le_refl _) j.par o.1 o.2,bs];obtain⟨s',C,rfl⟩:=Rk (f:=(fun(q:Int)(u:List ns)=>
 (idx u q).bind fun w=>
 (slices_Clone_string w.x3).bind fun x=>
 (idx u q).bind fun d=>
 some (BP u q (ns.mk d.qo d.Low d.AaD x)))) (fun _ s=>s=A4 t a) (a:=0) (b:=(A4 t a).length) (s:=A4 t a) (by omega) rfl (fun i s y z A=>by
     subst A;have:=(B _ (AM y z)).names;refine⟨A4 t a,?_,rfl⟩;unfold slices_Clone_string;rw[AE y z,bs,A1 (by unfold Ah;omega),bs,bs];congr 1;exact iz y z)
   rw [C];rfl
 .simp only[h,ne_eq,not_false_eq_true,if_true,decide_false,Bool.not_false]
theorem RL(hf:An t)(a:Int):Fv t a=some (GX t a):=by
 unfold Fv GX;rw[dQ hf,bs];by_cases h:(A2 t).2=0
 .have d:=DU h;rw[Bool.and_self];simp only[h,ne_eq,not_true_eq_false,if_false];cases hi:J6 t a
  .rfl
  .rw[a6 rfl,a6 rfl];have f:=L8.1 hi;have u:=Gd hf (Int.le_refl _) d.par f.2;have q:=ML hf (Int.le_refl _) d.par f.2;rw[ae (by decide),dO hf (Int.le_refl _) d.par f.1 f.2,bs];rw[Bt (fun i=>(A4 t a).take i.toNat) (by omega) (by simp)]
   .rw[bs,Int.toNat_natCast,List.take_length]
   .intro i j o;have:=(q _ (AM j o)).names;rw[AE j o,bs,A1 (by unfold Ah;omega),bs,Ai (by rw[cE];simp;unfold Ah;omega),Bx j o];rfl
 grind
end Go.Sf.Sc
namespace Go.Sf.Sc
open Go Go.Sf
def Pu(t:AC):Nat->Int->Fp
 |0,_=>[]|n+1,a=>if a<0 then[]else a::Pu t n (par t a)
theorem dj(t:AC):∀(n:Nat)(a:Int),(Pu t n a).length<=n
 |0,_=>by simp[Pu]|n+1,a=>by
  rw [Pu];split
  .simp
  .have:=dj t n (par t a);simp;omega
def JA(t:AC)(a b:Int):Bool:=(Pu t (a+1).toNat a).any fun x=>decide (b=x)
variable{t:AC}
theorem cu(f:t.d3.length<=12)(q:FD t t.d3.length):∀(n:Nat)(a:Int)(l:Fp),a<t.d3.length->a<n->l.length+n<=1000 ->
  ∃x,Lu (ρ:=Fp) (fun(d:Int×Fp)=>
 if (decide (0<=d.1))=true then
 (Ak d.2 [d.1]).bind fun h=>
 (idx t.d3 d.1).bind fun j=>
 some (.next (j.Aac,h))
 else
 some (.brk (d.1,d.2))) (a,l) (.inl (x,l++Pu t n a))
 |0,a,l,o,u,_=>by
  refine ⟨a,.brk ?_⟩
  grind [Pu]
 |n+1,a,l,o,u,A=>by
  by_cases w:a<0
  .refine⟨a,.brk ?_⟩
   grind [Pu]
  .have y:=q a (by omega) o;obtain⟨x,z⟩:=cu f q n (par t a) (l++[a]) (by omega) (by omega) (by simp;omega);refine⟨x,.next (s':=(par t a,l++[a])) ?_ ?_⟩
   .rw[a6 (by simp;omega),Ai (by simp;unfold Ah;omega),bs,AE (by omega) o];rfl
   grind [Pu,par]
variable{a b:Int}
theorem kR(h:GG t)(o:0<=a)(d:a<t.d3.length):IW t a b=some (JA t a b):=by
 have f:=h.ei;obtain⟨x,j⟩:=cu f h.par (a+1).toNat a [] d (by omega) (by simp;omega);have q:=dj t (a+1).toNat a;unfold IW Ja;rw[j.eq,Br]
 grind [slices_Reverse_int,Ah,LB,JA]
theorem aY(d:FD t t.d3.length)(j:0<=b):∀(n m:Nat)(a:Int),-1<=a->a<t.d3.length->a+1<n->a<m->FT n t a b=some ((Pu t m a).any fun x=>decide (b=x))
 |0,_,_,_,_,_,_=>by omega|n+1,m,a,q,h,u,w=>by
  rw [FT];by_cases f:a<0
  .rw[ae (by simp;omega),ae (by simp;omega)];cases m<;>simp[Pu,f]
  .cases m with
   |zero=>omega|succ m=>
    have o:=d a (by omega) h;rw[Pu,ae f,List.any_cons,a6 (show decide (0<=a)=true by simp;omega),AE (by omega) h];simp only[bs];rw[show(AA t.d3 a).Aac=par t a from rfl,aY d j n m (par t a) (by omega) (by omega) (by omega) (by omega)]
    grind
theorem Ub(h:GG t)(j:0<=a)(d:a<t.d3.length)(f:0<=b):G8 t a b=some (JA t a b):=
 EZ (a+2).toNat fun n o=>aY h.par f n (a+1).toNat a (by omega) d (by omega) (by omega)
def Rj(t:AC)(e f g:Int):Bool:=
 decide ((A2 t).2=0)&&(J6 t f&&J6 t g)&&(decide (0<=e)&&decide (e<t.d5.length))&&(JA t f (AA t.d5 e).o4&&JA t g (AA t.d5 e).To)
theorem gw(hf:An t)(e f g:Int):Gl t e f g=some (Rj t e f g):=by
 unfold Gl Rj;rw[Xk hf,bs,show[f,g].all (J6 t)=(J6 t f&&J6 t g)by simp];by_cases h:(A2 t).2=0
 .simp only[h,ne_eq,not_true_eq_false,if_false];have d:=DU h;cases hi:(J6 t f&&J6 t g)
  .rfl
  .rw[pq,L8,L8]at hi;by_cases he:0<=e/\e<t.d5.length
   .rw[ae (by simp;omega),AE he.1 he.2];simp only[bs,kR d hi.1.1 hi.1.2,kR d hi.2.1 hi.2.2,he.1,he.2,decide_true,Bool.true_and]
    grind
   grind
 .simp[h]
theorem iI(hf:An t)(e f g:Int):Kr t e f g=some (Rj t e f g):=by
 have u:=hf.ek;unfold Kr Rj Db;rw[dQ hf,bs];by_cases h:(A2 t).2=0
 .simp only[h,ne_eq,not_true_eq_false,if_false];have d:=DU h;cases hi:(J6 t f&&J6 t g)
  .rfl
  .rw[pq,L8,L8]at hi;rw[Ar (by omega) (by omega)];simp only[bs];by_cases he:0<=e/\e<t.d5.length
   .have j:=d.ends he.1 he.2;have o:e<=(t.d5.length:Int)-1:=by omega
    rw [ae (by simp),bs,ae (by simp[he.1,o]),AE he.1 he.2];simp only[bs,Ub d hi.1.1 hi.1.2 j.1.1,Ub d hi.2.1 hi.2.2 j.2.1,he.1,he.2,decide_true,Bool.true_and];cases JA t f (AA t.d5 e).o4<;>rfl
   .have:(decide (0<=e)&&decide (e<t.d5.length))=false:=by rw[Bool.eq_false_iff];simpa using he
    have q:(decide (0<=e)&&decide (e<=(t.d5.length:Int)-1))=false:=by rw[Bool.eq_false_iff];simp;omega
    rw [this,q];simp
 .simp[h]
def M7(n:Int)(x:kp):Bool:=(((decide ((-1)<=x.Var))&&(decide (x.Var<n)))&&(decide ((-1000000)<=x.Add)))&&(decide (x.Add<=1000000))
def N6(n:Int)(x:Test):Int:=if¬x.mo=1/\¬x.mo=2 then 1 else if(M7 n x.ne&&M7 n x.fq)=true then 0 else 6
def Jm(n:Int)(l:List Test):Int:=if n<0\/12<n then 6 else if 40<l.length then 3 else(fst (fun i=>nz (N6 n (AA l i))) 0 l.length).getD 0
theorem rF(n:Int)(x:Test):Im n x=some (N6 n x):=by
 unfold Im N6;simp only[show∀n x,Ht n x=some (M7 n x)from fun _ _=>rfl,bs];generalize M7 n x.ne=b1;generalize M7 n x.fq=b2;cases b1<;>cases b2
 all_goals
  simp only[bs,zzX,Bool.or_eq_true,pq,Bool.not_eq_true',decide_eq_false_iff_not,Bool.not_eq_false',Bool.or_eq_false_iff,Bool.and_eq_false_iff,ne_eq]
  repeat' (first|rfl|(exfalso;omega;done)|split)
  all_goals (first|rfl|(exfalso;omega)|omega|simp_all|(simp_all;omega))
theorem kh(n:Int)(x:kp):Iw n x=some (if M7 n x=true then 0 else 6):=by
 unfold Iw M7;simp only[bs,zzX,Bool.or_eq_true,pq,Bool.not_eq_true',decide_eq_false_iff_not,Bool.not_eq_false',Bool.or_eq_false_iff,Bool.and_eq_false_iff,ne_eq]
 repeat' (first|rfl|(exfalso;omega;done)|split)
 all_goals (first|rfl|(exfalso;omega)|omega|simp_all|(simp_all;omega))
theorem rb(n:Int)(x:Test):OL n x=some (N6 n x):=by
 unfold OL N6;simp only[kh,bs];generalize M7 n x.ne=b1;generalize M7 n x.fq=b2;cases b1<;>cases b2
 all_goals
  simp only[bs,zzX,Bool.or_eq_true,pq,Bool.not_eq_true',decide_eq_false_iff_not,Bool.not_eq_false',Bool.or_eq_false_iff,Bool.and_eq_false_iff,ne_eq]
  repeat' (first|rfl|(exfalso;omega;done)|split)
  all_goals (first|rfl|(exfalso;omega)|omega|simp_all|(simp_all;omega))
theorem oJ(n:Int)(l:List Test):G5 n l=some (Jm n l):=by
 unfold G5 Jm;rw[BX (fun i=>nz (N6 n (AA l i))),CN]
 .simp only[bs,zzX,Bool.or_eq_true,pq,Bool.not_eq_true',decide_eq_false_iff_not,Bool.not_eq_false',Bool.or_eq_false_iff,Bool.and_eq_false_iff,ne_eq]
  repeat' (first|rfl|(exfalso;omega;done)|split)
  all_goals (first|rfl|(exfalso;omega)|omega|simp_all|(simp_all;omega))
 .intro i d f _;rw[AE d f,bs,rF,bs,LF]
theorem ob(n:Int)(l:List Test):LJ n l=some (Jm n l):=by
 unfold LJ Jm;rw[BX (fun i=>nz (N6 n (AA l i))),CN]
 .simp only[bs,zzX,Bool.or_eq_true,pq,Bool.not_eq_true',decide_eq_false_iff_not,Bool.not_eq_false',Bool.or_eq_false_iff,Bool.and_eq_false_iff,ne_eq]
  repeat' (first|rfl|(exfalso;omega;done)|split)
  all_goals (first|rfl|(exfalso;omega)|omega|simp_all|(simp_all;omega))
 .intro i d f _;rw[AE d f,bs,rb,bs,LF]
def Ra(t:AC)(p:ec)(node ix:Int):ns×Bool:=
 if node<0\/p.d4.d3.length<=node then(default,false)else
 let l:=(GX t (AA p.d4.d3 node)).1
 if ix<0\/l.length<=ix then(default,false)else(AA l ix,true)
theorem WD(hf:An t)(a:Int):(GX t a).1.length<=600/\((GX t a).2≠0->(GX t a).1=[]):=by
 unfold GX;split
 .simp
 .rename_i h;have d:=DU (t:=t) (by omega);split
  .rename_i hi;exact⟨Gd hf (Int.le_refl _) d.par (L8.1 hi).2,by simp⟩
  .simp
variable{p:ec}
theorem n7(hf:An t)(d:D3 p.d4)(s:Cf):Ew t p s=some (Ra t p s.t5 s.ns):=by
 have j:=d.ei;unfold Ew Ra Cb;dsimp only;rw[Ar (by omega) (by omega),bs];by_cases h:s.t5<0\/p.d4.d3.length<=s.t5
 .rw[a6 (by simp;omega),a6 h];rfl
 .rw[ae (by simp;omega),ae h,AE (by omega) (by omega),bs,RK hf,bs];have o:=(WD hf (AA p.d4.d3 s.t5)).1;rw[Ar (by omega) (by omega),bs];by_cases f:s.ns<0\/(GX t (AA p.d4.d3 s.t5)).1.length<=s.ns
  .rw[a6 (by simp;omega),a6 f];rfl
  grind [AE]
theorem oN(hf:An t)(node d:Int):Mv t p node d=some (Ra t p node d):=by
 unfold Mv Ra;dsimp only;by_cases h:node<0\/p.d4.d3.length<=node
 .rw[a6 (by simp;omega),a6 h];rfl
 .rw[ae (by simp;omega),ae h,AE (by omega) (by omega),bs,RL hf,bs];have j:=(WD hf (AA p.d4.d3 node)).2;by_cases f:d<0\/(GX t (AA p.d4.d3 node)).1.length<=d
  .rw[a6 (by simp;omega),a6 f];rfl
  grind [GX,AA,AE]
end Go.Sf.Sc
namespace Go.Sf
variable{σ ρ:Type}
def jC(s:σ)(o:Option ρ):Bv σ ρ:=match o with
 |none=>.next s|some r=>.ret r
def my(s:σ)(o:Option ρ):σ ⊕ ρ:=match o with
 |none=>.inl s|some r=>.inr r
theorem Zx{f:Int->σ->Option (Bv σ ρ)}(g:Int->σ)(c:Int->Option ρ):∀(n:Nat)(a:Int),
  (∀i,a<=i->i<a+n->(∀j,a<=j->j<i->c j=none)->f i (g i)=some (jC (g (i+1)) (c i)))->Aad f n a (g a)=some (my (g (a+n)) (E4 c n a))
 |0,a,_=>by simp[Aad,E4,my]|n+1,a,h=>by
  have q:=h a (Int.le_refl _) (by omega) (fun j d o=>by omega);rw[Ft,q,E4];cases y:c a with
  |some r=>rfl|none=>
   simp only[jC];rw[show a+((n+1:Nat):Int)=a+1+n by omega];refine Zx g c n (a+1) (fun i d o u=>h i (by omega) (by omega) (fun j w x=>?_))
   grind
variable{a b:Int}
theorem Hb{f:Int->σ->Option (Bv σ ρ)}(g:Int->σ)(c:Int->Option ρ){s:σ}(d:a<=b)(o:s=g a)(h:∀i,a<=i->i<b->(∀j,a<=j->j<i->c j=none)->f i (g i)=some (jC (g (i+1)) (c i))):kq f a b s=some (my (g b) (fst c a b)):=by
 subst o;unfold kq fst;have:=Zx g c (b-a).toNat a (fun i q w u=>h i q (by omega) u)
 grind
variable{α:Type}
variable{e:Int}
theorem DV{X:QQ}{Y:Int}(h:e=0->X=some Y):(if(!decide (e=0))=true then some e else X)=some (if e≠0 then e else Y):=by grind
variable{v:α}{X:Option α}{Y:α}
theorem Cg(h:e=0->X=some Y):(if(!decide (e=0))=true then some v else X)=some (if e≠0 then v else Y):=by grind
variable{P:Prop}
theorem F1[Decidable P]{b:Bool}(d:b=true↔P)(h:¬P->X=some Y):(if b=true then some v else X)=some (if P then v else Y):=by grind
theorem WJ{b:Bool}(h:b=true->X=some Y):(if(!b)=true then some v else X)=some (if b=false then v else Y):=by grind
theorem Zc{b:Bool}(h:b=false->X=some Y):(if b=true then some v else X)=some (if b=true then v else Y):=by grind
end Go.Sf
namespace Go.Sf.Sc
open Go Go.Sf
def Rb(t:AC)(p:ec)(s:Cf):Bool:=!(Ra t p s.t5 s.ns).2||decide (s.kp.Var< -1)||decide (p.hV<=s.kp.Var)||(decide (s.kp.Add< -1000000)||decide (1000000<s.kp.Add))
def KT(p:ec)(v:Int):Bool:=p.gn.any fun s=>decide (s.kp.Var=v)
def HV(t:AC)(p:ec):Int:=
 if (A2 t).2≠0 then(A2 t).2 else if Bu p.d4≠0 then Bu p.d4 else if Cw t p.d4=false then 13 else
 if p.hV<0\/12<p.hV then 6 else if 10<p.gn.length\/10<p.sx.length then 3 else
 if (p.gn.any (Rb t p))=true then 6 else if Jm p.hV p.sx≠0 then Jm p.hV p.sx else
 if pc (fun v=>!KT p v) 0 p.hV=true then 9 else 0
def Jb(p:ec)(i:Int):a5:=(List.range p.hV.toNat).map fun(v:Nat)=>(p.gn.take i.toNat).any fun s=>decide (s.kp.Var=(v:Int))
variable{p:ec}
theorem fg:Jb p 0=List.replicate p.hV.toNat false:=by
 unfold Jb;refine List.ext_getElem (by simp) (fun n d f=>by simp)
theorem jV(p:ec)(i:Int):(Jb p i).length=p.hV.toNat:=by simp[Jb]
variable{i:Int}
theorem jW(d:0<=i)(f:i<p.gn.length)(hv:0<=(AA p.gn i).kp.Var):BP (Jb p i) (AA p.gn i).kp.Var true=Jb p (i+1):=by
 unfold BP;refine List.ext_getElem (by simp[Jb]) (fun n h j=>?_);simp only[Jb,List.getElem_set,List.getElem_map,List.getElem_range,Bx d f,List.any_append,List.any_cons,List.any_nil,Bool.or_false]
 grind
theorem fe(d:0<=i)(f:i<p.gn.length)(hv:(AA p.gn i).kp.Var<0):Jb p i=Jb p (i+1):=by
 refine List.ext_getElem (by simp[Jb]) (fun n h j=>?_);simp only[Jb,List.getElem_map,List.getElem_range,Bx d f,List.any_append,List.any_cons,List.any_nil,Bool.or_false]
 grind
theorem jU(p:ec):((Jb p p.gn.length).any fun x=>false==x)=pc (fun v=>!KT p v) 0 p.hV:=by
 rw [Bool.eq_iff_iff,List.any_eq_true,EE];simp only[Jb,Int.toNat_natCast,List.take_length,List.mem_map,List.mem_range];constructor
 .rintro⟨x,⟨v,hv,rfl⟩,d⟩;refine⟨v,by omega,by omega,?_⟩
  grind [KT]
 .rintro⟨v,f,h,d⟩;refine⟨_,⟨v.toNat,by omega,rfl⟩,?_⟩
  grind [Int.toNat_of_nonneg,KT]
theorem cp{α ρ:Type}[Inhabited α]{l:List α}{q:α->Bool}{v:ρ}:fst (fun i=>if q (AA l i)=true then some v else none) 0 l.length=if l.any q=true then some v else none:=by
 rw [L7,Hp]
variable{t:AC}
theorem Ws(hf:An t)(p:ec):Cq t p=some (HV t p):=by
 unfold Cq HV;rw[NV hf,bs,Kq,bs];refine DV fun F=>DV fun D=>?_;have x:=C2 D;have e:((A5 p.d4.d3 (fun d=>GV d t)).bind fun o=>
   (if o=true then some true else((BT p.d4.d5 (fun d=>GW d t)).bind fun q=>some (q))))=some (!Cw t p.d4):=by
  unfold Cw;rw[show(fun d=>GV d t)=(fun(n:Int)=>some (decide (t.d3.length<=n)))from rfl,Zb,show(fun d=>GW d t)=(fun(e:Bo)=>some (decide (t.d5.length<=e.og)))from rfl,cY];simp only[bs];cases p.d4.d3.any fun n=>decide (t.d3.length<=n)<;>simp
 rw [<-Option.bind_assoc,e,bs];refine WJ fun E=>?_;unfold Cb;simp only[bs];refine F1 (by simp;try omega) fun hv=>F1 (by simp;try omega) fun G=>?_;unfold Is;rw[a6 (by omega),bs,<-fg,Ar (show -9223372036854775808<=p.hV-1 by omega) (by omega),Hb (Jb p) (fun i=>if Rb t p (AA p.gn i)=true then some 6 else none) (by omega) rfl,cp]
 .cases f:p.gn.any (Rb t p)
  .simp only[Bool.false_eq_true,if_false,my,Br,oJ,bs,nT,jU];by_cases h:Jm p.hV p.sx=0
   .simp only[h];cases pc (fun v=>!KT p v) 0 p.hV<;>rfl
   .simp[h]
  .rfl
 .intro i u w _;rw[AE u w,bs,n7 hf x,bs];unfold Rb;by_cases f:(Ra t p (AA p.gn i).t5 (AA p.gn i).ns).2=true
  .by_cases C:(AA p.gn i).kp.Var< -1\/p.hV<=(AA p.gn i).kp.Var
   .have y:(decide (-1<=(AA p.gn i).kp.Var)&&decide ((AA p.gn i).kp.Var<=p.hV-1))=false:=by rw[Bool.eq_false_iff];simp;omega
    have z:(decide ((AA p.gn i).kp.Var< -1)||decide (p.hV<=(AA p.gn i).kp.Var))=true:=by simp;omega
    rw [f,y,Bool.or_assoc (!true),z];rfl
   .have y:(decide (-1<=(AA p.gn i).kp.Var)&&decide ((AA p.gn i).kp.Var<=p.hV-1))=true:=by simp;omega
    have z:(decide ((AA p.gn i).kp.Var< -1)||decide (p.hV<=(AA p.gn i).kp.Var))=false:=by rw[Bool.eq_false_iff];simp;omega
    rw [f,y,Bool.or_assoc (!true),z];by_cases H:(AA p.gn i).kp.Add< -1000000\/1000000<(AA p.gn i).kp.Add
    .have A:(decide (-1000000<=(AA p.gn i).kp.Add)&&decide ((AA p.gn i).kp.Add<=1000000))=false:=by rw[Bool.eq_false_iff];simp;omega
     have B:(decide ((AA p.gn i).kp.Add< -1000000)||decide (1000000<(AA p.gn i).kp.Add))=true:=by simp;omega
     rw [A,B];rfl
    .have A:(decide (-1000000<=(AA p.gn i).kp.Add)&&decide ((AA p.gn i).kp.Add<=1000000))=true:=by simp;omega
     have B:(decide ((AA p.gn i).kp.Add< -1000000)||decide (1000000<(AA p.gn i).kp.Add))=false:=by rw[Bool.eq_false_iff];simp;omega
     rw [A,B];by_cases j:0<=(AA p.gn i).kp.Var
     .simp only[Bool.not_true,Bool.false_eq_true,if_false,bs,j,decide_true,if_true,Bool.or_false];rw[AE j (by rw[jV];omega),bs,jW u w j];rfl
     .simp only[Bool.not_true,Bool.false_eq_true,if_false,bs,j,decide_false,Bool.or_false];rw[fe u w (by omega)];rfl
  .rw[Bool.not_eq_true]at f;rw[f];rfl
theorem mc(p:ec)(v:Int):Ka p v=some (KT p v):=by
 unfold Ka KT;rw[BS (fun i=>decide ((AA p.gn i).kp.Var=v)) true,Hp]
 .cases pc (fun i=>decide ((AA p.gn i).kp.Var=v)) 0 p.gn.length<;>rfl
 .intro i d f _;rw[AE d f,bs,II]
theorem ZK(hf:An t)(p:ec):Gs t p=some (HV t p):=by
 unfold Gs HV;rw[PF hf,bs,MB,bs];refine DV fun u=>DV fun o=>?_;have f:=C2 o;rw[Xq f,bs];refine WJ fun q=>F1 (by simp;try omega) fun hv=>F1 (by simp;try omega) fun w=>?_;rw[BS (fun i=>Rb t p (AA p.gn i)) 6,<-Hp]
 .cases x:p.gn.any (Rb t p)
  .simp only[Bool.false_eq_true,if_false,Br,ob,bs];by_cases d:Jm p.hV p.sx=0
   .simp only[d];rw[BS (fun v=>!KT p v) 9]
    .cases pc (fun v=>!KT p v) 0 p.hV<;>rfl
    .intro i h j _;rw[mc,bs,II]
   .simp[d]
  .rfl
 .intro i h j _;rw[AE h j,bs,oN hf,bs];unfold Rb Lk
  grind
def N4(t:AC)(p:ec)(i:Int):Int:=
 let s:=AA p.gn i
 if s.t5<0\/p.d4.d3.length<=s.t5 then 6 else
 let l:=(GX t (AA p.d4.d3 s.t5)).1
 if ((((((decide (s.ns<0))||(decide ((l.length:Int)<=s.ns)))||(decide (s.kp.Var<(-1))))||(decide (p.hV<=s.kp.Var)))||(decide (s.kp.Add<(-1000000))))||(decide (1000000<s.kp.Add)))=true then 6 else
 if pc (fun j=>(decide ((AA p.gn j).t5=s.t5))&&(decide ((AA p.gn j).ns=s.ns))) 0 i=true then 5 else 0
theorem rD(hf:An t)(r:f0)(d:0<=i)(f:i<r.fq.gn.length):JG t r i=some (N4 t r.fq i):=by
 unfold JG N4;dsimp only;rw[AE d f,bs];refine F1 (by simp) fun h=>?_;rw[AE (by omega) (by omega),bs,RK hf,bs,GU d (by omega),bs,
  show (fun j=>N2 j (AA r.fq.gn i))=(fun y=>some ((decide (y.t5=(AA r.fq.gn i).t5))&&(decide (y.ns=(AA r.fq.gn i).ns))))from rfl,cZ,bs,PO d (by omega)]
 grind
theorem rY(hf:An t)(p:ec)(d:0<=i)(f:i<p.gn.length):Mx t p i=some (N4 t p i):=by
 unfold Mx N4;dsimp only;rw[AE d f,bs];refine F1 (by simp) fun h=>?_;rw[AE (by omega) (by omega),bs,RL hf,bs,
  BS (fun j=>(decide ((AA p.gn j).t5=(AA p.gn i).t5))&&(decide ((AA p.gn j).ns=(AA p.gn i).ns))) 5]
 .refine Zc fun _=>?_;cases pc (fun j=>(decide ((AA p.gn j).t5=(AA p.gn i).t5))&&(decide ((AA p.gn j).ns=(AA p.gn i).ns))) 0 i<;>rfl
 grind [AE,AA,ns]
def Jk(t:AC)(r:f0):Int:=
 if Bu r.fq.d4≠0 then Bu r.fq.d4 else if Cw t r.fq.d4=false then 13 else
 if r.fq.hV≠r.ne.hV\/0<r.fq.sx.length then 1 else if 10<r.fq.gn.length then 3 else
 (fst (fun i=>nz (N4 t r.fq i)) 0 r.fq.gn.length).getD 0
theorem oF(hf:An t)(r:f0):H6 t r=some (Jk t r):=by
 unfold H6 Jk;rw[Kq,bs,oK,bs,BX (fun i=>nz (N4 t r.fq i)),CN]
 .grind
 grind [rD,LF]
theorem oY(hf:An t)(r:f0):LV t r=some (Jk t r):=by
 unfold LV Jk;rw[MB,bs];refine DV fun d=>?_;rw[Xq (C2 d),bs,BX (fun i=>nz (N4 t r.fq i)),CN]
 .grind
 grind [rY,LF]
end Go.Sf.Sc
namespace Go.Sf
variable{a b:Int}
theorem eT{ρ:Type}{c d:Int->Option ρ}(h:∀i,c i=d i):fst c a b=fst d a b:=by rw[funext h]
def DC(l:Fp)(v:Int):Int:=(fst (fun i=>if decide (v=AA l i)=true then some i else none) 0 l.length).getD (-1)
variable{l:Fp}
theorem Iq{v:Int}(h:v∈l):0<=DC l v/\DC l v<l.length/\AA l (DC l v)=v/\∀j,0<=j->j<DC l v->AA l j≠v:=by
 unfold DC;cases hf:fst (fun i=>if decide (v=AA l i)=true then some i else none) 0 l.length with
 |none=>
  grind [Be,Bz]
 |some k=>
  grind [Cz,AA]
variable{R:Int->Int->Prop}
theorem LH(h:l.Pairwise R){i j:Int}(d:0<=i)(f:i<j)(o:j<l.length):R (AA l i) (AA l j):=by grind[List.pairwise_iff_getElem,AA,List.getElem?_eq_getElem]
theorem U9(h:∀i j:Int,0<=i->i<j->j<l.length->R (AA l i) (AA l j)):l.Pairwise R:=by
 refine List.pairwise_iff_getElem.2 (fun i j d f o=>?_);have:=h i j (by omega) (by omega) (by omega);unfold AA at this
 grind
theorem VY(u:l.Pairwise (·<·)){v:Int}(h:v∈l):(l.countP (fun x=>decide (x<v)):Int)=DC l v:=by
 obtain ⟨w,y,o,_⟩:=Iq h;generalize E:DC l v=k at w y o;have e:l=l.take k.toNat++l.drop k.toNat:=(List.take_append_drop _ _).symm;have z:(l.take k.toNat).countP (fun x=>decide (x<v))=k.toNat:=by
  rw [List.countP_eq_length.2 (fun x d=>?_),cE]
  .omega
  .obtain⟨i,C,D,rfl⟩:=Be d;rw[cE]at D;rw[Jq (by omega),zzX,<-o];exact LH u C (by omega) y
 have A:(l.drop k.toNat).countP (fun x=>decide (x<v))=0:=by
  rw [List.countP_eq_zero];intro x d;obtain⟨n,q⟩:=List.getElem?_of_mem d;rw[List.getElem?_drop]at q;have B:=(List.getElem?_eq_some_iff.1 q).1;have f:x=AA l (k+n):=by
   unfold AA;rw[List.getD_eq_getElem?_getD,show(k+(n:Int)).toNat=k.toNat+n by omega,q];rfl
  rw [zzX,f,<-o];by_cases j:n=0
  .subst j;simp
  .have:=LH u w (show k<k+(n:Int)by omega) (by omega);omega
 rw [e,List.countP_append,z,A];omega
end Go.Sf
namespace Go.Sf.Sc
open Go Go.Sf
theorem ng(l:Fp)(n:Int):(gp (kq (ρ:=Int) (fun(h:Int)(_:Unit)=>
 (idx l h).bind fun d=>
 if (decide (d=n))=true then
 some (.ret h)
 else
 some (.next ())) 0 (l.length:Int) ()) (fun _=>
 some (-1)) (fun j=>some j))=some (DC l n):=by
 have:=Vc (l:=l) (f:=fun x=>some (decide (x=n))) (p:=fun x=>decide (x=n)) (fun _ _=>rfl);simp only[bs]at this;rw[this];unfold DC;congr 2;exact eT fun i=>by simp only[eq_comm]
theorem rU(l:Fp)(v:Int):IM l v=some (DC l v):=ng l v
def hasB(l:Fp)(v:Int):Bool:=l.any fun x=>decide (v=x)
variable{l:Fp}
theorem CR{v:Int}:hasB l v=true↔v∈l:=by
 unfold hasB
 grind
theorem NQ(l:Fp)(n:Int):(gp (kq (ρ:=Bool) (fun(f:Int)(_:Unit)=>
 (idx l f).bind fun d=>
 if (decide (d=n))=true then
 some (.ret true)
 else
 some (.next ())) 0 (l.length:Int) ()) (fun _=>
 some false) (fun h=>some h))=some (hasB l n):=by
 unfold hasB;rw[BS (fun i=>decide (n=AA l i)) true,Hp]
 .cases pc (fun i=>decide (n=AA l i)) 0 l.length<;>rfl
 .intro i j o _;rw[AE j o,bs,II];simp only[eq_comm]
theorem oU(l:Fp)(v:Int):Qi l v=some (hasB l v):=NQ l v
theorem oT(l:Fp)(v:Int):OM l v=some (hasB l v):=NQ l v
def PP(l:Fp)(n:Int):Int:=(fst (fun i=>if AA l i<0\/n<=AA l i then some 6 else if 0<i/\AA l i<=AA l (i-1)then some 12 else none) 0 l.length).getD 0
theorem mU(q:l.length<=1000)(n:Int):Hh l n=some (PP l n):=by
 unfold Hh PP;rw[BX (fun i=>if AA l i<0\/n<=AA l i then some 6 else if 0<i/\AA l i<=AA l (i-1)then some 12 else none),CN];intro i j o _;rw[AE j o,bs];by_cases h:AA l i<0\/n<=AA l i
 .rw[a6 (by simpa using h),a6 h];rfl
 .rw[ae (by simpa using h),ae h];by_cases d:0<i
  .rw[a6 (by simpa using d),Ar (by omega) (by omega),AE (by omega) (by omega),bs,bs];by_cases f:AA l i<=AA l (i-1)
   .rw[a6 (by simpa using f),a6 ⟨d,f⟩];rfl
   .rw[ae (by simpa using f),ae (fun h=>f h.2)];rfl
  .rw[ae (by simpa using d),bs,ae (by decide),ae (fun h=>d h.1)];rfl
theorem mZ(u:l.length<=1000)(n:Int):GM l n=some (PP l n):=by
 unfold GM PP;rw[BX (fun i=>if AA l i<0\/n<=AA l i then some 6 else if 0<i/\AA l i<=AA l (i-1)then some 12 else none),CN];intro i j o _;rw[AE j o];simp only[bs];by_cases h:AA l i<0\/n<=AA l i
 .have:(if decide (AA l i<0)=true then some true else some (decide (n<=AA l i)))=some true:=by
   rcases h with h|h
   .simp[h]
   .by_cases q:AA l i<0<;>simp[h,q]
  rw [this,bs,a6 rfl,a6 h];rfl
 .have:(if decide (AA l i<0)=true then some true else some (decide (n<=AA l i)))=some false:=by
   rw [ae (by simp;omega),decide_eq_false (by omega)]
  rw [this,bs,ae (by decide),ae h];by_cases d:0<i
  .rw[a6 (by simpa using d),Ar (by omega) (by omega),AE (by omega) (by omega),bs,bs];by_cases f:AA l i<=AA l (i-1)
   .rw[a6 (by simpa using f),a6 ⟨d,f⟩];rfl
   .rw[ae (by simpa using f),ae (fun h=>f h.2)];rfl
  .rw[ae (by simpa using d),bs,ae (by decide),ae (fun h=>d h.1)];rfl
variable{a b:Int}
theorem OD{c:Int->QQ}(d:∀i,c i≠some 0)(h:(fst c a b).getD 0=0):∀i,a<=i->i<b->c i=none:=by
 have:fst c a b=none:=by
  cases hf:fst c a b with
  |none=>rfl|some r=>
   grind [Option.getD,Cz]
 exact Bz.1 this
variable{n:Int}
theorem Sk(h:PP l n=0):(∀x∈l,0<=x/\x<n)/\l.Pairwise (·<·):=by
 have y:=OD (c:=fun i=>if AA l i<0\/n<=AA l i then some 6 else if 0<i/\AA l i<=AA l (i-1)then some 12 else none) (fun i=>by
  split
  .simp
  .split<;>simp) h
 have f:∀i:Int,0<=i->i<l.length->(0<=AA l i/\AA l i<n)/\(0<i->AA l (i-1)<AA l i):=by
  intro i o w;have:=y i o w;split at this
  .cases this
  .split at this
   .cases this
   .omega
 refine ⟨fun x q=>?_,U9 (fun i j o d u=>?_)⟩
 .obtain⟨i,z,A,rfl⟩:=Be q;exact(f i z A).1
 .obtain⟨k,B⟩:∃k:Nat,j=i+1+k:=⟨(j-i-1).toNat,by omega⟩;subst B;clear d
  induction k with
  |zero=>
   have:=(f (i+1) (by omega) (by omega)).2 (by omega);rw[show i+1-1=i by omega]at this;simpa using this
  |succ k C=>
   have a:=C (by omega);have b:=(f (i+1+((k+1:Nat):Int)) (by omega) u).2 (by omega);rw[show i+1+((k+1:Nat):Int)-1=i+1+k by omega]at b;omega
theorem R7(f:l.length<=1000)(d:l.Pairwise (·<·))(v:Int):slices_BinarySearch_int l v=some (((l.countP (fun x=>decide (x<v)):Nat):Int),hasB l v):=by
 unfold slices_BinarySearch_int;rw[a6 ⟨by unfold Ah;omega,d.imp (fun h=>by omega)⟩];congr 2;rw[Bool.eq_iff_iff,CR,List.contains_iff_mem]
def Np(g:d4)(p:BH):Int:=
 if PP p.d3 g.d3.length≠0 then PP p.d3 g.d3.length else if PP p.d5 g.d5.length≠0 then PP p.d5 g.d5.length else
 (fst (fun i=>if(hasB p.d3 (AA g.d5 (AA p.d5 i)).o4&&hasB p.d3 (AA g.d5 (AA p.d5 i)).To)=true then none else some 14) 0 p.d5.length).getD 0
structure ZR(g:d4)(p:BH):Prop where
 ei:(∀x∈p.d3,0<=x/\x<g.d3.length)/\p.d3.Pairwise (·<·)
 ek:(∀x∈p.d5,0<=x/\x<g.d5.length)/\p.d5.Pairwise (·<·)
 ends:∀x∈p.d5,(AA g.d5 x).o4∈p.d3/\(AA g.d5 x).To∈p.d3
variable{g:d4}
theorem Wv{p:BH}(h:Np g p=0):ZR g p:=by
 unfold Np at h;split at h
 .omega
 .split at h
  .omega
  .rename_i q u;refine⟨Sk (by omega),Sk (by omega),fun x f=>?_⟩;obtain⟨i,j,o,rfl⟩:=Be f;have:=OD (c:=fun i=>if(hasB p.d3 (AA g.d5 (AA p.d5 i)).o4&&hasB p.d3 (AA g.d5 (AA p.d5 i)).To)=true then none else some 14) (fun i=>by
    split<;>simp) h i j o
   split at this
   .rename_i d;rw[pq,CR,CR]at d;exact d
   .cases this
def Ej(g:d4)(p:BH):Int:=if Bu g≠0 then Bu g else Np g p
structure Qs(p:BH):Prop where
 ei:p.d3.length<=1000
 ek:p.d5.length<=1000
theorem dJ{p:BH}(d:Qs p):D9 g p=some (Ej g p):=by
 unfold D9 Ej;rw[Kq,bs];refine DV fun o=>?_;have w:=C2 o;unfold Lq Np;rw[mU d.ei,bs,mU d.ek,bs,Option.bind_fun_some];refine DV fun q=>DV fun u=>?_;obtain⟨a1,x⟩:=Sk q;obtain⟨y,z⟩:=Sk u;rw[BX (fun i=>if(hasB p.d3 (AA g.d5 (AA p.d5 i)).o4&&hasB p.d3 (AA g.d5 (AA p.d5 i)).To)=true then none else some 14),CN];intro i f h _;have j:=y _ (AM f h);unfold Kh;rw[AE f h,bs,AE j.1 j.2];simp only[bs,R7 d.ei x];cases hasB p.d3 (AA g.d5 (AA p.d5 i)).o4<;>cases hasB p.d3 (AA g.d5 (AA p.d5 i)).To<;>rfl
theorem Xp{p:BH}(d:Qs p):IL g p=some (Ej g p):=by
 unfold IL Ej;rw[MB,bs];refine DV fun o=>?_;have u:=C2 o;unfold Nv Np;rw[mZ d.ei,bs,mZ d.ek,bs,Option.bind_fun_some];refine DV fun x=>DV fun q=>?_;obtain⟨w,y⟩:=Sk q;rw[BX (fun i=>if(hasB p.d3 (AA g.d5 (AA p.d5 i)).o4&&hasB p.d3 (AA g.d5 (AA p.d5 i)).To)=true then none else some 14),CN];intro i f h _;have j:=w _ (AM f h);rw[AE f h,bs,AE j.1 j.2];simp only[bs,oT];cases hasB p.d3 (AA g.d5 (AA p.d5 i)).o4<;>cases hasB p.d3 (AA g.d5 (AA p.d5 i)).To<;>rfl
def Mm(g:d4)(p:BH):d4:=⟨p.d3.map (AA g.d3),p.d5.map fun x=>⟨(AA g.d5 x).og,DC p.d3 (AA g.d5 x).o4,DC p.d3 (AA g.d5 x).To⟩⟩
variable{i:Int}
theorem Hc{α:Type}{f:Int->α}(d:0<=i)(h:i<l.length):(l.take (i+1).toNat).map f=(l.take i.toNat).map f++[f (AA l i)]:=by grind[Bx]
theorem Rp(z:l.length<=1000)(h:∀x∈l,0<=x/\x<g.d3.length)(es:List Bo):(tc (fun(y:Int)(u:d4)=>
 (idx l y).bind fun d=>
 (idx g.d3 d).bind fun f=>
 (Ak u.d3 [f]).bind fun j=>
 some (d4.mk j u.d5)) 0 (l.length:Int) (d4.mk [] es))=some (d4.mk (l.map (AA g.d3)) es):=by
 rw [Bt (fun i=>d4.mk ((l.take i.toNat).map (AA g.d3)) es) (by omega) (by simp)]
 .rw[Int.toNat_natCast,List.take_length]
 .intro i o q;have w:=h _ (AM o q);rw[AE o q,bs,AE w.1 w.2,bs,Ai (by simp;unfold Ah;omega),bs,Hc o q]
theorem WY(B:l.length<=1000)(h:∀x∈l,0<=x/\x<g.d5.length)(o:Fp)(F:Bo->Bo){f:Bo->List Bo->Option (List Bo)}(hf:∀x∈l,∀s,s.length<=1000->f (AA g.d5 x) s=some (s++[F (AA g.d5 x)])):(tc (fun(A:Int)(y:d4)=>
 (idx l A).bind fun q=>
 (idx g.d5 q).bind fun u=>
 (f u y.d5).bind fun w=>
 some (d4.mk y.d3 w)) 0 (l.length:Int) (d4.mk o []))=some (d4.mk o (l.map fun x=>F (AA g.d5 x))):=by
 rw [Bt (fun i=>d4.mk o ((l.take i.toNat).map fun x=>F (AA g.d5 x))) (by omega) (by simp)]
 .rw[Int.toNat_natCast,List.take_length]
 .intro i d j;have z:=h _ (AM d j);rw[AE d j,bs,AE z.1 z.2,bs,hf _ (AM d j) _ (by simp;omega),bs,Hc d j]
theorem gv{p:BH}(d:Qs p):Dz g p=some (if Ej g p≠0 then(⟨[],[]⟩,⟨[],[]⟩,Ej g p)else(Mm g p,⟨p.d3,p.d5⟩,0)):=by
 unfold Dz;rw[dJ d,bs];refine Cg fun h=>?_;have w:Bu g=0/\Np g p=0:=by
  grind [Ej]
 have ho:=Wv w.2;rw[Rp d.ei ho.ei.1,bs];have:=WY (g:=g) (l:=p.d5) d.ek ho.ek.1 (p.d3.map (AA g.d3)) (fun x=>⟨x.og,DC p.d3 x.o4,DC p.d3 x.To⟩) (f:=fun j s=>
  (slices_BinarySearch_int p.d3 j.o4).bind fun o=>
  (slices_BinarySearch_int p.d3 j.To).bind fun q=>
  Ak s [Bo.mk j.og o.1 q.1]) (fun x u s y=>by
   have he:=ho.ends x u;rw[R7 d.ei ho.ei.2,bs,R7 d.ei ho.ei.2,bs,Ai (by simp;unfold Ah;omega),VY ho.ei.2 he.1,VY ho.ei.2 he.2])
 simp only[Option.bind_assoc]at this;rw[this,bs];unfold slices_Clone_int;have z:=d.ei;have A:=d.ek;rw[A1 (by unfold Ah;omega),bs,A1 (by unfold Ah;omega)];rfl
theorem Ya{p:BH}(j:Qs p):Hd g p=some (if Ej g p≠0 then(⟨[],[]⟩,⟨[],[]⟩,Ej g p)else(Mm g p,⟨p.d3,p.d5⟩,0)):=by
 unfold Hd;rw[Xp j,bs];refine Cg fun h=>?_;have u:Bu g=0/\Np g p=0:=by
  grind [Ej]
 have ho:=Wv u.2;rw[Rp j.ei ho.ei.1,bs];have:=WY (g:=g) (l:=p.d5) j.ek ho.ek.1 (p.d3.map (AA g.d3)) (fun x=>⟨x.og,DC p.d3 x.o4,DC p.d3 x.To⟩) (f:=fun d s=>
  (IM p.d3 d.o4).bind fun o=>
  (IM p.d3 d.To).bind fun q=>
  Ak s [Bo.mk d.og o q]) (fun x w s y=>by
   grind [rU,Ai,Ah])
 simp only[Option.bind_assoc]at this;rw[this,bs];have z:=j.ei;have A:=j.ek;rw[A1 (by unfold Ah;omega),bs,A1 (by unfold Ah;omega)];rfl
end Go.Sf.Sc
namespace Go.Sf.Sc
open Go Go.Sf
def LE(a b:d4)(m:d6)(i:Int):QQ:=
 if AA m.d3 i<0\/b.d3.length<=AA m.d3 i then some 6 else if AA b.d3 (AA m.d3 i)≠AA a.d3 i then some 13 else none
def G7(a b:d4)(m:d6)(i:Int):QQ:=
 if AA m.d5 i<0\/b.d5.length<=AA m.d5 i then some 6 else
 if (AA a.d5 i).og≠(AA b.d5 (AA m.d5 i)).og then some 13 else
 if AA m.d3 (AA a.d5 i).o4≠(AA b.d5 (AA m.d5 i)).o4\/AA m.d3 (AA a.d5 i).To≠(AA b.d5 (AA m.d5 i)).To then some 11 else none
def It(a b:d4)(m:d6):Int:=
 if Bu a≠0 then Bu a else if Bu b≠0 then Bu b else if m.d3.length≠a.d3.length\/m.d5.length≠a.d5.length then 20 else
 match fst (LE a b m) 0 m.d3.length with
 |some e=>e|none=>(fst (G7 a b m) 0 m.d5.length).getD 0
structure Y5(a b:d4)(m:d6):Prop where
 ga:D3 a
 gb:D3 b
 AaF:m.d3.length=a.d3.length
 AaP:m.d5.length=a.d5.length
 node:∀i:Int,0<=i->i<m.d3.length->(0<=AA m.d3 i/\AA m.d3 i<b.d3.length)/\AA b.d3 (AA m.d3 i)=AA a.d3 i
 edge:∀i:Int,0<=i->i<m.d5.length->(0<=AA m.d5 i/\AA m.d5 i<b.d5.length)/\(AA a.d5 i).og=(AA b.d5 (AA m.d5 i)).og/\
  AA m.d3 (AA a.d5 i).o4=(AA b.d5 (AA m.d5 i)).o4/\AA m.d3 (AA a.d5 i).To=(AA b.d5 (AA m.d5 i)).To
variable{m:d6}
theorem UT{a b:d4}(h:It a b m=0):Y5 a b m:=by
 unfold It at h;split at h
 .omega
 split at h
 .omega
 split at h
 .cases h
 rename_i o q u;have j:fst (LE a b m) 0 m.d3.length=none:=by
  grind [Cz,LE]
 rw [j]at h;have he:=OD (fun i=>by
  grind [G7]) h
 refine ⟨C2 (by omega),C2 (by omega),by omega,by omega,fun i d f=>?_,fun i d f=>?_⟩
 .grind[Bz,LE]
 grind [G7]
theorem ZB(a b:d4)(m:d6):DD a b m=some (It a b m):=by
 unfold DD It;rw[Kq,bs,Kq,bs];refine DV fun u=>DV fun w=>F1 (by simp;try omega) fun z=>?_;have ga:=C2 u;have gb:=C2 w;rw[BX (LE a b m),D0]
 .cases x:fst (LE a b m) 0 m.d3.length with
  |some e=>rfl|none=>
   have y:=Bz.1 x;dsimp only;rw[BX (G7 a b m),CN];intro i h q _;unfold G7;rw[AE h q,bs];by_cases d:AA m.d5 i<0\/b.d5.length<=AA m.d5 i
   .rw[a6 (by simpa using d),a6 d];rfl
   .have hf:=ga.fit _ (AM (l:=a.d5) h (by omega));rw[ae (by simpa using d),ae d,AE h (by omega),bs,AE (by omega) (by omega),bs];by_cases f:(AA a.d5 i).og=(AA b.d5 (AA m.d5 i)).og
    .rw[ae (by simpa using f),ae (by simpa using f),AE (by omega) (by omega),bs];by_cases j:AA m.d3 (AA a.d5 i).o4=(AA b.d5 (AA m.d5 i)).o4
     .rw[ae (by simpa using j),AE (by omega) (by omega),bs,bs];by_cases o:AA m.d3 (AA a.d5 i).To=(AA b.d5 (AA m.d5 i)).To
      .rw[ae (by simpa using o),ae (by simp[j,o])];rfl
      .rw[a6 (by simpa using o),a6 (.inr o)];rfl
     .rw[a6 (by simpa using j),bs,a6 rfl,a6 (.inl j)];rfl
    .rw[a6 (by simpa using f),a6 f];rfl
 .intro i h q _;unfold LE;rw[AE h q,bs];by_cases d:AA m.d3 i<0\/b.d3.length<=AA m.d3 i
  .rw[a6 (by simpa using d),a6 d];rfl
  .rw[ae (by simpa using d),ae d,AE (by omega) (by omega),bs,AE h (by omega),bs];by_cases f:AA b.d3 (AA m.d3 i)=AA a.d3 i
   .rw[ae (by simpa using f),ae (by simpa using f)];rfl
   .rw[a6 (by simpa using f),a6 f];rfl
theorem TQ{x y:Prop}[Decidable x][Decidable y]:(if decide x=true then some true else some (decide y))=some (decide (x\/y)):=by grind
theorem ZJ(a b:d4)(m:d6):Gn a b m=some (It a b m):=by
 unfold Gn It;rw[MB,bs,MB,bs];refine DV fun u=>DV fun w=>F1 (by simp;try omega) fun z=>?_;have ga:=C2 u;have gb:=C2 w;rw[show(a.d3.length:Int)=m.d3.length by omega,show(a.d5.length:Int)=m.d5.length by omega,BX (LE a b m),D0]
 .cases x:fst (LE a b m) 0 m.d3.length with
  |some e=>rfl|none=>
   have y:=Bz.1 x;dsimp only;rw[BX (G7 a b m),CN];intro i h q _;unfold G7;rw[AE h q];simp only[bs,TQ];by_cases d:AA m.d5 i<0\/b.d5.length<=AA m.d5 i
   .rw[a6 (by simpa using d),a6 d];rfl
   .have hf:=ga.fit _ (AM (l:=a.d5) h (by omega));rw[ae (by simpa using d),ae d,AE h (by omega),bs,AE (by omega) (by omega),bs];by_cases f:(AA a.d5 i).og=(AA b.d5 (AA m.d5 i)).og
    .rw[ae (by simpa using f),ae (by simpa using f),AE (by omega) (by omega),bs];by_cases j:AA m.d3 (AA a.d5 i).o4=(AA b.d5 (AA m.d5 i)).o4
     .rw[ae (by simpa using j),AE (by omega) (by omega),bs,bs];by_cases o:AA m.d3 (AA a.d5 i).To=(AA b.d5 (AA m.d5 i)).To
      .rw[ae (by simpa using o),ae (by simp[j,o])];rfl
      .rw[a6 (by simpa using o),a6 (.inr o)];rfl
     .rw[a6 (by simpa using j),bs,a6 rfl,a6 (.inl j)];rfl
    .rw[a6 (by simpa using f),a6 f];rfl
 .intro i h q _;unfold LE;rw[AE h q];simp only[bs,TQ];by_cases d:AA m.d3 i<0\/b.d3.length<=AA m.d3 i
  .rw[a6 (by simpa using d),a6 d];rfl
  .rw[ae (by simpa using d),ae d,AE (by omega) (by omega),bs,AE h (by omega),bs];by_cases f:AA b.d3 (AA m.d3 i)=AA a.d3 i
   .rw[ae (by simpa using f),ae (by simpa using f)];rfl
   .rw[a6 (by simpa using f),a6 f];rfl
def Io(l:Fp):Bool:=!pc (fun i=>pc (fun j=>decide (AA l i=AA l j)) 0 i) 0 l.length
variable{l:Fp}
theorem Rg:Io l=true↔l.Nodup:=by grind[Io,Bool.not_eq_true',Bk,U9,LH]
theorem ZI(l:Fp):E1 l=some (Io l):=by
 unfold E1 Io;rw[BS (fun i=>pc (fun j=>decide (AA l i=AA l j)) 0 i) false]
 .cases pc (fun i=>pc (fun j=>decide (AA l i=AA l j)) 0 i) 0 l.length<;>rfl
 .intro i d f _;rw[BS (fun j=>decide (AA l i=AA l j)) false]
  .cases pc (fun j=>decide (AA l i=AA l j)) 0 i<;>rfl
  .intro j h o _;rw[AE d f,bs,AE h (by omega),bs,II]
theorem aN(f:l.length<=1000):∃k,GK l=some k/\decide (k=(l.length:Int))=Io l:=by
 have d:(QZ l).length=l.length:=(Oq l).length_eq;refine⟨((Go.Lib.compact (QZ l)).length:Int),?_,?_⟩
 .grind[GK,slices_Clone_int,slices_Sort_int,slices_Compact_int,A1,Ah]
 .rw[Bool.eq_iff_iff,Rg,zzX,<-(Oq l).nodup_iff,<-SM (PV l),d];omega
def KM(m:d6):Bool:=Io m.d3&&Io m.d5
theorem mV{a b:d4}(h:It a b m=0):Cv a b m=some (KM m):=by
 have ho:=UT h;have:=ho.ga.ei;have:=ho.ga.ek;have:=ho.AaF;have:=ho.AaP;obtain⟨k,d,f⟩:=aN (l:=m.d3) (by omega);obtain⟨j,o,q⟩:=aN (l:=m.d5) (by omega);unfold Cv KM;rw[ZB,h,bs,a6 (decide_eq_true rfl),d];simp only[bs,o,f,q];cases Io m.d3<;>rfl
theorem vD{a b:d4}(h:It a b m=0):H2 a b m=some (KM m):=by grind[H2,KM,ZJ,ZI,Io]
def Qa(r:f0):Int:=
 if Ej r.ne.d4 r.x5≠0 then Ej r.ne.d4 r.x5 else
 if It (Mm r.ne.d4 r.x5) r.fq.d4 r.tl≠0 then It (Mm r.ne.d4 r.x5) r.fq.d4 r.tl else if KM r.tl=false then 11 else 0
variable{r:f0}
theorem qz(d:Qs r.x5):JF r=some (Qa r):=by
 unfold JF Qa;rw[gv d,bs];by_cases h:Ej r.ne.d4 r.x5=0
 .simp only[h,ne_eq,not_true_eq_false,if_false,decide_true,Bool.not_true,Bool.false_eq_true];rw[ZB,bs];refine DV fun f=>?_;rw[mV f,bs];exact WJ fun _=>rfl
 .simp[h]
def Ue(r:f0):Int:=if Ej r.ne.d4 r.x5≠0 then Ej r.ne.d4 r.x5 else It (Mm r.ne.d4 r.x5) r.fq.d4 r.tl
theorem rZ(d:Qs r.x5):My r=some (Ue r):=by
 unfold My Ue;rw[Xp d,bs];refine DV fun h=>?_
 grind [Ya,ZJ]
theorem nj(h:Qa r=0):Ej r.ne.d4 r.x5=0/\It (Mm r.ne.d4 r.x5) r.fq.d4 r.tl=0/\KM r.tl=true:=by grind[Qa]
def BI(l:Fp)(n:Int):Fp:=((List.range n.toNat).map Int.ofNat).filter fun i=>!hasB l i
variable{i:Int}
theorem M0(l:Fp)(h:0<=i):BI l (i+1)=BI l i++if(!hasB l i)=true then[i]else[]:=by
 unfold BI;rw[show(i+1).toNat=i.toNat+1 by omega,List.range_succ,List.map_append,List.filter_append]
 grind
theorem H5{n x:Int}(h:x∈BI l n):0<=x/\x<n:=by
 unfold BI at h
 grind
theorem Qn(l:Fp)(n:Int):(BI l n).length<=n.toNat:=by
 unfold BI
 grind
variable{n:Int}
theorem Tc(q:0<=n)(w:n<=1000){f:Int->K1}(hf:∀i,f i=some (hasB l i)):(tc (fun(j:Int)(o:Fp)=>
 (f j).bind fun d=>
 if (!d)=true then
 (Ak o [j]).bind fun h=>
 some h
 else
 some o) 0 n [])=some (BI l n):=by
 refine Bt (BI l) q (by simp[BI]) (fun i u x=>?_);have:=Qn l i;rw[hf,bs,M0 l u];cases hasB l i
 .rw[a6 (by decide),a6 (by decide),Ai (by simp;unfold Ah;omega)];rfl
 .rw[ae (by decide),ae (by decide),List.append_nil]
theorem aP(d:0<=n)(f:n<=1000):J0 l n=some (BI l n):=by
 unfold J0;rw[Tc d f (fun i=>LB l i)];rfl
theorem iX(d:0<=n)(f:n<=1000):Kv n l=some (BI l n):=by
 unfold Kv;rw[Tc d f (fun i=>oU l i)];rfl
def IH(r:f0):Fp:=BI r.tl.d3 r.fq.d4.d3.length
def NM(r:f0):Fp:=BI r.tl.d5 r.fq.d4.d5.length
theorem g7(d:D3 r.fq.d4):Kg r=some (IH r,NM r):=by
 have:=d.ei;have:=d.ek;unfold Kg;rw[aP (by omega) (by omega),bs,aP (by omega) (by omega)];rfl
theorem iM(d:D3 r.fq.d4):Jj r=some (IH r,NM r):=by
 have:=d.ei;have:=d.ek;unfold Jj;rw[iX (by omega) (by omega),bs,iX (by omega) (by omega)];rfl
def Lv(t:AC)(g:d4)(i:Int):Bool:=Rj t (AA g.d5 i).og (AA g.d3 (AA g.d5 i).o4) (AA g.d3 (AA g.d5 i).To)
def Z7(t:AC)(g:d4)(ei ek:Fp):Bool:=!(ei.any fun i=>(AA t.d3 (AA g.d3 i)).Aap)&&!(ek.any fun i=>!Lv t g i)
variable{t:AC}{g:d4}
theorem vA(hf:An t)(o:D3 g)(q:Cw t g=true){ei ek:Fp}(u:∀x∈ei,0<=x/\x<g.d3.length)(he:∀x∈ek,0<=x/\x<g.d5.length):F9 t g ei ek=some (Z7 t g ei ek):=by
 have h:=IV o q;unfold F9 Z7;rw[Sv (p:=fun i=>(AA t.d3 (AA g.d3 i)).Aap) (fun x f=>by
  have d:=u x f;have j:=h.1 _ (AM d.1 d.2);unfold Kz;rw[AE d.1 d.2,bs,AE j.1 j.2];rfl),bs,Sv (p:=fun i=>!Lv t g i) (fun x f=>by
  have d:=he x f;have j:=o.fit _ (AM d.1 d.2);unfold Fm;rw[AE d.1 d.2,bs,AE (by omega) (by omega),bs,AE (by omega) (by omega),bs,gw hf];rfl)]
 grind
theorem vF(hf:An t)(q:D3 g)(u:Cw t g=true){ei ek:Fp}(w:∀x∈ei,0<=x/\x<g.d3.length)(he:∀x∈ek,0<=x/\x<g.d5.length):Kc t g ei ek=some (Z7 t g ei ek):=by
 have j:=IV q u;unfold Kc Z7;rw[Hp,Hp,BS (fun i=>(AA t.d3 (AA g.d3 (AA ei i))).Aap) false]
 .rw[BS (fun i=>!Lv t g (AA ek i)) false]
  .cases pc (fun i=>(AA t.d3 (AA g.d3 (AA ei i))).Aap) 0 ei.length
   .cases pc (fun i=>!Lv t g (AA ek i)) 0 ek.length<;>rfl
   .rfl
  .intro i f h _;have d:=he _ (AM f h);have o:=q.fit _ (AM d.1 d.2);rw[AE f h,bs,AE d.1 d.2,bs,AE (by omega) (by omega),bs,AE (by omega) (by omega),bs,iI hf,bs,II];rfl
 .intro i f h _;have d:=w _ (AM f h);have o:=j.1 _ (AM d.1 d.2);rw[AE f h,bs,AE d.1 d.2,bs,AE o.1 o.2,bs,II]
end Go.Sf.Sc
namespace Go.Sf.Sc
open Go Go.Sf
structure NG(p:ec):Prop where
 ei:p.d4.d3.length<=45
 ek:p.d4.d5.length<=90
 slots:p.gn.length<=15
 tests:p.sx.length<=15
structure du(m:d6):Prop where
 ei:m.d3.length<=140
 ek:m.d5.length<=140
inductive Di:d7->Prop where
 |mk (c:d7) (hq:NG c.ec) (hm:du c.Map) (hk:∀k∈c.hT,Di k):Di c
variable{c:d7}
theorem Di.q(h:Di c):NG c.ec:=by cases h;assumption
theorem Di.m(h:Di c):du c.Map:=by cases h;assumption
theorem Di.k(h:Di c):∀k∈c.hT,Di k:=by cases h;assumption
theorem FN{c k:d7}(h:k∈c.hT):SizeOf.sizeOf k<SizeOf.sizeOf c:=by
 have:=List.sizeOf_lt_of_mem h;cases c
 grind
theorem EQ(c:d7):0<SizeOf.sizeOf c:=by
 cases c
 grind
def Ol(c:d7):Bool:=decide (c.Map.d3.length=0/\c.Map.d5.length=0/\c.ec.d4.d3.length=0/\c.ec.d4.d5.length=0/\c.ec.gn.length=0/\c.ec.sx.length=0/\c.ec.hV=0)
theorem qp(hf:Di c):Ex c=some (Ol c):=by
 have d:=hf.q;have f:=hf.m;have:=d.ei;have:=d.ek;have:=d.slots;have:=d.tests;have:=f.ei;have:=f.ek;unfold Ex Ol;rw[Ar (n:=(c.Map.d3.length:Int)+c.Map.d5.length) (by omega) (by omega),Ar (n:=(c.Map.d3.length:Int)+c.Map.d5.length+c.ec.d4.d3.length) (by omega) (by omega),
  Ar (n:=(c.Map.d3.length:Int)+c.Map.d5.length+c.ec.d4.d3.length+c.ec.d4.d5.length) (by omega) (by omega),
  Ar (n:=(c.Map.d3.length:Int)+c.Map.d5.length+c.ec.d4.d3.length+c.ec.d4.d5.length+c.ec.gn.length) (by omega) (by omega),
  Ar (n:=(c.Map.d3.length:Int)+c.Map.d5.length+c.ec.d4.d3.length+c.ec.d4.d5.length+c.ec.gn.length+c.ec.sx.length) (by omega) (by omega)]
 congr 1
 grind
theorem kf(hf:Di c):HD c=some (Ol c):=by
 have d:=hf.q;have f:=hf.m;have:=d.ei;have:=d.ek;have:=d.slots;have:=d.tests;have:=f.ei;have:=f.ek;unfold HD Ol;rw[Ar (n:=(c.Map.d3.length:Int)+c.Map.d5.length) (by omega) (by omega),Ar (n:=(c.Map.d3.length:Int)+c.Map.d5.length+c.ec.d4.d3.length) (by omega) (by omega),
  Ar (n:=(c.Map.d3.length:Int)+c.Map.d5.length+c.ec.d4.d3.length+c.ec.d4.d5.length) (by omega) (by omega),
  Ar (n:=(c.ec.gn.length:Int)+c.ec.sx.length) (by omega) (by omega)]
 congr 1
 grind
def Rs(c:d7):Bool:=
 if c.mo=1 then decide (c.hT.length=0)&&Ol c else if c.mo=2 then decide (c.hT.length=1)&&Ol c else
 if c.mo=3\/c.mo=4 then decide (1<=c.hT.length)&&Ol c else if c.mo=5 then decide (c.hT.length=1)else false
def RU:Nat->d7->Bool
 |0,_=>false|n+1,c=>Rs c&&c.hT.all (RU n)
theorem rH:∀(N:Nat)(c:d7),SizeOf.sizeOf c<=N->Di c->∀n,2*N<=n->BR n c=some (RU N c)
 |0,c,h,_,_,_=>by have:=EQ c;omega|N+1,c,h,hf,n,B=>by
  obtain ⟨n,rfl⟩:∃m,n=m+2:=⟨n-2,by omega⟩;rw[BR,RU,qp hf];have f:Bq c.hT (Bb (n+1))=some (!c.hT.all (RU N)):=by
   rw [Za (p:=fun k=>!RU N k) (fun k f=>by
    have:=FN f;rw[Bb,rH N k (by omega) (hf.k k f) n (by omega)];rfl),List.all_eq_not_any_not,Bool.not_not]
  rw [f];unfold Rs;simp only[bs,zzX];generalize Ol c=b;generalize c.hT.all (RU N)=w;have y:decide ((c.hT.length:Int)=0)=decide (c.hT.length=0):=by rw[decide_eq_decide];omega
  have z:decide ((c.hT.length:Int)=1)=decide (c.hT.length=1):=by rw[decide_eq_decide];omega
  have A:decide (1<=(c.hT.length:Int))=decide (1<=c.hT.length):=by rw[decide_eq_decide];omega
  simp only[show((c.hT.length:Int)=0)↔c.hT.length=0 by omega,show((c.hT.length:Int)=1)↔c.hT.length=1 by omega,show(1<=(c.hT.length:Int))↔1<=c.hT.length by omega];by_cases j:c.mo=1
  .rw[a6 j,a6 j];by_cases d:c.hT.length=0<;>cases b<;>cases w<;>simp[d]
  .rw[ae j,ae j];by_cases o:c.mo=2
   .rw[a6 o,a6 o];by_cases d:c.hT.length=1<;>cases b<;>cases w<;>simp[d]
   .rw[ae o,ae o];by_cases u:c.mo=3
    .simp only[u,if_true,true_or];by_cases d:1<=c.hT.length<;>cases b<;>cases w<;>simp[d]
    .by_cases x:c.mo=4
     .simp only[x,if_true,or_true,show¬(4:Int)=3 by decide,if_false];by_cases d:1<=c.hT.length<;>cases b<;>cases w<;>simp[d]
     .simp only[u,x,if_false,or_false];by_cases q:c.mo=5
      .rw[a6 q,a6 q];by_cases d:c.hT.length=1<;>cases w<;>simp[d]
      .rw[ae q,ae q];cases w<;>rfl
theorem rS(hf:Di c):LU c=some (Rs c):=by
 unfold LU Rs;rw[kf hf];simp only[bs,zzX];generalize Ol c=b;simp only[show((c.hT.length:Int)=0)↔c.hT.length=0 by omega,show((c.hT.length:Int)=1)↔c.hT.length=1 by omega,show(0<(c.hT.length:Int))↔1<=c.hT.length by omega]
 grind
theorem qA{α:Type}[Inhabited α]{l:List α}{p:α->Bool}:l.all p=!pc (fun i=>!p (AA l i)) 0 l.length:=by
 rw [List.all_eq_not_any_not,Hp]
theorem mY:∀(N:Nat)(c:d7),SizeOf.sizeOf c<=N->Di c->∀n,N<=n->EO n c=some (RU N c)
 |0,c,h,_,_,_=>by have:=EQ c;omega|N+1,c,h,hf,n,o=>by
  obtain ⟨n,rfl⟩:∃m,n=m+1:=⟨n-1,by omega⟩;rw[EO,RU,rS hf,bs,qA,BS (fun i=>!RU N (AA c.hT i)) false]
  .cases Rs c
   .rfl
   .cases pc (fun i=>!RU N (AA c.hT i)) 0 c.hT.length<;>rfl
  .intro i d f _;have j:=AM (l:=c.hT) d f;have:=FN j;rw[AE d f,bs,mY N _ (by omega) (hf.k _ j) n (by omega),bs,II]
noncomputable def mz(c:d7):Bool:=RU (SizeOf.sizeOf c) c
theorem vB(hf:Di c):FH c=some (mz c):=EZ (2*SizeOf.sizeOf c) fun n d=>rH _ c (az _) hf n d
theorem vJ(hf:Di c):NY c=some (mz c):=EZ (SizeOf.sizeOf c) fun n d=>mY _ c (az _) hf n d
def Mc:Nat->d7->Int×Int
 |0,_=>(0,0)|n+1,c=>
  let s:=c.hT.foldl (fun s k=>(Aj (s.1+(Mc n k).1),max s.2 (Mc n k).2)) ((1,0):Int×Int)
  (s.1,if c.mo=5 then Aj (s.2+1)else s.2)
theorem YS{α σ:Type}[Inhabited α]{l:List α}{g:σ->α->σ}{s:σ}{f:Int->σ->Option σ}(h:∀(i:Int)s,0<=i->i<l.length->f i s=some (g s (AA l i))):tc f 0 l.length s=some (l.foldl g s):=by
 rw [Bt (fun i=>(l.take i.toNat).foldl g s) (by omega) (by simp)]
 .rw[Int.toNat_natCast,List.take_length]
 grind [Bx]
theorem hO:∀(N:Nat)(c:d7),SizeOf.sizeOf c<=N->∀n,N<=n->CH n c=some (Mc N c)
 |0,c,h,_,_=>by have:=EQ c;omega|N+1,c,h,n,j=>by
  obtain ⟨n,rfl⟩:∃m,n=m+1:=⟨n-1,by omega⟩;rw[CH,Mc,YS (g:=fun s k=>(Aj (s.1+(Mc N k).1),max s.2 (Mc N k).2))]
  .grind
  .intro i s d f;have:=FN (AM (l:=c.hT) d f);rw[AE d f,bs,hO N _ (by omega) n (by omega)];rfl
theorem iS:∀(N:Nat)(c:d7),SizeOf.sizeOf c<=N->∀n,N<=n->E2 n c=some (Mc N c)
 |0,c,h,_,_=>by have:=EQ c;omega|N+1,c,h,n,j=>by
  obtain ⟨n,rfl⟩:∃m,n=m+1:=⟨n-1,by omega⟩;rw[E2,Mc,YS (g:=fun s k=>(Aj (s.1+(Mc N k).1),max s.2 (Mc N k).2))]
  .grind
  .intro i s d f;have:=FN (AM (l:=c.hT) d f);rw[AE d f,bs,iS N _ (by omega) n (by omega)];rfl
noncomputable def Y9(c:d7):Int×Int:=Mc (SizeOf.sizeOf c) c
noncomputable def Pl(c:d7):Int:=if mz c=false then 1 else if 12<(Y9 c).1\/3<(Y9 c).2 then 3 else 0
theorem oH(hf:Di c):EN c=some (Pl c):=by
 unfold EN Pl;rw[vB hf,bs,show GY c=some (Y9 c)from EZ (SizeOf.sizeOf c) fun n d=>hO _ c (az _) n d,bs]
 grind
theorem oZ(hf:Di c):LS c=some (Pl c):=by
 unfold LS Pl;rw[vJ hf,bs,show Oc c=some (Y9 c)from EZ (SizeOf.sizeOf c) fun n d=>iS _ c (az _) n d,bs]
 grind
theorem WX(g:d4):Bu g≠9:=by grind[Bu]
variable{t:AC}{p:ec}
theorem aV(d:(A2 t).2=0)(h:HV t p=0\/HV t p=9):0<=p.hV/\p.hV<=12:=by grind[WX,HV]
def TF(t:AC)(q:ec)(v:Int):Int:=if HV t q≠9 then HV t q else if pc (fun i=>!KT q i) v q.hV=true then 9 else 0
variable{P:Prop}
theorem wQ{α:Type}[Decidable P]{v:α}{X:Option α}{Y:α}(h:P->X=some Y):(if(!decide P)=true then some v else X)=some (if¬P then v else Y):=by grind
theorem u9(hf:An t)(f:(A2 t).2=0){q:ec}{v:Int}(u:0<=v)(h:v<=q.hV):DX t q v=some (TF t q v):=by
 unfold DX TF;rw[Ws hf,bs];refine wQ fun d=>?_;have hv:=aV f (.inr d);rw[MG (c:=fun i=>(if(!KT q i)=true then some ()else none).map fun _=>.inr 9) (a:=v) (b:=q.hV) h]
 .rw[PA,L7];cases pc (fun i=>!KT q i) v q.hV<;>rfl
 .intro i w o _;rw[a6 (by simpa using o),show(fun j=>HP j i)=(fun y=>some (decide (y.kp.Var=i)))from rfl,cZ,bs,show(q.gn.any fun y=>decide (y.kp.Var=i))=KT q i from rfl,d,Ar (by omega) (by omega)];cases KT q i<;>rfl
 .rw[ae (by simp)]
theorem oX(p:ec)(v:Int):Mw p v=some (KT p v):=mc p v
theorem vE(hf:An t)(q:ec)(v:Int):LT t v q=some (if q.hV<v then 20 else TF t q v):=by
 unfold LT TF;refine F1 (by simp) fun _=>?_;rw[ZK hf,bs];refine wQ fun d=>?_;rw[d,BS (fun i=>!KT q i) 9]
 .cases pc (fun i=>!KT q i) v q.hV<;>rfl
 .intro i f h _;rw[oX,bs,II]
def KD:Nat->AC->ec->d7->Int
 |0,_,_,_=>0|N+1,t,p,c=>
  if c.mo=5 then
   if c.ec.hV<p.hV then 20 else if TF t c.ec p.hV≠0 then TF t c.ec p.hV else
   if It p.d4 c.ec.d4 c.Map≠0 then It p.d4 c.ec.d4 c.Map else if KM c.Map=false then 1 else
   (fst (fun i=>nz (KD N t c.ec (AA c.hT i))) 0 c.hT.length).getD 0
  else (fst (fun i=>nz (KD N t p (AA c.hT i))) 0 c.hT.length).getD 0
theorem iB(hf:An t)(o:(A2 t).2=0):∀(N:Nat)(c:d7)(p:ec),0<=p.hV->SizeOf.sizeOf c<=N->∀n,N<=n->B3 n t p c=some (KD N t p c)
 |0,c,p,_,h,_,_=>by have:=EQ c;omega|N+1,c,p,C,h,n,D=>by
  obtain ⟨n,rfl⟩:∃m,n=m+1:=⟨n-1,by omega⟩;rw[B3,KD];have j:∀q:ec,0<=q.hV->(gp (kq (ρ:=Int) (fun(y:Int)(_:Unit)=>
    (idx c.hT y).bind fun f=>
    (B3 n t q f).bind fun d=>
    if (!decide (d=0))=true then
    some (.ret d)
    else
    some (.next ())) 0 (c.hT.length:Int) ()) (fun _=>
    some 0) (fun z=>some z))=some ((fst (fun i=>nz (KD N t q (AA c.hT i))) 0 c.hT.length).getD 0):=by
   intro q B;rw[BX (fun i=>nz (KD N t q (AA c.hT i))),CN];intro i u w _;have:=FN (AM (l:=c.hT) u w);rw[AE u w,bs,iB hf o N _ q B (by omega) n (by omega),bs,LF]
  by_cases x:c.mo=5
  .rw[a6 (by simpa using x),a6 x];refine F1 (by simp) fun hv=>?_;rw[u9 hf o C (by omega),bs];refine DV fun hi=>?_;rw[ZB,bs];refine DV fun A=>?_;rw[mV A,bs]
   grind
  grind
theorem iU(hf:An t):∀(N:Nat)(c:d7)(p:ec),SizeOf.sizeOf c<=N->∀n,N<=n->E8 n t p c=some (KD N t p c)
 |0,c,p,h,_,_=>by have:=EQ c;omega|N+1,c,p,h,n,A=>by
  obtain ⟨n,rfl⟩:∃m,n=m+1:=⟨n-1,by omega⟩;rw[E8,KD];have d:∀q:ec,(gp (kq (ρ:=Int) (fun(x:Int)(_:Unit)=>
    (idx c.hT x).bind fun o=>
    (E8 n t q o).bind fun f=>
    if (!decide (f=0))=true then
    some (.ret f)
    else
    some (.next ())) 0 (c.hT.length:Int) ()) (fun _=>
    some 0) (fun y=>some y))=some ((fst (fun i=>nz (KD N t q (AA c.hT i))) 0 c.hT.length).getD 0):=by
   intro q;rw[BX (fun i=>nz (KD N t q (AA c.hT i))),CN];intro i u w _;have:=FN (AM (l:=c.hT) u w);rw[AE u w,bs,iU hf N _ q (by omega) n (by omega),bs,LF]
  by_cases j:c.mo=5
  .rw[a6 (by simpa using j),a6 j,vE hf,bs];by_cases hv:c.ec.hV<p.hV
   .simp[hv]
   .simp only[ae hv];refine DV fun hi=>?_;rw[ZJ,bs];refine DV fun z=>?_;rw[vD z,bs];exact WJ fun _=>d _
  .rw[ae (by simpa using j),ae j];exact d p
noncomputable def MQ(t:AC)(p:ec)(c:d7):Int:=if HV t p≠0 then HV t p else if Pl c≠0 then Pl c else KD (SizeOf.sizeOf c) t p c
theorem g6(hf:An t)(d:(A2 t).2=0)(p:ec)(f:Di c):Cu t p c=some (MQ t p c):=by
 unfold Cu MQ;rw[Ws hf,bs];refine DV fun h=>?_;rw[oH f,bs,Option.bind_fun_some];exact DV fun _=>EZ (SizeOf.sizeOf c) fun n j=>iB hf d _ c p (aV d (.inl h)).1 (az _) n j
theorem iL(hf:An t)(p:ec)(d:Di c):Ju t p c=some (MQ t p c):=by
 unfold Ju MQ;rw[ZK hf,bs];refine DV fun h=>?_;rw[oZ d,bs,Option.bind_fun_some];exact DV fun _=>EZ (SizeOf.sizeOf c) fun n f=>iU hf _ c p (az _) n f
end Go.Sf.Sc
namespace Go.Sf.Sc
open Go Go.Sf
structure Qt(r:f0):Prop where
 name:(r.qo.size:Int)<=60
 left:NG r.ne
 right:NG r.fq
 jj:Qs r.x5
 into:du r.tl
 cond:Di r.d7
noncomputable def Fw(t:AC)(r:f0):Int:=
 if (A2 t).2≠0 then(A2 t).2 else if E0 r.qo=false then 2 else if HV t r.ne≠0 then HV t r.ne else
 if Jk t r≠0 then Jk t r else if Qa r≠0 then Qa r else if Z7 t r.fq.d4 (IH r) (NM r)=false then 13 else MQ t r.ne r.d7
variable{t:AC}{r:f0}
theorem Vn(h:Jk t r=0):D3 r.fq.d4/\Cw t r.fq.d4=true:=by grind[Jk,C2]
theorem iD(hf:An t)(d:Qt r):Gh t r=some (Fw t r):=by
 have q:=d.name;unfold Gh Fw;rw[NV hf,bs];refine DV fun j=>?_;rw[PZ (by omega),bs];refine WJ fun _=>?_;rw[Ws hf,bs];refine DV fun _=>?_;rw[oF hf,bs];refine DV fun f=>?_;have ho:=Vn f;rw[qz d.jj,bs];refine DV fun o=>?_;rw[g7 ho.1,bs];dsimp only;rw[vA (ei:=IH r) (ek:=NM r) hf ho.1 ho.2 (fun x h=>H5 h) (fun x h=>H5 h),bs];refine WJ fun _=>?_;rw[g6 hf j _ d.cond,bs]
theorem iY(hf:An t)(d:Qt r):Jv t r=some (Fw t r):=by
 have u:=d.name;unfold Jv Fw;rw[PF hf,bs];refine DV fun q=>?_;rw[Pb (by omega),bs];refine WJ fun _=>?_;rw[ZK hf,bs];refine DV fun _=>?_;rw[oY hf,bs];refine DV fun f=>?_;have ho:=Vn f;rw[rZ d.jj,bs,ZI,bs];simp only[ZI,bs];have e:(if(!Io r.tl.d3)=true then some true else some (!Io r.tl.d5))=some (!KM r.tl):=by
  grind [KM,Io]
 rw [e,bs];have o:Qa r=if Ue r≠0 then Ue r else if KM r.tl=false then 11 else 0:=by
  grind [Qa,Ue,Ej]
 rw [o];by_cases j:Ue r=0
 .simp only[j,ne_eq,not_true_eq_false,if_false,decide_true,Bool.not_true,Bool.false_eq_true];cases hi:KM r.tl
  .simp
  .simp only[Bool.not_true,Bool.false_eq_true,if_false,not_true_eq_false,Bool.true_eq_false];rw[iM ho.1,bs];dsimp only;rw[vF (ei:=IH r) (ek:=NM r) hf ho.1 ho.2 (fun x h=>H5 h) (fun x h=>H5 h),bs];refine WJ fun _=>?_;rw[iL hf _ d.cond,bs]
 .simp[j]
def Aa5(t:AC)(l:Fp):Bool:=!(l.any fun k=>t.d3.any fun n=>decide (n.Aac=k))
structure fu(t:AC)(r:f0):Prop where
 left:D3 r.ne.d4
 ltyped:Cw t r.ne.d4=true
 right:D3 r.fq.d4
 AbP:Cw t r.fq.d4=true
 rtests:r.fq.sx.length=0
 part:ZR r.ne.d4 r.x5
 mor:Y5 (Mm r.ne.d4 r.x5) r.fq.d4 r.tl
 inj:r.tl.d3.Nodup/\r.tl.d5.Nodup
variable{p:ec}
theorem rI(h:HV t p=0):D3 p.d4/\Cw t p.d4=true:=by grind[HV,C2]
theorem dU(h:Fw t r=0):(A2 t).2=0/\fu t r:=by
 unfold Fw at h;split at h
 .omega
 split at h
 .cases h
 split at h
 .omega
 split at h
 .omega
 split at h
 .omega
 rename_i o q u w x;have d:=rI (t:=t) (p:=r.ne) (by omega);have f:=Vn (t:=t) (r:=r) (by omega);have j:=nj (r:=r) (by omega);have hi:Io r.tl.d3=true/\Io r.tl.d5=true:=by
  grind [KM]
 refine ⟨by omega,d.1,d.2,f.1,f.2,?_,?_,UT j.2.1,Rg.1 hi.1,Rg.1 hi.2⟩
 .grind[Jk]
 grind [Ej,Wv]
end Go.Sf.Sc
namespace Go.Sf
variable{a b:Int}
theorem Ug{ρ:Type}{f:Int->Option (Bv Int ρ)}(p:Int->Bool)(v:ρ)(d:a<=b)(h:∀i,a<=i->i<b->f i=some (if p i=true then .ret v else .next (i+1)))(j:f b=some (.brk b)):Ep f a=some (if pc p a b=true then .inr v else .inl b):=by
 rw [MG (c:=fun i=>(if p i=true then some ()else none).map fun _=>.inr v) d]
 .grind[PA,L7,pc]
 .intro i o q _;rw[h i o q];cases p i<;>rfl
 .exact j
theorem GJ{α:Type}{e:α->TV}{n:Nat}{l:List α}(h:TV.Sm (.list n (l.map e))):(l.length:Int)<=140737488351232/\∀x∈l,(e x).Sm:=by
 simp only[TV.Sm,ca]at h;refine⟨by have:=h.1;unfold reachBytes at this;omega,fun x d=>Ud.1 h.2 _ (List.mem_map.2 ⟨x,d,rfl⟩)⟩
end Go.Sf
namespace Go.Sf.Sc
open Go Go.Sf
def ZY(a:ns):Bool:=(decide (40<(a.qo.size:Int))||decide (25<(a.x3.length:Int)))||pc (fun i=>decide (40<((AA a.x3 i).size:Int))) 0 a.x3.length
theorem jp{a:ns}(h:ZY a=false):VR a:=by
 unfold ZY at h;simp only[Bool.or_eq_false_iff,decide_eq_false_iff_not,Bk]at h;refine⟨by omega,by omega,fun x d=>?_⟩
 grind [Be]
variable{t:AC}
theorem S6(T:(AQ t).Sm):∃b,KW t=some b/\(b=true->An t):=by
 have K:TV.Sms [_,_]:=T;obtain⟨w,N⟩:=GJ (e:=DK) K.1;unfold KW;by_cases hl:20<t.d3.length\/30<t.d5.length
 .rw[a6 (by simp;omega)]
  grind
 rw [ae (by simp;omega)];rcases Rl (f:=(fun(A:Int)(Q:Int)=>
 (idx t.d3 A).bind fun y=>
 (if(decide (30<(Aj (Q+(y.x4.length:Int)))))=true then some true else((idx t.d3 A).bind fun E=>
 some (decide (40<(E.qo.size:Int))))).bind fun F=>
 if F=true then
 some (Bv.ret false)
 else
 gp (Ep (ρ:=Bool) (fun(s2:Int)=>
 (idx t.d3 A).bind fun G=>
 if (decide (s2<(G.x4.length:Int)))=true then
 (idx t.d3 A).bind fun H=>
 (idx H.x4 s2).bind fun q=>
 if ((decide (40<(q.qo.size:Int)))||(decide (25<(q.x3.length:Int))))=true then
 some (.ret false)
 else
 gp (Ep (ρ:=Bool) (fun(x:Int)=>
 if (decide (x<(q.x3.length:Int)))=true then
 (idx q.x3 x).bind fun I=>
 if (decide (40<(I.size:Int)))=true then
 some (.ret false)
 else
 some (.next (Aj (x+1)))
 else
 some (.brk x)) 0) (fun x=>
 some (.next (Aj (s2+1)))) (fun U=>some (.ret U))
 else
 some (.brk s2)) 0) (fun s2=>
 some (.next (Aj (Q+(y.x4.length:Int))))) (fun V=>some (.ret V))))
  (fun i s=>0<=s/\s<=30/\∀j,0<=j->j<i->((AA t.d3 j).qo.size:Int)<=40/\(AA t.d3 j).x4.length<=30/\∀a∈(AA t.d3 j).x4,VR a) (fun _=>False) (fun r=>r=false) (a:=0) (b:=t.d3.length) (s:=0) (by omega) ⟨by omega,by omega,fun j z d=>by omega⟩ (fun i s B C W=>by
   have Z:=N _ (AM (l:=t.d3) B C);have L:TV.Sms [_,_,_,_]:=Z;obtain⟨ha,O⟩:=GJ (e:=FI) L.2.2.2.1;obtain⟨hI1,hI2,hI3⟩:=W;have hw:Aj (s+(AA t.d3 i).x4.length)=s+(AA t.d3 i).x4.length:=Ar (by omega) (by omega);simp only[AE B C,bs,hw,TQ];by_cases hc:30<s+(AA t.d3 i).x4.length\/40<((AA t.d3 i).qo.size:Int)
   .grind
   rw [ae (by simpa using hc)];rw[Ug (fun j=>ZY (AA (AA t.d3 i).x4 j)) false (b:=(AA t.d3 i).x4.length) (by omega)]
   .cases S:pc (fun j=>ZY (AA (AA t.d3 i).x4 j)) 0 (AA t.d3 i).x4.length
    .refine .inl ⟨_,rfl,by omega,by omega,fun j J D=>?_⟩
     grind [Be,jp,Bk]
    .exact .inr (.inr ⟨_,rfl,rfl⟩)
   .intro j J D;rw[a6 (by simpa using D),AE J D,bs];have hy:=O _ (AM (l:=(AA t.d3 i).x4) J D);have M:TV.Sms [_,_,_,_]:=hy;obtain⟨hm,_⟩:=GJ (e:=eS) M.2.2.2.1;unfold ZY;cases z:(decide (40<((AA (AA t.d3 i).x4 j).qo.size:Int))||decide (25<((AA (AA t.d3 i).x4 j).x3.length:Int)))
    .rw[ae (by decide),Ug (fun k=>decide (40<((AA (AA (AA t.d3 i).x4 j).x3 k).size:Int))) false (b:=(AA (AA t.d3 i).x4 j).x3.length) (by omega)]
     .cases pc (fun k=>decide (40<((AA (AA (AA t.d3 i).x4 j).x3 k).size:Int))) 0 (AA (AA t.d3 i).x4 j).x3.length
      .rw[Bool.or_false,Ar (show -9223372036854775808<=j+1 by omega) (by omega)];rfl
      .rfl
     .intro k u o;rw[a6 (by simpa using o),AE u o,bs,Ar (show -9223372036854775808<=k+1 by omega) (by omega),II]
     .rw[ae (by simp)]
    .rfl
   .rw[ae (by simp)])with⟨s',z,d⟩|⟨r,z,d⟩
 .rw[z];rcases d with d|d
  .rw[Br,BS (fun i=>decide (40<((AA t.d5 i).qo.size:Int))) false]
   .cases S:pc (fun i=>decide (40<((AA t.d5 i).qo.size:Int))) 0 t.d5.length
    .refine⟨true,rfl,fun _=>⟨by omega,by omega,fun n w=>?_,fun n w=>?_,fun n w=>?_,fun e he=>?_⟩⟩
     .obtain⟨k,u,o,rfl⟩:=Be w;exact(d.2.2 k u o).1
     .obtain⟨k,u,o,rfl⟩:=Be w;exact(d.2.2 k u o).2.1
     .obtain⟨k,u,o,rfl⟩:=Be w;exact(d.2.2 k u o).2.2
     .obtain⟨k,u,o,rfl⟩:=Be he;have:=Bk.1 S k u o;simpa using this
    .exact⟨false,rfl,fun h=>by cases h⟩
   .intro i B C _;rw[AE B C,bs,II]
  .exact d.elim
 .rw[z];subst d;exact⟨false,rfl,fun h=>by cases h⟩
theorem RE(p:ec):∃b,JC p=some b/\(b=true->NG p):=by
 refine ⟨_,rfl,fun h=>?_⟩;simp only[pq,zzX]at h;exact⟨by omega,by omega,by omega,by omega⟩
variable{a b:Int}
theorem Xb(h:0<=a)(d:a<=140737488351232)(j:0<=b)(f:b<=140737488351232):Aj (a+b)=a+b:=Ar (by omega) (by omega)
variable{m:d6}
theorem Xa(f:(Aq m).Sm):∃b,KX m 140=some b/\(b=true->du m):=by
 have d:TV.Sms [_,_]:=f;have j:=(GJ (e:=eI) d.1).1;have o:=(GJ (e:=eI) d.2.1).1;refine⟨_,rfl,fun h=>?_⟩;rw[Xb (by omega) j (by omega) o]at h;simp only[zzX]at h;exact⟨by omega,by omega⟩
theorem jw{m:BH}(f:(Fr m).Sm):∃b,Qh m 140=some b/\(b=true->Qs m):=by
 have d:TV.Sms [_,_]:=f;have j:=(GJ (e:=eI) d.1).1;have o:=(GJ (e:=eI) d.2.1).1;refine⟨_,rfl,fun h=>?_⟩;rw[Xb (by omega) j (by omega) o]at h;simp only[zzX]at h;exact⟨by omega,by omega⟩
variable{c:d7}
theorem cc(h:(AK c).Sm):(Aq c.Map).Sm/\(c.hT.length:Int)<=140737488351232/\∀k∈c.hT,(AK k).Sm:=by
 have f:TV.Sms [_,_,_,_,_,_,_,_,_]:=h;obtain⟨_,d,j,o,_⟩:=f;rw[Hu]at d;obtain⟨q,u⟩:=GJ d;exact⟨⟨j,o,trivial⟩,q,u⟩
theorem Zo:∀(N:Nat)(c:d7),SizeOf.sizeOf c<=N->(AK c).Sm->∀up:Int,0<=up->up<=1000->∃r,(∀n,N<=n->Cj n c up=some r)/\-1<=r/\r<=up-1/\(0<=r->Di c)
 |0,c,h,_,_,_,_=>by have:=EQ c;omega|N+1,c,h,hs,up,m0,m1=>by
  obtain ⟨O,Q,B⟩:=cc hs;obtain⟨S,E,T⟩:=RE c.ec;obtain⟨U,I,V⟩:=Xa O;have step:∀n,N+1<=n->∃m,n=m+1/\N<=m:=fun n d=>⟨n-1,by omega,by omega⟩;cases S
  .refine⟨-1,fun n d=>?_,by omega,by omega,fun h=>by omega⟩;obtain⟨n,rfl,_⟩:=step n d;rw[Cj,E];rfl
  cases U
  .refine⟨-1,fun n d=>?_,by omega,by omega,fun h=>by omega⟩;obtain⟨n,rfl,_⟩:=step n d;rw[Cj,E,bs,I];rfl
  have loop:∀(m:Nat)(k left:Int),0<=k->k+m=c.hT.length->-1<=left->left<=1000->∃f u,(∀n,N<=n->Lu (ρ:=Int) (fun(q:Int×Int)=>
    if ((decide (q.2<(c.hT.length:Int)))&&(decide (0<=q.1)))=true then
    (idx c.hT q.2).bind fun x=>
    (Cj n x q.1).bind fun y=>
    some (.next (y,Aj (q.2+1)))
    else
    some (.brk (q.1,q.2))) (left,k) (.inl (f,u)))/\-1<=f/\f<=left/\(0<=f->∀j,k<=j->j<c.hT.length->Di (AA c.hT j)):=by
   intro m
   induction m with
   |zero=>
    intro k left C K D l1;refine⟨left,k,fun n d=>.brk ?_,D,by omega,fun _ j z w=>by omega⟩;rw[ae (by simp;omega)]
   |succ m ih=>
    intro k left C K D l1;by_cases L:0<=left
    .have o:=AM (l:=c.hT) C (by omega);have:=FN o;obtain⟨r,W,Z,r3,r4⟩:=Zo N _ (by omega) (B _ o) left L l1;obtain⟨f,u,a1,F,J,G⟩:=ih (k+1) r (by omega) (by omega) Z (by omega);refine⟨f,u,fun n d=>.next (s':=(r,k+1)) ?_ (a1 n d),F,by omega,fun A j z w=>?_⟩
     .rw[a6 (by simp;omega),AE C (by omega),bs,W n d,bs,Ar (by omega) (by omega)]
     .by_cases M:j=k
      .subst M;exact r4 (by omega)
      .exact G A j (by omega) w
    .refine⟨left,k,fun n d=>.brk ?_,D,by omega,fun h=>by omega⟩;rw[ae (by simp;omega)]
  obtain ⟨f,u,a1,F,J,G⟩:=loop c.hT.length 0 (up-1) (by omega) (by omega) (by omega) (by omega);refine⟨f,fun n d=>?_,F,J,fun A=>.mk c (T rfl) (V rfl) (fun k B=>?_)⟩
  .obtain⟨n,rfl,H⟩:=step n d;rw[Cj,E,bs,I];simp only[bs,Bool.not_true,Bool.false_eq_true,if_false];rw[Ar (n:=up-1) (by omega) (by omega),(a1 n H).eq,Br]
  .obtain⟨j,z,w,rfl⟩:=Be B;exact G A j z w
theorem jv(d:(AK c).Sm):∃b,JE c=some b/\(b=true->Di c):=by
 obtain ⟨r,f,_,_,j⟩:=Zo (SizeOf.sizeOf c) c (az _) d 40 (by omega) (by omega);have e:Ox c 40=some r:=EZ (SizeOf.sizeOf c) f;unfold JE;rw[e];exact⟨_,rfl,fun h=>j (by simpa using h)⟩
theorem Il{b:Bool}{o:K1}{c:Bool}(h:o=some c):(if b=true then o.bind fun x=>some x else some false)=some (b&&c):=by
 subst h;cases b<;>rfl
variable{r:f0}
theorem jx(d:(Bc r).Sm):∃b,OO r=some b/\(b=true->Qt r):=by
 have f:TV.Sms [_,_,_,_,_,_,_,_,_,_,_,_,_,_,_,_,_,_,_,_,_,_,_,_,_]:=d;obtain⟨_,_,_,_,_,_,_,_,_,_,_,j,o,q,u,_,w,x,y,c4,c5,z,A,c8,c9,_⟩:=f;obtain⟨L,B,C⟩:=RE r.ne;obtain⟨M,D,E⟩:=RE r.fq;obtain⟨N,F,G⟩:=jw (m:=r.x5) ⟨j,o,trivial⟩;obtain⟨O,H,I⟩:=Xa (m:=r.tl) ⟨q,u,trivial⟩;obtain⟨Q,J,K⟩:=jv (c:=r.d7) ⟨w,x,y,c4,c5,z,A,c8,c9,trivial⟩;unfold OO;rw[Il B,bs,Il D,bs,Il F,bs,Il H,bs,Il J,bs];refine⟨_,rfl,fun h=>?_⟩;simp only[pq,zzX]at h;exact⟨h.1.1.1.1.1,C h.1.1.1.1.2,E h.1.1.1.2,G h.1.1.2,I h.1.2,K h.2⟩
end Go.Sf.Sc
