/- Plain lemmas: what the functions of the program and of the reference compute. -/
import Derived.Test.YtagcclhejecceaaGreatSfRead
import Derived.Test.YtagcclhejecceaaGreatFns
import Derived.Test.YtagcclhejecceaaGreatSfPl
set_option linter.all false
set_option maxRecDepth 100000
namespace Go.Sf
theorem Xa{ρ τ:Type}{d:Int->Option ρ}{g:ρ->τ}:∀(n:Nat)(a:Int),Ew (fun i=>(d i).map g) n a=(Ew d n a).map g
 |0,_=>rfl|n+1,a=>by
  rw [Ew,Ew];cases d a with
  |some r=>rfl|none=>exact Xa n (a+1)
variable{a b:Int}
theorem PI{ρ τ:Type}{d:Int->Option ρ}{g:ρ->τ}:fst (fun i=>(d i).map g) a b=(fst d a b).map g:=Xa _ _
theorem Vw{ρ:Type}{d:Int->Option ρ}{r:ρ}:∀{n:Nat}{a:Int},Ew d n a=some r->∃i,a<=i/\i<a+n/\d i=some r/\∀j,a<=j->j<i->d j=none
 |0,_,h=>by cases h
 |n+1,a,h=>by
  rw [Ew]at h;cases hd:d a with
  |some y=>
   grind
  |none=>
   rw [hd]at h;obtain⟨i,f,q,u,w⟩:=Vw h
   grind
theorem Db{ρ:Type}{d:Int->Option ρ}{r:ρ}(h:fst d a b=some r):∃i,a<=i/\i<b/\d i=some r/\∀j,a<=j->j<i->d j=none:=by
 obtain ⟨i,f,q,u,w⟩:=Vw h
 grind
def LM(p:Int->Bool)(s:ByteArray):Int:=(fst (fun i=>if p (bt s i)then none else some i) 0 s.size).getD s.size
theorem S3(p:Int->Bool)(s:ByteArray):0<=LM p s/\LM p s<=s.size/\(∀j,0<=j->j<LM p s->p (bt s j)=true)/\(LM p s<s.size->p (bt s (LM p s))=false):=by
 unfold LM;cases h:fst (fun i=>if p (bt s i)then none else some i) 0 s.size with
 |none=>
  rw [CW]at h
  grind
 |some r=>
  grind [Db,bt,Option.getD]
variable{s:ByteArray}
theorem Z9(h:s≠⟨#[]⟩):0<s.size:=by
 rcases Nat.eq_zero_or_pos s.size with f|f
 .exfalso;apply h;cases s with|mk d=>congr 1;exact Array.eq_empty_of_size_eq_zero f
 .exact f
end Go.Sf
namespace Go.Sf.Sc
open Go Go.Sf
def Fh(c:Int):Bool:=((decide (97<=c))&&(decide (c<=122)))||((decide (65<=c))&&(decide (c<=90)))
def wI(c:Int):Bool:=(decide (48<=c))&&(decide (c<=57))
def QD(c:Int):Bool:=Fh c||wI c||decide (c=95)
theorem Zm(c:Int):Kk c=some (Fh c):=rfl
theorem Wz(c:Int):Jx c=some (wI c):=rfl
theorem Zw(c:Int):KS c=some (Fh c):=rfl
theorem bz(c:Int):IK c=some (wI c):=rfl
theorem pM(c:Int):NP c=some (QD c):=by
 unfold NP QD;rw[Zm,bs,Wz]
 grind
variable{s:ByteArray}
theorem db(d:(s.size:Int)<=4611686018427387904){ok:Int->K1}{p:Int->Bool}(h:∀c,ok c=some (p c)):Gz s ok=some (LM p s):=by
 unfold Gz;rw[PS (c:=fun i=>(if p (bt s i)then none else some i).map .inl) (a:=0) (b:=s.size) (by omega)]
 .rw[PI];unfold LM;cases fst (fun i=>if p (bt s i)=true then none else some i) 0 s.size<;>rfl
 .grind[PP,bt,FY,At]
 .simp
def El(s:ByteArray):Bool:=decide (0<s.size)&&Fh (bt s 0)&&decide (s.size<=20)&&decide (LM QD s=s.size)
theorem Wx(l:List ByteArray)(v:ByteArray):∃k,slices_Index_string l v=some k/\(0<=k↔v∈l):=by
 unfold slices_Index_string;rw[BR (fun i=>if(v==AA l i)=true then some i else none)]
 .cases h:fst (fun i=>if(v==AA l i)=true then some i else none) 0 l.length with
  |none=>
   rw [CW]at h;refine⟨-1,rfl,by omega,fun q=>?_⟩
   grind [Be]
  |some k=>
   obtain ⟨i,d,f,u,_⟩:=Db h;have j:(v==AA l i)=true/\i=k:=by
    grind
   obtain ⟨j,rfl⟩:=j;refine⟨i,rfl,fun _=>?_,fun _=>d⟩
   grind [AJ]
 .intro i d f _;simp only[AD d f,bs];split<;>rfl
theorem Ot(l:List ByteArray)(v:ByteArray):slices_Contains_string l v=some (l.contains v):=by
 unfold slices_Contains_string;obtain⟨k,d,f⟩:=Wx l v
 grind
theorem pK(B:0<s.size)(y:(s.size:Int)<=4611686018427387904):∃k n e,JQ s=some (k,n,e)/\(((decide (e=0))&&(decide (k=1)))&&(decide (n=(s.size:Int))))=El s:=by
 have H:=S3 QD s;unfold JQ El;simp only[PP (Int.le_refl 0) (show(0:Int)<s.size by omega),bs,Zm,Wz,db y pM,db y Wz,B,decide_true,Bool.true_and];by_cases d:Fh (bt s 0)=true
 .rw[a6 d];by_cases f:20<LM QD s
  .refine⟨0,0,3,by simp[f],?_⟩;simp[d];intro G h;omega
  .refine⟨1,_,0,by rw[ae (by simpa using f)],?_⟩;simp only[d,decide_true,Bool.true_and];rw[Bool.eq_iff_iff];simp only[wq,pr];omega
 .rw[ae d];have j:Fh (bt s 0)=false:=by simpa using d
  rw [j,Bool.false_and,Bool.false_and];by_cases hd:wI (bt s 0)=true
  .rw[a6 hd];by_cases z:9<LM wI s
   .exact⟨0,0,3,by simp[z],by simp⟩
   .exact⟨2,_,0,by rw[ae (by simpa using z)],by simp⟩
  .rw[ae hd];by_cases A:bt s 0=34
   .have C:=YL (s:=s) (a:=1) (b:=s.size) (by omega) (by omega) (by omega);have q:∀c,LB c=some (((decide (32<=c))&&(decide (c<=126)))&&(!decide (c=34))):=fun _=>rfl;have D:=S3 (fun c=>((decide (32<=c))&&(decide (c<=126)))&&(!decide (c=34))) (s.extract (1:Int).toNat (s.size:Int).toNat);have u:∃n e,HU s=some (n,e):=by
     unfold HU;rw[MV (by omega) (by omega) (by omega),bs,db (by omega) q,bs];rw[At (by omega) (by omega)];by_cases he:1+LM (fun c=>((decide (32<=c))&&(decide (c<=126)))&&(!decide (c=34))) (s.extract (1:Int).toNat (s.size:Int).toNat)=s.size
     .refine⟨0,2,?_⟩;simp only[he,decide_true,if_true,bs]
     .simp only[he,decide_false,Bool.false_eq_true,if_false];rw[PP (by omega) (by omega)];simp only[bs];split
      .exact⟨_,_,rfl⟩
      .split
       .exact⟨_,_,rfl⟩
       .exact⟨_,_,rfl⟩
    obtain ⟨n,e,w⟩:=u;refine⟨3,n,e,by rw[a6 (by simpa using A),w];rfl,by simp⟩
   .rw[ae (by simpa using A)];have E:∃b,NO s=some b:=by
     unfold NO;by_cases h:2<=(s.size:Int)
     .rw[a6 (by simpa using h),MV (by omega) (by omega) h];simp only[bs,Ot];exact⟨_,rfl⟩
     .rw[ae (by simpa using h)];exact⟨_,rfl⟩
    obtain ⟨b,F⟩:=E;rw[F,bs];cases b
    .simp only[Bool.false_eq_true,if_false,strings_IndexByte,bs];split
     .exact⟨_,_,_,rfl,rfl⟩
     .exact⟨_,_,_,rfl,rfl⟩
    .exact⟨_,_,_,rfl,rfl⟩
theorem Ph(d:(s.size:Int)<=4611686018427387904):Dv s=some (El s):=by
 unfold Dv Jy;simp only[show decide ((1:Int)=3)=false from rfl,Bool.false_eq_true,if_false,bs];by_cases he:s=⟨#[]⟩
 .subst he;rfl
 grind [pK,Z9]
theorem px(u:(s.size:Int)<=4611686018427387904)(d:Bool):∃n,KU s 0 d=some n/\0<=n/\n<=s.size/\(d=false->n=LM QD s):=by
 have h:=S3 (fun c=>wI c||(!d&&(Fh c||decide (c=95)))) s;refine⟨LM (fun c=>wI c||(!d&&(Fh c||decide (c=95)))) s,?_,h.1,h.2.1,fun hd=>?_⟩
 .unfold KU;rw[PS (c:=fun i=>(if(wI (bt s i)||(!d&&(Fh (bt s i)||decide (bt s i=95))))then none else some i).map .inl) (a:=0) (b:=s.size) (by omega)]
  .rw[PI];unfold LM;cases fst (fun i=>if(wI (bt s i)||(!d&&(Fh (bt s i)||decide (bt s i=95))))=true then none else some i) 0 s.size<;>rfl
  .intro i q f _;have j:AY (0+i)=i:=by rw[At (by omega) (by omega)];omega
   simp only[j,f,decide_true,if_true,PP q f,bs,bz,Zw]
   grind [wI,bt,Fh,FY,At]
  .have j:AY (0+(s.size:Int))=s.size:=by rw[At (by omega) (by omega)];omega
   grind
 .subst hd;congr 1
  grind [QD,Fh,wI]
theorem iz(u:0<s.size)(w:(s.size:Int)<=4611686018427387904):∃n,HI s 0=some n/\(n=0\/(2<=n/\n<=s.size)):=by
 unfold HI;rw[PS (c:=fun i=>if decide (bt s i=34)=true then some (Sum.inr (i+1):Int ⊕ Int)else if(decide (bt s i<32)||decide (126<bt s i))=true then some (Sum.inr 0)else none) (a:=1) (b:=s.size) (by omega)]
 .cases h:fst (fun i=>if decide (bt s i=34)=true then some (Sum.inr (i+1):Int ⊕ Int)else if(decide (bt s i<32)||decide (126<bt s i))=true then some (Sum.inr 0)else none) 1 s.size with
  |none=>exact⟨0,rfl,.inl rfl⟩|some r=>
   obtain ⟨i,q,f,d,_⟩:=Db h;split at d
   .cases d;exact⟨_,rfl,.inr (by omega)⟩
   .split at d
    .cases d;exact⟨_,rfl,.inl rfl⟩
    .cases d
 .intro i q f _;have j:AY (0+i)=i:=by rw[At (by omega) (by omega)];omega
  simp only[j,f,decide_true,if_true,PP (show 0<=i by omega) f,bs,At (show -9223372036854775808<=i+1 by omega) (by omega)];split
  .rfl
  .split<;>rfl
 .have j:AY (0+(s.size:Int))=s.size:=by rw[At (by omega) (by omega)];omega
  grind
theorem tL(Q:0<s.size)(S:(s.size:Int)<=4611686018427387904):∃t n e,KT s 0=some (t,n,e)/\(((decide (e=0))&&(decide (n=(s.size:Int))))&&(decide (t.kp=1)))=El s:=by
 obtain ⟨m,N,w,y,O⟩:=px S (wI (bt s 0));unfold KT El;simp only[PP (Int.le_refl 0) (show(0:Int)<s.size by omega),bs,Zw,bz,Q,decide_true,Bool.true_and,N];have T:AY (0+m)=m:=by rw[At (by omega) (by omega)];omega
 by_cases G:Fh (bt s 0)=true
 .have hd:wI (bt s 0)=false:=by
   unfold Fh at G;unfold wI
   grind
  have Z:=O hd;subst Z;simp only[G,if_true,hd,Bool.false_eq_true,if_false,bs,T];by_cases u:20<LM QD s
  .refine⟨_,_,_,by rw[a6 (by simpa using u)],?_⟩
   grind
  .rw[ae (by simpa using u),MV (Int.le_refl _) w y];refine⟨_,_,_,rfl,?_⟩
   grind
 .have H:Fh (bt s 0)=false:=by simpa using G
  simp only[H,Bool.false_eq_true,if_false,bs,Bool.false_and,T];by_cases hd:wI (bt s 0)=true
  .simp only[hd,if_true,bs];by_cases U:9<m
   .exact⟨_,_,_,by rw[a6 (by simpa using U)],by simp⟩
   .rw[ae (by simpa using U),MV (Int.le_refl _) w y];exact⟨_,_,_,rfl,by simp⟩
  .have I:wI (bt s 0)=false:=by simpa using hd
   simp only[I,Bool.false_eq_true,if_false,bs];by_cases V:bt s 0=34
   .obtain⟨n,hn,z⟩:=iz Q S;rw[a6 (by simpa using V),hn,bs];rcases z with rfl|z
    .grind
    .rw[ae (by simp;omega)];split
     .grind
     .have e1:AY (0+1)=1:=by decide
      have e2:AY (0+n)=n:=by rw[At (by omega) (by omega)];omega
      rw [e1,e2,At (show -9223372036854775808<=n-1 by omega) (by omega),MV (by omega) (by omega) (by omega)];exact⟨_,_,_,rfl,by simp⟩
   .rw[ae (by simpa using V)];unfold N9;rw[bs];generalize hL:([(⟨#[45,62]⟩:ByteArray),(⟨#[60,61]⟩:ByteArray),(⟨#[62,61]⟩:ByteArray),(⟨#[61,61]⟩:ByteArray),(⟨#[33,61]⟩:ByteArray),(⟨#[123]⟩:ByteArray),(⟨#[125]⟩:ByteArray),(⟨#[40]⟩:ByteArray),(⟨#[41]⟩:ByteArray),(⟨#[91]⟩:ByteArray),(⟨#[93]⟩:ByteArray),(⟨#[44]⟩:ByteArray),(⟨#[59]⟩:ByteArray),(⟨#[58]⟩:ByteArray),(⟨#[61]⟩:ByteArray),(⟨#[43]⟩:ByteArray),(⟨#[45]⟩:ByteArray),(⟨#[42]⟩:ByteArray),(⟨#[60]⟩:ByteArray),(⟨#[62]⟩:ByteArray),(⟨#[33]⟩:ByteArray),(⟨#[38]⟩:ByteArray),(⟨#[124]⟩:ByteArray),(⟨#[46]⟩:ByteArray),(⟨#[63]⟩:ByteArray)]:List ByteArray)=L;have J:∀x∈L,x.size<=2:=by subst hL;decide
    rcases U6 (f:=(fun(h:Int)(W:Ft)=>
      (idx L h).bind fun B=>
      (if(decide ((AY (0+(B.size:Int)))<=(s.size:Int)))=true then((idx L h).bind fun C=>
      (xi s 0 (AY (0+(C.size:Int)))).bind fun D=>
      (idx L h).bind fun E=>
      some (D==E))else some false).bind fun F=>
      if F=true then
      (idx L h).bind fun j=>
      (idx L h).bind fun q=>
      some (Bx.ret (Ft.mk 4 j 0,(q.size:Int),(0:Int)))
      else
      some (Bx.next W))) (fun _ s=>True) (fun _=>True) (fun r=>r.1.kp=4) (a:=0) (b:=L.length) (s:=Ft.mk 0 (⟨#[]⟩:ByteArray) 0) (by omega) trivial (fun i t d A _=>by
      have hx:=J _ (AJ d A);have K:AY (0+((AA L i).size:Int))=(AA L i).size:=by rw[At (by omega) (by omega)];omega
      simp only[AD d A,bs,K];by_cases M:((AA L i).size:Int)<=s.size
      .rw[a6 (by simpa using M),MV (by omega) (by omega) M];simp only[bs];split
       .exact .inr (.inr ⟨_,rfl,rfl⟩)
       .exact .inl ⟨_,rfl,trivial⟩
      .rw[ae (by simpa using M)];simp only[bs];exact .inl ⟨_,rfl,trivial⟩)with⟨s',d,_⟩|⟨r,d,A⟩
    .rw[d];exact⟨_,_,_,rfl,by simp⟩
    .rw[d];exact⟨_,_,_,rfl,by simp[A]⟩
theorem Pj(d:(s.size:Int)<=4611686018427387904):Dq s=some (El s):=by
 unfold Dq Jm O5;simp only[show decide ((1:Int)=3)=false from rfl,Bool.false_eq_true,if_false,bs];by_cases he:s=⟨#[]⟩
 .subst he;rfl
 grind [tL,Z9]
end Go.Sf.Sc
namespace Go.Sf
variable{ρ β:Type}
def nz(e:Int):QQ:=if e=0 then none else some e
theorem KQ(e:Int):(if(!decide (e=0))=true then some (Bx.ret e)else some (Bx.next ()))=some (L6 (nz e)):=by grind[nz,L6]
theorem oJ(b:Bool)(r:ρ):(if b=true then some (Bx.ret r)else some (Bx.next ()))=some (L6 (if b=true then some r else none)):=by
 cases b<;>rfl
variable{kr:ρ->Option β}
theorem CX{σ:Type}{s:σ}{k:σ->Option β}:ek (some (.inl s)) k kr=k s:=rfl
theorem QM{σ:Type}{r:ρ}{k:σ->Option β}:ek (some (.inr r)) k kr=kr r:=rfl
theorem DZ(o:Option ρ)(k:Unit->Option β)(kr:ρ->Option β):ek (some (kh o)) k kr=match o with|none=>k ()|some r=>kr r:=by
 cases o<;>rfl
theorem CN(o:QQ):ek (some (kh o)) (fun _=>some 0) (fun v=>some v)=some (o.getD 0):=by
 cases o<;>rfl
variable{a b:Int}
theorem SY{c:Int->Int}(h:(fst (fun i=>nz (c i)) a b).getD 0=0):∀i,a<=i->i<b->c i=0:=by
 have:fst (fun i=>nz (c i)) a b=none:=by
  cases hf:fst (fun i=>nz (c i)) a b with
  |none=>rfl|some r=>
   grind [Option.getD,Db,nz]
 grind [CW,nz]
variable{e:Int}
theorem PK:nz e=none↔e=0:=by grind[nz]
theorem U9{α:Type}[Inhabited α]{l:List α}{f:α->K1}{p:α->Bool}(h:∀x∈l,f x=some (p x)):
  (ek (jj (ρ:=Int) (fun(q:Int)(_:Unit)=>(idx l q).bind fun d=>(f d).bind fun j=>if j=true then some (.ret q)else some (.next ())) 0 (l.length:Int) ()) (fun _=>some (-1)) (fun y=>some y))=
   some ((fst (fun i=>if p (AA l i)=true then some i else none) 0 l.length).getD (-1)):=by
 rw [BR (fun i=>if p (AA l i)=true then some i else none)]
 .rw[DZ];cases fst (fun i=>if p (AA l i)=true then some i else none) 0 l.length<;>rfl
 .intro i u w _;rw[AD u w,bs,h _ (AJ u w),bs,oJ]
theorem Xi{α:Type}[Inhabited α]{l:List α}{p:α->Bool}:decide (0<=(fst (fun i=>if p (AA l i)=true then some i else none) 0 l.length).getD (-1))=l.any p:=by
 rw [FX,kx];cases h:fst (fun i=>if p (AA l i)=true then some i else none) 0 l.length with
 |none=>
  grind [CW,Option.isSome,Option.isSome_eq_false_iff,Option.isNone_iff_eq_none,AA]
 |some k=>
  grind [Db,AA,Option.getD,Option.isSome,Option.isSome_iff_ne_none,CW]
theorem Dw{α:Type}[Inhabited α]{l:List α}{f:α->K1}{p:α->Bool}(h:∀x∈l,f x=some (p x)):
  ((ek (jj (ρ:=Int) (fun(q:Int)(_:Unit)=>(idx l q).bind fun d=>(f d).bind fun j=>if j=true then some (.ret q)else some (.next ())) 0 (l.length:Int) ()) (fun _=>some (-1)) (fun u=>some u)).bind fun w=>some (decide (0<=w)))=some (l.any p):=by
 rw [U9 h,bs,Xi]
end Go.Sf
namespace Go.Sf.Sc
open Go Go.Sf
instance:Inhabited kl:=⟨⟨⟨#[]⟩,0,0,[]⟩⟩
instance:Inhabited Bb:=⟨⟨⟨#[]⟩,0,false,[]⟩⟩
instance:Inhabited CZ:=⟨⟨⟨#[]⟩,0,0,0,0,0,0⟩⟩
instance:Inhabited Bw:=⟨⟨0,0,0⟩⟩
instance:Inhabited Cx:=⟨⟨0,0,⟨0,0⟩⟩⟩
instance:Inhabited Test:=⟨⟨0,⟨0,0⟩,⟨0,0⟩⟩⟩
instance:Inhabited d5:=⟨⟨0,[],⟨[],[]⟩,⟨⟨[],[]⟩,[],0,[]⟩⟩⟩
theorem aT{l:List Bb}{f:Bb->K1}{p:Bb->Bool}(h:∀x∈l,f x=some (p x)):BM l f=some (l.any p):=Dw h
variable{l:Fp}
theorem SM{f:Int->K1}{p:Int->Bool}(h:∀x∈l,f x=some (p x)):A2 l f=some (l.any p):=Dw h
theorem bG{l:List Bw}{f:Bw->K1}{p:Bw->Bool}(h:∀x∈l,f x=some (p x)):BL l f=some (l.any p):=Dw h
theorem Yx{l:List d5}{f:d5->K1}{p:d5->Bool}(h:∀x∈l,f x=some (p x)):Bu l f=some (l.any p):=Dw h
theorem Ue{l:List Bb}{p:Bb->Bool}:BM l (fun x=>some (p x))=some (l.any p):=Dw (fun _ _=>rfl)
theorem aU{l:List CZ}{p:CZ->Bool}:CI l (fun x=>some (p x))=some (l.any p):=Dw (fun _ _=>rfl)
theorem lu{l:List kl}{p:kl->Bool}:Cg l (fun x=>some (p x))=some (l.any p):=Dw (fun _ _=>rfl)
theorem Yy{p:Int->Bool}:A2 l (fun x=>some (p x))=some (l.any p):=Dw (fun _ _=>rfl)
theorem bH{l:List Bw}{p:Bw->Bool}:BL l (fun x=>some (p x))=some (l.any p):=Dw (fun _ _=>rfl)
theorem bI{l:List Cx}{p:Cx->Bool}:CR l (fun x=>some (p x))=some (l.any p):=Dw (fun _ _=>rfl)
theorem oa(l:Fp)(v:Int):slices_Index_int l v=some ((fst (fun i=>if decide (v=AA l i)=true then some i else none) 0 l.length).getD (-1)):=by
 have:=U9 (l:=l) (f:=fun x=>some (decide (v=x))) (p:=fun x=>decide (v=x)) (fun _ _=>rfl);unfold slices_Index_int
 grind
theorem LN(l:Fp)(v:Int):slices_Contains_int l v=some (l.any fun x=>decide (v=x)):=by grind[slices_Contains_int,oa,Xi]
theorem lz(l:a5)(v:Bool):DP l v=some (l.any fun x=>v==x):=by
 have:=Dw (l:=l) (f:=fun x=>some (v==x)) (p:=fun x=>v==x) (fun _ _=>rfl);unfold DP Ia
 grind
structure Q0(a:kl):Prop where
 name:(a.l4.size:Int)<=40
 names:a.sg.length<=25
 each:∀x∈a.sg,(x.size:Int)<=40
structure Aw(t:AC):Prop where
 d7:t.ca.length<=20
 ei:t.ci.length<=30
 name:∀n∈t.ca,(n.l4.size:Int)<=40
 yN:∀n∈t.ca,n.po.length<=30
 each:∀n∈t.ca,∀a∈n.po,Q0 a
 ename:∀e∈t.ci,(e.l4.size:Int)<=40
def par(t:AC)(i:Int):Int:=(AA t.ca i).pq
def Et(t:AC)(k:Int):Prop:=∀i,0<=i->i<k->-1<=par t i/\par t i<i
def B9(t:AC):Nat->Int->List kl
 |0,_=>[]|n+1,a=>if a<0 then[]else B9 t n (par t a)++(AA t.ca a).po
def BB(t:AC)(a:Int):List kl:=B9 t (a+1).toNat a
variable{t:AC}{a:Int}
theorem I9{n:Nat}(h:a<0):B9 t n a=[]:=by
 cases n with
 |zero=>rfl|succ n=>rw[B9,a6 h]
variable{k:Int}
theorem MH(d:Et t k):∀(n m:Nat)(a:Int),a<k->a<n->a<m->B9 t n a=B9 t m a
 |n,m,a,h,j,q=>by
  by_cases f:a<0
  .grind[I9]
  .cases n with
   |zero=>omega|succ n=>
    cases m with
    |zero=>omega|succ m=>
     rw [B9,B9,ae f,ae f];have:=d a (by omega) h;rw[MH d n m (par t a) (by omega) (by omega) (by omega)]
theorem Md(hf:Aw t)(f:k<=t.ca.length)(d:Et t k):∀(n:Nat)(a:Int),a<k->((B9 t n a).length:Int)<=30*n
 |0,_,_=>by simp[B9]|n+1,a,h=>by
  rw [B9];split
  .simp;omega
  .rename_i j;have q:=d a (by omega) h;have u:=Md hf f d n (par t a) (by omega);have w:=hf.yN _ (AJ (l:=t.ca) (show 0<=a by omega) (by omega))
   grind
theorem Vi(hf:Aw t)(h:k<=t.ca.length)(f:Et t k):∀(n:Nat)(a:Int),a<k->∀x∈B9 t n a,Q0 x
 |0,_,_=>by simp[B9]|n+1,a,j=>by
  rw [B9];split
  .simp
  .rename_i q;have u:=f a (by omega) j;intro x d;rcases List.mem_append.1 d with d|d
   .exact Vi hf h f n (par t a) (by omega) x d
   .exact hf.each _ (AJ (l:=t.ca) (show 0<=a by omega) (by omega)) x d
theorem Gh(hf:Aw t)(d:k<=t.ca.length)(f:Et t k)(h:a<k):(BB t a).length<=600:=by
 have:=Md hf d f (a+1).toNat a h;have:=hf.d7;unfold BB;omega
theorem Me(hf:Aw t)(d:k<=t.ca.length)(f:Et t k)(h:a<k):∀x∈BB t a,Q0 x:=Vi hf d f _ a h
theorem Zk(hf:Aw t)(j:k<=t.ca.length)(h:Et t k):∀(n:Nat)(a:Int),0<=a->a<k->a<n->DG n t a=some (B9 t n a)
 |0,_,_,_,_=>by omega|n+1,a,u,B,F=>by
  have C:=h a (by omega) B;have w:=Md hf j h n (par t a) (by omega);have D:=hf.yN _ (AJ (l:=t.ca) u (by omega));have E:=hf.d7;rw[DG,B9,ae (by omega),AD u (by omega)];simp only[bs];show((if decide (0<=par t a)=true then(DG n t (par t a)).bind fun f=>some f else some []).bind _)=_;have e:(if decide (0<=par t a)=true then(DG n t (par t a)).bind fun f=>some f else some [])=some (B9 t n (par t a)):=by
   by_cases q:0<=par t a
   .rw[a6 (by simpa using q),Zk hf j h n (par t a) q (by omega) (by omega)];rfl
   .rw[ae (by simpa using q),I9 (by omega)]
  have y:(B9 t n (par t a)).length+(AA t.ca a).po.length<=Aj:=by
   unfold Aj;have:((B9 t n (par t a)).length:Int)<=30*n:=w;have z:B9 t n (par t a)=B9 t 20 (par t a):=by
    by_cases d:par t a<0
    .rw[I9 d,I9 d]
    .exact MH h n 20 (par t a) (by omega) (by omega) (by omega)
   have A:=Md hf j h 20 (par t a) (by omega);rw[<-z]at A;omega
  rw [e,bs,Aq y];rfl
theorem bl(hf:Aw t)(d:k<=t.ca.length)(f:Et t k)(h:0<=a)(j:a<k):Ln t a=some (BB t a):=
 Fa (a+1).toNat fun n q=>by
  grind [Zk,BB,MH]
theorem Zt(hf:Aw t)(h:k<=t.ca.length)(f:Et t k):∀(n:Nat)(a:Int),-1<=a->a<k->a+1<n->Ds n t a=some (B9 t n a)
 |0,_,_,_,_=>by omega|n+1,a,B,w,C=>by
  rw [Ds,B9];by_cases d:a<0
  .grind
  .have y:=f a (by omega) w;have z:=hf.yN _ (AJ (l:=t.ca) (show 0<=a by omega) (by omega));have A:=hf.d7;rw[ae (by simpa using d),ae d,AD (by omega) (by omega)];simp only[bs];have j:B9 t n (par t a)=B9 t 20 (par t a):=by
    by_cases d:par t a<0
    .rw[I9 d,I9 d]
    .exact MH f n 20 (par t a) (by omega) (by omega) (by omega)
   have q:=Md hf h f 20 (par t a) (by omega);rw[<-j]at q;have u:(B9 t n (par t a)).length+(AA t.ca a).po.length<=Aj:=by unfold Aj;omega
   rw [show(AA t.ca a).pq=par t a from rfl,Zt hf h f n (par t a) (by omega) (by omega) (by omega),bs,Aq (by simp;unfold Aj;omega)];simp only[bs,List.nil_append];rw[Aq u];rfl
theorem bw(hf:Aw t)(d:k<=t.ca.length)(f:Et t k)(h:0<=a)(j:a<k):LV t a=some (BB t a):=
 Fa (a+2).toNat fun n q=>by
  grind [Zt,BB,MH]
end Go.Sf.Sc
namespace Go.Sf.Sc
open Go Go.Sf
def KP(l:List ByteArray):Int:=
 if (20:Int)<l.length then 3 else(fst (fun i=>if El (AA l i)=false then some 2 else if kx (fun j=>AA l j==AA l i) 0 i=true then some 5 else none) 0 l.length).getD 0
variable{b:Int}
theorem Y3{l:List ByteArray}{x:ByteArray}(d:0<=b)(f:b<=l.length):(l.take b.toNat).contains x=kx (fun j=>AA l j==x) 0 b:=by
 rw [List.contains_eq_any_beq,PZ d f]
 grind
theorem mV{l:List ByteArray}(q:∀x∈l,(x.size:Int)<=40):IT l=some (KP l):=by
 unfold IT KP;by_cases d:(20:Int)<l.length
 .grind
 .rw[ae (by simpa using d),ae d];rw[BR (fun i=>if El (AA l i)=false then some 2 else if kx (fun j=>AA l j==AA l i) 0 i=true then some 5 else none),CN];intro i f h _;have u:=q _ (AJ f h);rw[AD f h,bs,Ph (by omega),bs,MB f (by omega)];simp only[bs,Ot,Y3 f (show i<=l.length by omega)];cases El (AA l i)<;>cases kx (fun j=>AA l j==AA l i) 0 i<;>rfl
theorem mq{l:List ByteArray}(q:∀x∈l,(x.size:Int)<=40):IL l=some (KP l):=by
 unfold IL KP;by_cases d:(20:Int)<l.length
 .grind
 .rw[ae (by simpa using d),ae d];rw[BR (fun i=>if El (AA l i)=false then some 2 else if kx (fun j=>AA l j==AA l i) 0 i=true then some 5 else none),CN];intro i f h _;have u:=q _ (AJ f h);rw[AD f h,bs,Pj (by omega),bs,BJ (fun j=>AA l j==AA l i) 5]
  .cases El (AA l i)<;>cases kx (fun j=>AA l j==AA l i) 0 i<;>rfl
  grind [AD]
def Lp(all:List kl)(k:Int):Int:=
 let x:=AA all k
 if El x.l4=false then 2 else if kx (fun j=>(AA all j).l4==x.l4) 0 k=true then 5 else
 if x.sg.length=0 then(if -1000000<=x.xt/\x.xt<=x.wM/\x.wM<=1000000 then 0 else 6)else
 if KP x.sg≠0 then KP x.sg else if x.xt=0/\x.wM=x.sg.length-1 then 0 else 6
variable{k:Int}
theorem ai{d:List kl}(u:∀x∈d,Q0 x)(q:0<=k)(w:k<d.length):FK (AA d k) (d.take k.toNat)=some (Lp d k):=by
 have j:=u _ (AJ q w);have B:=j.name;unfold FK Lp;dsimp only;rw[Ph (by omega),bs,show(fun f=>Ib f (AA d k))=(fun f=>some (f.l4==(AA d k).l4))from rfl,lu,bs,PZ q (by omega),mV j.each,bs];have y:=j.names;have z:AY ((AA d k).sg.length-1)=(AA d k).sg.length-1:=At (by omega) (by omega);rw[z];have A:(AA d k).sg.length=0->KP (AA d k).sg=0:=fun h=>by rw[List.eq_nil_of_length_eq_zero h];rfl
 generalize KP (AA d k).sg=e at A|-;simp only[bs,wq,Bool.or_eq_true,pr,Bool.not_eq_true',decide_eq_false_iff_not,Bool.not_eq_false',Bool.or_eq_false_iff,Bool.and_eq_false_iff,ne_eq]
 repeat' (first|rfl|(exfalso;omega;done)|split)
 all_goals (first|rfl|(exfalso;omega)|omega|simp_all|(simp_all;omega))
theorem ak{x:kl}(d:Q0 x):FE x=some (
 if x.sg.length=0 then(if -1000000<=x.xt/\x.xt<=x.wM/\x.wM<=1000000 then 0 else 6)else
 if KP x.sg≠0 then KP x.sg else if x.xt=0/\x.wM=x.sg.length-1 then 0 else 6):=by
 have f:=d.names;have h:AY (x.sg.length-1)=x.sg.length-1:=At (by omega) (by omega);unfold FE Dd;simp only[bs,h,mq d.each];generalize KP x.sg=e;simp only[bs,wq,Bool.or_eq_true,pr,Bool.not_eq_true',decide_eq_false_iff_not,Bool.not_eq_false',Bool.or_eq_false_iff,Bool.and_eq_false_iff,ne_eq]
 repeat' (first|rfl|(exfalso;omega;done)|split)
 all_goals (first|rfl|(exfalso;omega)|omega|simp_all|(simp_all;omega))
def IY(t:AC)(i:Int):Int:=
 let n:=AA t.ca i
 if El n.l4=false then 2 else if kx (fun j=>(AA t.ca j).l4==n.l4) 0 i=true then 5 else
 if n.pq< -1\/i<=n.pq then 6 else if 4<n.po.length\/8<(BB t i).length then 3 else
 (fst (fun k=>nz (Lp (BB t i) k)) ((BB t i).length-n.po.length) (BB t i).length).getD 0
variable{t:AC}{i:Int}
theorem Vk(d:0<=i):(AA t.ca i).po.length<=(BB t i).length:=by
 unfold BB;rw[show(i+1).toNat=i.toNat+1 by omega,B9,ae (by omega),bk];omega
theorem Et.next(h:Et t i)(f:-1<=par t i)(q:par t i<i):Et t (i+1):=by
 intro j d u;by_cases w:j=i
 .grind
 .exact h j d (by omega)
theorem pL(hf:Aw t)(f:0<=i)(y:i<t.ca.length)(C:Et t i):JT t i=some (IY t i):=by
 have E:=hf.name _ (AJ f y);unfold JT IY;dsimp only;rw[AD f y,bs,Ph (by omega),bs,MB f (by omega),bs,show(fun u=>NR u (AA t.ca i))=(fun u=>some (u.l4==(AA t.ca i).l4))from rfl,Ue,bs,PZ f (by omega)];cases El (AA t.ca i).l4
 .rfl
 .cases kx (fun j=>(AA t.ca j).l4==(AA t.ca i).l4) 0 i
  .by_cases h:(AA t.ca i).pq< -1\/i<=(AA t.ca i).pq
   .rcases h with h|h<;>simp[h]
   .have d:Et t (i+1):=C.next (by unfold par;omega) (by unfold par;omega)
    have w:(decide ((AA t.ca i).pq< -1)||decide (i<=(AA t.ca i).pq))=false:=by
     rw [Bool.eq_false_iff];simpa using h
    rw [bl hf (k:=i+1) (by omega) d f (by omega),bs];have A:=Gh hf (k:=i+1) (a:=i) (by omega) d (by omega);have B:=Vk (t:=t) f;have q:=Me hf (k:=i+1) (a:=i) (by omega) d (by omega);rw[At (by omega) (by omega),BR (fun k=>nz (Lp (BB t i) k)),CN]
    .simp only[w,h,Bool.not_true,Bool.false_eq_true,if_false];simp only[bs,wq,Bool.or_eq_true,pr,Bool.not_eq_true',decide_eq_false_iff_not,Bool.not_eq_false',Bool.or_eq_false_iff,Bool.and_eq_false_iff,ne_eq]
     repeat' (first|rfl|(exfalso;omega;done)|split)
     all_goals (first|rfl|(exfalso;omega)|omega|simp_all|(simp_all;omega))
    .intro k D z _;rw[AD (by omega) z,bs,MB (by omega) (by omega),bs,ai q (by omega) z,bs,KQ]
  .rfl
theorem pw(hf:Aw t)(h:0<=i)(u:i<t.ca.length)(C:Et t i):JG t i=some (IY t i):=by
 have G:=hf.name _ (AJ h u);have H:=hf.d7;unfold JG IY Dd;dsimp only;rw[AD h u,bs,Pj (by omega),bs,BJ (fun j=>(AA t.ca j).l4==(AA t.ca i).l4) 5]
 .cases El (AA t.ca i).l4
  .rfl
  .cases kx (fun j=>(AA t.ca j).l4==(AA t.ca i).l4) 0 i
   .simp only[Bool.not_true,Bool.false_eq_true,if_false,CX,bs];rw[At (by omega) (by omega)];by_cases y:(AA t.ca i).pq< -1\/i<=(AA t.ca i).pq
    .rw[a6,ae (by decide),a6 y];simp;omega
    .have d:Et t (i+1):=C.next (by unfold par;omega) (by unfold par;omega)
     rw [ae (by simp;omega),ae (by decide),ae y];rw[bw hf (k:=i+1) (by omega) d h (by omega),bs];have z:=Gh hf (k:=i+1) (a:=i) (by omega) d (by omega);have A:=Vk (t:=t) h;have f:=Me hf (k:=i+1) (a:=i) (by omega) d (by omega);rw[At (by omega) (by omega)];rw[BR (fun k=>nz (Lp (BB t i) k)),CN]
     .simp only[bs,wq,Bool.or_eq_true,pr,Bool.not_eq_true',decide_eq_false_iff_not,Bool.not_eq_false',Bool.or_eq_false_iff,Bool.and_eq_false_iff,ne_eq]
      repeat' (first|rfl|(exfalso;omega;done)|split)
      all_goals (first|rfl|(exfalso;omega)|omega|simp_all|(simp_all;omega))
     .intro k w q _;have B:=f _ (AJ (show 0<=k by omega) q);have E:=B.name;simp only[AD (show 0<=k by omega) q,bs];rw[Pj (by omega),bs,BJ (fun j=>(AA (BB t i) j).l4==(AA (BB t i) k).l4) 5]
      .rw[ak B];simp only[bs,KQ];unfold Lp;dsimp only;cases El (AA (BB t i) k).l4
       .rfl
       .cases kx (fun j=>(AA (BB t i) j).l4==(AA (BB t i) k).l4) 0 k<;>rfl
      .intro j D F _;rw[AD D (by omega),bs];split<;>rfl
   .rfl
 .intro j w q _;rw[AD w (by omega),bs];split<;>rfl
def KJ(low high:Int):Bool:=((decide (0<=low))&&(decide (low<=40)))&&((decide (high=(-1)))||((decide (low<=high))&&(decide (high<=40))))
theorem mf(low high:Int):Jo low high=some (KJ low high):=by
 unfold Jo KJ Dd
 grind
def Kq(t:AC)(i:Int):Int:=
 let x:=AA t.ci i
 if El x.l4=false then 2 else if kx (fun j=>(AA t.ci j).l4==x.l4) 0 i=true then 5 else
 if (0<=x.kg/\x.kg<t.ca.length)/\(0<=x.To/\x.To<t.ca.length)/\KJ x.xH x.xf=true/\KJ x.yo x.xI=true then 0 else 6
theorem pA(hf:Aw t)(d:0<=i)(h:i<t.ci.length):JR t i=some (Kq t i):=by
 have q:=hf.ename _ (AJ d h);unfold JR Kq Kl;dsimp only;rw[AD d h,bs,Ph (by omega),bs,MB d (by omega),bs,show(fun f=>NQ f (AA t.ci i))=(fun f=>some (f.l4==(AA t.ci i).l4))from rfl,aU,bs,PZ d (by omega)];simp[show∀a b,Jh a b=some (KJ a b)from fun _ _=>rfl];generalize El (AA t.ci i).l4=b1;generalize kx (fun j=>(AA t.ci j).l4==(AA t.ci i).l4) 0 i=b2;generalize KJ (AA t.ci i).xH (AA t.ci i).xf=b3;generalize KJ (AA t.ci i).yo (AA t.ci i).xI=b4;cases b1
 .rfl
 grind
theorem pZ(hf:Aw t)(q:0<=i)(u:i<t.ci.length):JF t i=some (Kq t i):=by
 have y:=hf.ename _ (AJ q u);have z:=hf.d7;unfold JF Kq Dd;dsimp only;rw[AD q u,bs,Pj (by omega),bs,BJ (fun j=>(AA t.ci j).l4==(AA t.ci i).l4) 5]
 .simp only[At (show -9223372036854775808<=(t.ca.length:Int)-1 by omega) (by omega),mf,bs];generalize El (AA t.ci i).l4=b1;generalize kx (fun j=>(AA t.ci j).l4==(AA t.ci i).l4) 0 i=b2;generalize KJ (AA t.ci i).xH (AA t.ci i).xf=b3;generalize KJ (AA t.ci i).yo (AA t.ci i).xI=b4;cases b1
  .rfl
  .cases b2
   .cases b3<;>cases b4
    all_goals
     by_cases f:0<=(AA t.ci i).kg/\(AA t.ci i).kg<t.ca.length
     .have d:(AA t.ci i).kg<=(t.ca.length:Int)-1:=by omega
      by_cases w:0<=(AA t.ci i).To/\(AA t.ci i).To<t.ca.length
      .have h:(AA t.ci i).To<=(t.ca.length:Int)-1:=by omega
       simp [f,w,d,h,CX]
      .have:(decide (0<=(AA t.ci i).To)&&decide ((AA t.ci i).To<=(t.ca.length:Int)-1))=false:=by rw[Bool.eq_false_iff];simp;omega
       simp [f,w,d,this,CX]
     .have:(decide (0<=(AA t.ci i).kg)&&decide ((AA t.ci i).kg<=(t.ca.length:Int)-1))=false:=by rw[Bool.eq_false_iff];simp;omega
      simp [f,this,CX]
   .rfl
 grind [AD]
def A8(t:AC):ByteArray×Int:=
 if t.ca.length=0 then(⟨#[]⟩,7)else if 12<t.ca.length\/20<t.ci.length then(⟨#[]⟩,3)else
 match fst (fun i=>(nz (IY t i)).map fun e=>((AA t.ca i).l4,e)) 0 t.ca.length with
 |some r=>r|none=>(fst (fun i=>(nz (Kq t i)).map fun e=>((AA t.ci i).l4,e)) 0 t.ci.length).getD (⟨#[]⟩,0)
theorem fJ(h:IY t i=0):-1<=par t i/\par t i<i:=by grind[IY,par,AA]
theorem Nj{α β:Type}{o:Option α}{g:α->β}:o.map g=none↔o=none:=by cases o<;>simp
theorem VE(h:∀j,0<=j->j<i->IY t j=0):Et t i:=fun j d f=>fJ (h j d f)
theorem UG{ρ:Type}(e:Int)(n:ByteArray):(if(!decide (e=0))=true then some (Bx.ret (n,e))else some (Bx.next ()))=some (L6 ((nz e).map fun e=>(n,e))):=by grind[nz,L6]
theorem Np(hf:Aw t):DY t=some (A8 t):=by
 unfold DY A8;rw[BR (fun i=>(nz (IY t i)).map fun e=>((AA t.ca i).l4,e)),DZ]
 .rw[BR (fun i=>(nz (Kq t i)).map fun e=>((AA t.ci i).l4,e)),DZ]
  .cases fst (fun i=>(nz (IY t i)).map fun e=>((AA t.ca i).l4,e)) 0 t.ca.length<;>cases fst (fun i=>(nz (Kq t i)).map fun e=>((AA t.ci i).l4,e)) 0 t.ci.length
   all_goals dsimp only
   all_goals try simp only[Option.getD]
   all_goals
    simp only[bs,wq,Bool.or_eq_true,pr,Bool.not_eq_true',decide_eq_false_iff_not,Bool.not_eq_false',Bool.or_eq_false_iff,Bool.and_eq_false_iff,ne_eq]
    repeat' (first|rfl|(exfalso;omega;done)|split)
    all_goals (first|rfl|(exfalso;omega)|omega|simp_all|(simp_all;omega))
  .intro i d f _;rw[AD d f,bs,pA hf d f,bs];exact UG (ρ:=Unit) _ _
 .intro i d f u;have w:Et t i:=VE fun j h q=>PK.1 (Nj.1 (u j h q));rw[AD d f,bs,pL hf d f w,bs];exact UG (ρ:=Unit) _ _
theorem PO(hf:Aw t):Dy t=some (A8 t):=by
 unfold Dy A8;rw[BR (fun i=>(nz (IY t i)).map fun e=>((AA t.ca i).l4,e)),DZ]
 .rw[BR (fun i=>(nz (Kq t i)).map fun e=>((AA t.ci i).l4,e)),DZ]
  .cases fst (fun i=>(nz (IY t i)).map fun e=>((AA t.ca i).l4,e)) 0 t.ca.length<;>cases fst (fun i=>(nz (Kq t i)).map fun e=>((AA t.ci i).l4,e)) 0 t.ci.length
   all_goals dsimp only
   all_goals try simp only[Option.getD]
   all_goals
    simp only[bs,wq,Bool.or_eq_true,pr,Bool.not_eq_true',decide_eq_false_iff_not,Bool.not_eq_false',Bool.or_eq_false_iff,Bool.and_eq_false_iff,ne_eq]
    repeat' (first|rfl|(exfalso;omega;done)|split)
    all_goals (first|rfl|(exfalso;omega)|omega|simp_all|(simp_all;omega))
  .intro i d f _;simp only[pZ hf d f,AD d f,bs];exact UG (ρ:=Unit) _ _
 .intro i d f u;have w:Et t i:=VE fun j h q=>PK.1 (Nj.1 (u j h q));simp only[pw hf d f w,AD d f,bs];exact UG (ρ:=Unit) _ _
end Go.Sf.Sc
namespace Go.Sf.Sc
open Go Go.Sf
theorem Hf{α:Type}{c:Bool}{a b:α}:(if c=true then some a else some b)=some (if c=true then a else b):=by cases c<;>rfl
def N3(n:Int):Bool:=(decide (0<=n))&&(decide (n<=99))
def ST(e:Bw)(n:Int):Bool:=N3 e.j4&&(decide (0<=e.kg)&&decide (e.kg<n))&&(decide (0<=e.To)&&decide (e.To<n))
def B4(g:c9):Int:=
 if 40<g.ca.length\/80<g.ci.length then 3 else if(g.ca.any fun n=>!N3 n)=true then 6 else if(g.ci.any fun e=>!ST e g.ca.length)=true then 6 else 0
structure Di(g:c9):Prop where
 d7:g.ca.length<=40
 ei:g.ci.length<=80
 kind:∀n∈g.ca,0<=n/\n<=99
 fit:∀e∈g.ci,(0<=e.j4/\e.j4<=99)/\(0<=e.kg/\e.kg<g.ca.length)/\(0<=e.To/\e.To<g.ca.length)
variable{g:c9}
theorem DX(h:B4 g=0):Di g:=by
 unfold B4 at h;split at h
 .cases h
 .split at h
  .cases h
  .split at h
   .cases h
   .rename_i q f d;refine⟨by omega,by omega,fun n j=>?_,fun e he=>?_⟩
    .rw[Bool.not_eq_true,List.any_eq_false]at f
     grind [N3]
    .rw[Bool.not_eq_true,List.any_eq_false]at d;have:=d e he;simp[ST,N3,Bool.not_eq_true',wq]at this;omega
theorem pF{e:Bw}{n:Nat}(h:n<=40):Mp e n=some (ST e n):=by
 unfold Mp HE ST N3;simp only[bs,At (show -9223372036854775808<=(n:Int)-1 by omega) (by omega)];have d:decide (e.kg<=(n:Int)-1)=decide (e.kg<n):=by rw[decide_eq_decide];omega
 have f:decide (e.To<=(n:Int)-1)=decide (e.To<n):=by rw[decide_eq_decide];omega
 rw [d,f];generalize (decide (0<=e.j4)&&decide (e.j4<=99))=b1;generalize (decide (0<=e.kg)&&decide (e.kg<n))=b2;cases b1<;>cases b2<;>simp
theorem MO(g:c9):DK g=some (B4 g):=by
 unfold DK B4;by_cases h:40<g.ca.length\/80<g.ci.length
 .grind
 .rw[ae (by simp;omega),ae h,show Ls=(fun n=>some (!N3 n))from rfl,Yy,bG (p:=fun e=>!ST e g.ca.length) (fun e _=>by
   grind [Lt,pF])]
  grind
theorem MP(g:c9):Dz g=some (B4 g):=by
 unfold Dz B4;by_cases h:40<g.ca.length\/80<g.ci.length
 .grind
 .rw[ae (by simp;omega),ae h,FX,FX,BJ (fun i=>!N3 (AA g.ca i)) 6]
  .rw[BJ (fun i=>!ST (AA g.ci i) g.ca.length) 6]
   .cases kx (fun i=>!N3 (AA g.ca i)) 0 g.ca.length
    .cases kx (fun i=>!ST (AA g.ci i) g.ca.length) 0 g.ci.length<;>rfl
    .rfl
   .intro i d f _;rw[AD d f,bs];unfold OA ST;simp[show∀n,Ky n=some (N3 n)from fun _=>rfl]
    grind
  grind [AD,Ky,AA,N3]
def Cw(t:AC)(g:c9):Bool:=!(g.ca.any fun n=>decide (t.ca.length<=n))&&!(g.ci.any fun e=>decide (t.ci.length<=e.j4))
variable{t:AC}
theorem Hb(d:Di g)(h:Cw t g=true):(∀n∈g.ca,0<=n/\n<t.ca.length)/\∀e∈g.ci,0<=e.j4/\e.j4<t.ci.length:=by
 unfold Cw at h;simp[Bool.not_eq_true',wq]at h;refine⟨fun n f=>?_,fun e he=>?_⟩
 .have:=h.1 n f;have:=d.kind n f;omega
 .have:=h.2 e he;have:=d.fit e he;omega
theorem ma(t:AC)(g:c9):JK t g=some (Cw t g):=by grind[JK,Cw,ND,Yy,NE,Bw,bH]
theorem W8(h:Di g):Gv t g=some (Cw t g):=by
 unfold Gv Cw;rw[FX,FX,BJ (fun i=>decide (t.ca.length<=AA g.ca i)) false]
 .rw[BJ (fun i=>decide (t.ci.length<=(AA g.ci i).j4)) false]
  .cases kx (fun i=>decide (t.ca.length<=AA g.ca i)) 0 g.ca.length
   .cases kx (fun i=>decide (t.ci.length<=(AA g.ci i).j4)) 0 g.ci.length<;>rfl
   .rfl
  .intro i d f _;have:=(h.fit _ (AJ d f)).1.1;simp[AD d f]
   grind
 .intro i d f _;have:=(h.kind _ (AJ d f)).1;simp[AD d f]
  grind
structure FL(t:AC):Prop where
 d7:t.ca.length<=12
 ei:t.ci.length<=20
 node:∀i:Int,0<=i->i<t.ca.length->IY t i=0
 edge:∀i:Int,0<=i->i<t.ci.length->Kq t i=0
theorem Cs(h:(A8 t).2=0):FL t:=by
 unfold A8 at h;split at h
 .cases h
 .split at h
  .cases h
  .rename_i w y;have f:∀i:Int,0<=i->i<t.ca.length->IY t i=0:=by
    grind [Db,nz,PK,Nj,CW]
   have he:∀i:Int,0<=i->i<t.ci.length->Kq t i=0:=by
    split at h
    .rename_i r d;obtain⟨i,q,u,j,_⟩:=Db d;rw[f i q u]at j;cases j
    .cases d:fst (fun i=>(nz (Kq t i)).map fun e=>((AA t.ci i).l4,e)) 0 t.ci.length with
     |some r=>
      grind [Db,nz]
     |none=>
      grind [PK,Nj,CW]
   exact ⟨by omega,by omega,f,he⟩
theorem FL.par(h:FL t):Et t t.ca.length:=VE h.node
variable{i:Int}
theorem FL.ends(h:FL t)(d:0<=i)(f:i<t.ci.length):(0<=(AA t.ci i).kg/\(AA t.ci i).kg<t.ca.length)/\(0<=(AA t.ci i).To/\(AA t.ci i).To<t.ca.length):=by
 have:=h.edge i d f
 grind [Kq]
def J5(t:AC)(a:Int):Bool:=decide (0<=a)&&decide (a<t.ca.length)
variable{a:Int}
theorem MJ:J5 t a=true↔0<=a/\a<t.ca.length:=by unfold J5;simp
theorem W4(hf:Aw t)(l:Fp):F1 t l=some (if(A8 t).2≠0 then(A8 t).2 else if(l.all (J5 t))=true then 0 else 6):=by
 unfold F1;rw[Np hf,bs,SM (p:=fun a=>!J5 t a) (fun a _=>by unfold L3 J5;rw[show decide (a<0)=!decide (0<=a)from by rw[<-decide_not,decide_eq_decide];omega,show decide ((t.ca.length:Int)<=a)=!decide (a<t.ca.length)from by rw[<-decide_not,decide_eq_decide];omega,Bool.not_and]),bs]
 grind
theorem b6(hf:Aw t)(a b:Int):Gt t a b=some (if(A8 t).2≠0 then(A8 t).2 else if(J5 t a&&J5 t b)=true then 0 else 6):=by
 have d:=hf.d7;have e:∀a,decide (a<=(t.ca.length:Int)-1)=decide (a<(t.ca.length:Int)):=fun a=>by rw[decide_eq_decide];omega
 unfold Gt Dd;rw[PO hf,bs]
 grind [At,A8,J5]
theorem gE{α:Type}[Inhabited α]{l:List α}(d:0<=i)(f:i<l.length):BF l i (AA l i)=l:=by grind[BF,AA,List.getElem?_eq_getElem,List.set_getElem_self]
theorem DF{α:Type}[Inhabited α]{l:List α}(d:0<=i)(f:i<l.length):l.take (i+1).toNat=l.take i.toNat++[AA l i]:=by
 unfold AA;rw[show(i+1).toNat=i.toNat+1 by omega,List.take_add_one,List.getD_eq_getElem?_getD,List.getElem?_eq_getElem (by omega)];rfl
theorem Bs{α:Type}{l:List α}(h:l.length<=Aj):Ai [] l=some l:=by grind[Aq]
def F6(t:AC)(a:Int):List kl×Int:=if(A8 t).2≠0 then([],(A8 t).2)else if J5 t a=true then(BB t a,0)else([],6)
theorem Qk(hf:Aw t)(a:Int):EX t a=some (F6 t a):=by
 unfold EX F6;rw[W4 hf,bs];by_cases h:(A8 t).2=0
 .have j:=Cs h;have e:[a].all (J5 t)=J5 t a:=by simp
  rw [e];simp[h];cases hi:J5 t a
  .rfl
  .rw[a6 rfl,a6 rfl];have q:=MJ.1 hi;have F:=Gh hf (Int.le_refl _) j.par q.2;have D:=Me hf (Int.le_refl _) j.par q.2;rw[ae (by decide),bl hf (Int.le_refl _) j.par q.1 q.2,bs];obtain⟨s',E,rfl⟩:=Pd (f:=(fun(u:Int)(w:List kl)=>
 (idx w u).bind fun y=>
 (slices_Clone_string y.sg).bind fun z=>
 (idx w u).bind fun d=>
 some (BF w u (kl.mk d.l4 d.xt d.wM z)))) (fun _ s=>s=BB t a) (a:=0) (b:=(BB t a).length) (s:=BB t a) (by omega) rfl (fun i s A B C=>by
     subst C;have:=(D _ (AJ A B)).names;refine⟨BB t a,?_,rfl⟩;unfold slices_Clone_string;rw[AD A B,bs,Bs (by unfold Aj;omega),bs,bs];congr 1;exact gE A B)
   rw [E];rfl
 .simp[h,not_false_eq_true,decide_false]
theorem Ql(hf:Aw t)(a:Int):Dx t a=some (F6 t a):=by
 unfold Dx F6;rw[b6 hf,bs];by_cases h:(A8 t).2=0
 .have d:=Cs h;rw[Bool.and_self];simp only[h,ne_eq,not_true_eq_false,if_false];cases hi:J5 t a
  .rfl
  .rw[a6 rfl,a6 rfl];have f:=MJ.1 hi;have w:=Gh hf (Int.le_refl _) d.par f.2;have u:=Me hf (Int.le_refl _) d.par f.2;rw[ae (by decide),bw hf (Int.le_refl _) d.par f.1 f.2,bs];rw[B0 (fun i=>(BB t a).take i.toNat) (by omega) (by simp)]
   .rw[bs,Int.toNat_natCast,List.take_length]
   .intro i j q;have:=(u _ (AJ j q)).names;rw[AD j q,bs,Bs (by unfold Aj;omega),bs,Aq (by rw[bq];simp;unfold Aj;omega),DF j q];rfl
 grind
end Go.Sf.Sc
namespace Go.Sf.Sc
open Go Go.Sf
def Ou(t:AC):Nat->Int->Fp
 |0,_=>[]|n+1,a=>if a<0 then[]else a::Ou t n (par t a)
theorem cP(t:AC):∀(n:Nat)(a:Int),(Ou t n a).length<=n
 |0,_=>by simp[Ou]|n+1,a=>by
  rw [Ou];split
  .simp
  .have:=cP t n (par t a);simp;omega
def xe(t:AC)(a b:Int):Bool:=(Ou t (a+1).toNat a).any fun x=>decide (b=x)
variable{t:AC}
theorem bd(f:t.ca.length<=12)(u:Et t t.ca.length):∀(n:Nat)(a:Int)(l:Fp),a<t.ca.length->a<n->l.length+n<=1000 ->
  ∃x,NY (ρ:=Fp) (fun(d:Int×Fp)=>
 if (decide (0<=d.1))=true then
 (Ai d.2 [d.1]).bind fun h=>
 (idx t.ca d.1).bind fun j=>
 some (.next (j.pq,h))
 else
 some (.brk (d.1,d.2))) (a,l) (.inl (x,l++Ou t n a))
 |0,a,l,q,w,_=>by
  refine ⟨a,.brk ?_⟩
  grind [Ou]
 |n+1,a,l,q,w,B=>by
  by_cases y:a<0
  .refine⟨a,.brk ?_⟩
   grind [Ou]
  .have z:=u a (by omega) q;obtain⟨x,A⟩:=bd f u n (par t a) (l++[a]) (by omega) (by omega) (by simp;omega);refine⟨x,.next (s':=(par t a,l++[a])) ?_ ?_⟩
   .rw[a6 (by simp;omega),Aq (by simp;unfold Aj;omega),bs,AD (by omega) q];rfl
   grind [Ou,par]
variable{a b:Int}
theorem im(h:FL t)(q:0<=a)(d:a<t.ca.length):JS t a b=some (xe t a b):=by
 have f:=h.d7;obtain⟨x,j⟩:=bd f h.par (a+1).toNat a [] d (by omega) (by simp;omega);have u:=cP t (a+1).toNat a;unfold JS LE;rw[j.eq,CX]
 grind [slices_Reverse_int,Aj,LN,xe]
theorem VH(d:Et t t.ca.length)(j:0<=b):∀(n m:Nat)(a:Int),-1<=a->a<t.ca.length->a+1<n->a<m->DT n t a b=some ((Ou t m a).any fun x=>decide (b=x))
 |0,_,_,_,_,_,_=>by omega|n+1,m,a,u,h,w,y=>by
  rw [DT];by_cases f:a<0
  .rw[ae (by simp;omega),ae (by simp;omega)];cases m<;>simp[Ou,f]
  .cases m with
   |zero=>omega|succ m=>
    have q:=d a (by omega) h;rw[Ou,ae f,List.any_cons,a6 (show decide (0<=a)=true by simp;omega),AD (by omega) h];simp;rw[show(AA t.ca a).pq=par t a from rfl,VH d j n m (par t a) (by omega) (by omega) (by omega) (by omega)]
    grind
theorem UO(h:FL t)(j:0<=a)(d:a<t.ca.length)(f:0<=b):FC t a b=some (xe t a b):=
 Fa (a+2).toNat fun n q=>VH h.par f n (a+1).toNat a (by omega) d (by omega) (by omega)
def RF(t:AC)(e f g:Int):Bool:=
 decide ((A8 t).2=0)&&(J5 t f&&J5 t g)&&(decide (0<=e)&&decide (e<t.ci.length))&&(xe t f (AA t.ci e).kg&&xe t g (AA t.ci e).To)
theorem Zi(hf:Aw t)(e f g:Int):Gq t e f g=some (RF t e f g):=by
 unfold Gq RF;rw[W4 hf,bs,show[f,g].all (J5 t)=(J5 t f&&J5 t g)by simp];by_cases h:(A8 t).2=0
 .simp only[h,ne_eq,not_true_eq_false,if_false];have d:=Cs h;cases hi:(J5 t f&&J5 t g)
  .rfl
  .rw[pr,MJ,MJ]at hi;by_cases he:0<=e/\e<t.ci.length
   .rw[ae (by simp;omega),AD he.1 he.2];simp[im d hi.1.1 hi.1.2,im d hi.2.1 hi.2.2,he.1,he.2,decide_true]
    grind
   grind
 .simp[h]
theorem Zs(hf:Aw t)(e f g:Int):FD t e f g=some (RF t e f g):=by
 have w:=hf.ei;unfold FD RF Dd;rw[b6 hf,bs];by_cases h:(A8 t).2=0
 .simp only[h,ne_eq,not_true_eq_false,if_false];have d:=Cs h;cases hi:(J5 t f&&J5 t g)
  .rfl
  .rw[pr,MJ,MJ]at hi;rw[At (by omega) (by omega)];simp only[bs];by_cases he:0<=e/\e<t.ci.length
   .have j:=d.ends he.1 he.2;have q:e<=(t.ci.length:Int)-1:=by omega
    rw [ae (by simp),bs,ae (by simp[he.1,q]),AD he.1 he.2];simp[UO d hi.1.1 hi.1.2 j.1.1,UO d hi.2.1 hi.2.2 j.2.1,he.1,he.2,decide_true];cases xe t f (AA t.ci e).kg<;>rfl
   .have:(decide (0<=e)&&decide (e<t.ci.length))=false:=by rw[Bool.eq_false_iff];simpa using he
    have u:(decide (0<=e)&&decide (e<=(t.ci.length:Int)-1))=false:=by rw[Bool.eq_false_iff];simp;omega
    rw [this,u];simp
 .simp[h]
def NM(n:Int)(x:hV):Bool:=(((decide ((-1)<=x.Var))&&(decide (x.Var<n)))&&(decide ((-1000000)<=x.Add)))&&(decide (x.Add<=1000000))
def NN(n:Int)(x:Test):Int:=if¬x.kp=1/\¬x.kp=2 then 1 else if(NM n x.gt&&NM n x.ec)=true then 0 else 6
def Jg(n:Int)(l:List Test):Int:=if n<0\/12<n then 6 else if 40<l.length then 3 else(fst (fun i=>nz (NN n (AA l i))) 0 l.length).getD 0
theorem pQ(n:Int)(x:Test):Ih n x=some (NN n x):=by
 unfold Ih NN;simp only[show∀n x,Hz n x=some (NM n x)from fun _ _=>rfl,bs];generalize NM n x.gt=b1;generalize NM n x.ec=b2;cases b1<;>cases b2
 all_goals
  simp only[bs,wq,Bool.or_eq_true,pr,Bool.not_eq_true',decide_eq_false_iff_not,Bool.not_eq_false',Bool.or_eq_false_iff,Bool.and_eq_false_iff,ne_eq]
  repeat' (first|rfl|(exfalso;omega;done)|split)
  all_goals (first|rfl|(exfalso;omega)|omega|simp_all|(simp_all;omega))
theorem jA(n:Int)(x:hV):Io n x=some (if NM n x=true then 0 else 6):=by
 unfold Io NM;simp only[bs,wq,Bool.or_eq_true,pr,Bool.not_eq_true',decide_eq_false_iff_not,Bool.not_eq_false',Bool.or_eq_false_iff,Bool.and_eq_false_iff,ne_eq]
 repeat' (first|rfl|(exfalso;omega;done)|split)
 all_goals (first|rfl|(exfalso;omega)|omega|simp_all|(simp_all;omega))
theorem p5(n:Int)(x:Test):OY n x=some (NN n x):=by
 unfold OY NN;simp only[jA,bs];generalize NM n x.gt=b1;generalize NM n x.ec=b2;cases b1<;>cases b2
 all_goals
  simp only[bs,wq,Bool.or_eq_true,pr,Bool.not_eq_true',decide_eq_false_iff_not,Bool.not_eq_false',Bool.or_eq_false_iff,Bool.and_eq_false_iff,ne_eq]
  repeat' (first|rfl|(exfalso;omega;done)|split)
  all_goals (first|rfl|(exfalso;omega)|omega|simp_all|(simp_all;omega))
theorem mZ(n:Int)(l:List Test):HD n l=some (Jg n l):=by
 unfold HD Jg;rw[BR (fun i=>nz (NN n (AA l i))),CN]
 .simp only[bs,wq,Bool.or_eq_true,pr,Bool.not_eq_true',decide_eq_false_iff_not,Bool.not_eq_false',Bool.or_eq_false_iff,Bool.and_eq_false_iff,ne_eq]
  repeat' (first|rfl|(exfalso;omega;done)|split)
  all_goals (first|rfl|(exfalso;omega)|omega|simp_all|(simp_all;omega))
 .intro i d f _;rw[AD d f,bs,pQ,bs,KQ]
theorem mz(n:Int)(l:List Test):LU n l=some (Jg n l):=by
 unfold LU Jg;rw[BR (fun i=>nz (NN n (AA l i))),CN]
 .simp only[bs,wq,Bool.or_eq_true,pr,Bool.not_eq_true',decide_eq_false_iff_not,Bool.not_eq_false',Bool.or_eq_false_iff,Bool.and_eq_false_iff,ne_eq]
  repeat' (first|rfl|(exfalso;omega;done)|split)
  all_goals (first|rfl|(exfalso;omega)|omega|simp_all|(simp_all;omega))
 .intro i d f _;rw[AD d f,bs,p5,bs,KQ]
def Q4(t:AC)(p:d6)(node ix:Int):kl×Bool:=
 if node<0\/p.c9.ca.length<=node then(default,false)else
 let l:=(F6 t (AA p.c9.ca node)).1
 if ix<0\/l.length<=ix then(default,false)else(AA l ix,true)
theorem Vj(hf:Aw t)(a:Int):(F6 t a).1.length<=600/\((F6 t a).2≠0->(F6 t a).1=[]):=by
 unfold F6;split
 .simp
 .rename_i h;have d:=Cs (t:=t) (by omega);split
  .rename_i hi;exact⟨Gh hf (Int.le_refl _) d.par (MJ.1 hi).2,by simp⟩
  .simp
variable{p:d6}
theorem mP(hf:Aw t)(d:Di p.c9)(s:Cx):Fc t p s=some (Q4 t p s.r0 s.kl):=by
 have j:=d.d7;unfold Fc Q4 Cf;dsimp only;rw[At (by omega) (by omega),bs];by_cases h:s.r0<0\/p.c9.ca.length<=s.r0
 .rw[a6 (by simp;omega),a6 h];rfl
 .rw[ae (by simp;omega),ae h,AD (by omega) (by omega),bs,Qk hf,bs];have q:=(Vj hf (AA p.c9.ca s.r0)).1;rw[At (by omega) (by omega),bs];by_cases f:s.kl<0\/(F6 t (AA p.c9.ca s.r0)).1.length<=s.kl
  .rw[a6 (by simp;omega),a6 f];rfl
  grind [AD]
theorem me(hf:Aw t)(node d:Int):M6 t p node d=some (Q4 t p node d):=by
 unfold M6 Q4;dsimp only;by_cases h:node<0\/p.c9.ca.length<=node
 .rw[a6 (by simp;omega),a6 h];rfl
 .rw[ae (by simp;omega),ae h,AD (by omega) (by omega),bs,Ql hf,bs];have j:=(Vj hf (AA p.c9.ca node)).2;by_cases f:d<0\/(F6 t (AA p.c9.ca node)).1.length<=d
  .rw[a6 (by simp;omega),a6 f];rfl
  grind [F6,AA,AD]
end Go.Sf.Sc
namespace Go.Sf
variable{σ ρ:Type}
def gI(s:σ)(o:Option ρ):Bx σ ρ:=match o with
 |none=>.next s|some r=>.ret r
def lc(s:σ)(o:Option ρ):σ ⊕ ρ:=match o with
 |none=>.inl s|some r=>.inr r
theorem ZM{f:Int->σ->Option (Bx σ ρ)}(g:Int->σ)(c:Int->Option ρ):∀(n:Nat)(a:Int),
  (∀i,a<=i->i<a+n->(∀j,a<=j->j<i->c j=none)->f i (g i)=some (gI (g (i+1)) (c i)))->wo f n a (g a)=some (lc (g (a+n)) (Ew c n a))
 |0,a,_=>by simp[wo,Ew,lc]|n+1,a,h=>by
  have u:=h a (Int.le_refl _) (by omega) (fun j d q=>by omega);rw[E9,u,Ew];cases A:c a with
  |some r=>rfl|none=>
   simp only[gI];rw[show a+((n+1:Nat):Int)=a+1+n by omega];refine ZM g c n (a+1) (fun i d q w=>h i (by omega) (by omega) (fun j y z=>?_))
   grind
variable{a b:Int}
theorem Ks{f:Int->σ->Option (Bx σ ρ)}(g:Int->σ)(c:Int->Option ρ){s:σ}(d:a<=b)(q:s=g a)(h:∀i,a<=i->i<b->(∀j,a<=j->j<i->c j=none)->f i (g i)=some (gI (g (i+1)) (c i))):jj f a b s=some (lc (g b) (fst c a b)):=by
 subst q;unfold jj fst;have:=ZM g c (b-a).toNat a (fun i u y w=>h i u (by omega) w)
 grind
variable{α:Type}
variable{e:Int}
theorem DQ{X:QQ}{Y:Int}(h:e=0->X=some Y):(if(!decide (e=0))=true then some e else X)=some (if e≠0 then e else Y):=by grind
variable{v:α}{X:Option α}{Y:α}
theorem D1(h:e=0->X=some Y):(if(!decide (e=0))=true then some v else X)=some (if e≠0 then v else Y):=by grind
variable{P:Prop}
theorem OP[Decidable P]{b:Bool}(d:b=true↔P)(h:¬P->X=some Y):(if b=true then some v else X)=some (if P then v else Y):=by grind
theorem SO{b:Bool}(h:b=true->X=some Y):(if(!b)=true then some v else X)=some (if b=false then v else Y):=by grind
theorem XH{b:Bool}(h:b=false->X=some Y):(if b=true then some v else X)=some (if b=true then v else Y):=by grind
end Go.Sf
namespace Go.Sf.Sc
open Go Go.Sf
def Q7(t:AC)(p:d6)(s:Cx):Bool:=!(Q4 t p s.r0 s.kl).2||decide (s.hV.Var< -1)||decide (p.fd<=s.hV.Var)||(decide (s.hV.Add< -1000000)||decide (1000000<s.hV.Add))
def J0(p:d6)(v:Int):Bool:=p.ej.any fun s=>decide (s.hV.Var=v)
def Hh(t:AC)(p:d6):Int:=
 if (A8 t).2≠0 then(A8 t).2 else if B4 p.c9≠0 then B4 p.c9 else if Cw t p.c9=false then 13 else
 if p.fd<0\/12<p.fd then 6 else if 10<p.ej.length\/10<p.mo.length then 3 else
 if (p.ej.any (Q7 t p))=true then 6 else if Jg p.fd p.mo≠0 then Jg p.fd p.mo else
 if kx (fun v=>!J0 p v) 0 p.fd=true then 9 else 0
def JU(p:d6)(i:Int):a5:=(List.range p.fd.toNat).map fun(v:Nat)=>(p.ej.take i.toNat).any fun s=>decide (s.hV.Var=(v:Int))
variable{p:d6}
theorem eM:JU p 0=List.replicate p.fd.toNat false:=by
 unfold JU;refine List.ext_getElem (by simp) (fun n d f=>by simp)
theorem gf(p:d6)(i:Int):(JU p i).length=p.fd.toNat:=by simp[JU]
variable{i:Int}
theorem gh(d:0<=i)(f:i<p.ej.length)(hv:0<=(AA p.ej i).hV.Var):BF (JU p i) (AA p.ej i).hV.Var true=JU p (i+1):=by
 unfold BF;refine List.ext_getElem (by simp[JU]) (fun n h j=>?_);simp[JU,DF d f]
 grind
theorem eK(d:0<=i)(f:i<p.ej.length)(hv:(AA p.ej i).hV.Var<0):JU p i=JU p (i+1):=by
 refine List.ext_getElem (by simp[JU]) (fun n h j=>?_);simp[JU,DF d f]
 grind
theorem gc(p:d6):((JU p p.ej.length).any fun x=>false==x)=kx (fun v=>!J0 p v) 0 p.fd:=by
 rw [Bool.eq_iff_iff,List.any_eq_true,D9];simp only[JU,Int.toNat_natCast,List.take_length,List.mem_map,List.mem_range];constructor
 .rintro⟨x,⟨v,hv,rfl⟩,d⟩;refine⟨v,by omega,by omega,?_⟩
  grind [J0]
 .rintro⟨v,f,h,d⟩;refine⟨_,⟨v.toNat,by omega,rfl⟩,?_⟩
  grind [Int.toNat_of_nonneg,J0]
theorem bV{α ρ:Type}[Inhabited α]{l:List α}{q:α->Bool}{v:ρ}:fst (fun i=>if q (AA l i)=true then some v else none) 0 l.length=if l.any q=true then some v else none:=by
 rw [MI,FX]
variable{t:AC}
theorem WJ(hf:Aw t)(p:d6):DI t p=some (Hh t p):=by
 unfold DI Hh;rw[Np hf,bs,MO,bs];refine DQ fun H=>DQ fun F=>?_;have z:=DX F;have e:((A2 p.c9.ca (fun d=>Ga d t)).bind fun q=>
   (if q=true then some true else((BL p.c9.ci (fun d=>Gb d t)).bind fun u=>some (u))))=some (!Cw t p.c9):=by
  unfold Cw;rw[show(fun d=>Ga d t)=(fun(n:Int)=>some (decide (t.ca.length<=n)))from rfl,Yy,show(fun d=>Gb d t)=(fun(e:Bw)=>some (decide (t.ci.length<=e.j4)))from rfl,bH];simp only[bs];cases p.c9.ca.any fun n=>decide (t.ca.length<=n)<;>simp
 rw [<-Option.bind_assoc,e,bs];refine SO fun G=>?_;unfold Cf;simp only[bs];refine OP (by simp;try omega) fun hv=>OP (by simp;try omega) fun I=>?_;unfold GO;rw[a6 (by omega),bs,<-eM,At (show -9223372036854775808<=p.fd-1 by omega) (by omega),Ks (JU p) (fun i=>if Q7 t p (AA p.ej i)=true then some 6 else none) (by omega) rfl,bV]
 .cases f:p.ej.any (Q7 t p)
  .simp only[Bool.false_eq_true,if_false,lc,CX,mZ,bs,lz,gc];by_cases h:Jg p.fd p.mo=0
   .simp[h];cases kx (fun v=>!J0 p v) 0 p.fd<;>rfl
   .simp[h]
  .rfl
 .intro i w y _;rw[AD w y,bs,mP hf z,bs];unfold Q7;by_cases f:(Q4 t p (AA p.ej i).r0 (AA p.ej i).kl).2=true
  .by_cases E:(AA p.ej i).hV.Var< -1\/p.fd<=(AA p.ej i).hV.Var
   .have A:(decide (-1<=(AA p.ej i).hV.Var)&&decide ((AA p.ej i).hV.Var<=p.fd-1))=false:=by rw[Bool.eq_false_iff];simp;omega
    have B:(decide ((AA p.ej i).hV.Var< -1)||decide (p.fd<=(AA p.ej i).hV.Var))=true:=by simp;omega
    rw [f,A,Bool.or_assoc (!true),B];rfl
   .have A:(decide (-1<=(AA p.ej i).hV.Var)&&decide ((AA p.ej i).hV.Var<=p.fd-1))=true:=by simp;omega
    have B:(decide ((AA p.ej i).hV.Var< -1)||decide (p.fd<=(AA p.ej i).hV.Var))=false:=by rw[Bool.eq_false_iff];simp;omega
    rw [f,A,Bool.or_assoc (!true),B];by_cases J:(AA p.ej i).hV.Add< -1000000\/1000000<(AA p.ej i).hV.Add
    .have C:(decide (-1000000<=(AA p.ej i).hV.Add)&&decide ((AA p.ej i).hV.Add<=1000000))=false:=by rw[Bool.eq_false_iff];simp;omega
     have D:(decide ((AA p.ej i).hV.Add< -1000000)||decide (1000000<(AA p.ej i).hV.Add))=true:=by simp;omega
     rw [C,D];rfl
    .have C:(decide (-1000000<=(AA p.ej i).hV.Add)&&decide ((AA p.ej i).hV.Add<=1000000))=true:=by simp;omega
     have D:(decide ((AA p.ej i).hV.Add< -1000000)||decide (1000000<(AA p.ej i).hV.Add))=false:=by rw[Bool.eq_false_iff];simp;omega
     rw [C,D];by_cases j:0<=(AA p.ej i).hV.Var
     .simp[j,decide_true];rw[AD j (by rw[gf];omega),bs,gh w y j];rfl
     .simp[j,decide_false];rw[eK w y (by omega)];rfl
  .rw[Bool.not_eq_true]at f;rw[f];rfl
theorem lM(p:d6)(v:Int):KY p v=some (J0 p v):=by
 unfold KY J0;rw[BJ (fun i=>decide ((AA p.ej i).hV.Var=v)) true,FX]
 .cases kx (fun i=>decide ((AA p.ej i).hV.Var=v)) 0 p.ej.length<;>rfl
 .intro i d f _;rw[AD d f,bs,Hf]
theorem Yf(hf:Aw t)(p:d6):Gw t p=some (Hh t p):=by
 unfold Gw Hh;rw[PO hf,bs,MP,bs];refine DQ fun w=>DQ fun q=>?_;have f:=DX q;rw[W8 f,bs];refine SO fun u=>OP (by simp;try omega) fun hv=>OP (by simp;try omega) fun y=>?_;rw[BJ (fun i=>Q7 t p (AA p.ej i)) 6,<-FX]
 .cases z:p.ej.any (Q7 t p)
  .simp only[Bool.false_eq_true,if_false,CX,mz,bs];by_cases d:Jg p.fd p.mo=0
   .simp only[d];rw[BJ (fun v=>!J0 p v) 9]
    .cases kx (fun v=>!J0 p v) 0 p.fd<;>rfl
    .intro i h j _;rw[lM,bs,Hf]
   .simp[d]
  .rfl
 .intro i h j _;rw[AD h j,bs,me hf,bs];unfold Q7 Lv
  grind
def OK(t:AC)(p:d6)(i:Int):Int:=
 let s:=AA p.ej i
 if s.r0<0\/p.c9.ca.length<=s.r0 then 6 else
 let l:=(F6 t (AA p.c9.ca s.r0)).1
 if ((((((decide (s.kl<0))||(decide ((l.length:Int)<=s.kl)))||(decide (s.hV.Var<(-1))))||(decide (p.fd<=s.hV.Var)))||(decide (s.hV.Add<(-1000000))))||(decide (1000000<s.hV.Add)))=true then 6 else
 if kx (fun j=>(decide ((AA p.ej j).r0=s.r0))&&(decide ((AA p.ej j).kl=s.kl))) 0 i=true then 5 else 0
theorem pN(hf:Aw t)(r:gp)(d:0<=i)(f:i<r.ec.ej.length):Kg t r i=some (OK t r.ec i):=by
 unfold Kg OK;dsimp only;rw[AD d f,bs];refine OP (by simp) fun h=>?_;rw[AD (by omega) (by omega),bs,Qk hf,bs,MB d (by omega),bs,
  show (fun j=>OI j (AA r.ec.ej i))=(fun y=>some ((decide (y.r0=(AA r.ec.ej i).r0))&&(decide (y.kl=(AA r.ec.ej i).kl))))from rfl,bI,bs,PZ d (by omega)]
 grind
theorem py(hf:Aw t)(p:d6)(d:0<=i)(f:i<p.ej.length):M8 t p i=some (OK t p i):=by
 unfold M8 OK;dsimp only;rw[AD d f,bs];refine OP (by simp) fun h=>?_;rw[AD (by omega) (by omega),bs,Ql hf,bs,
  BJ (fun j=>(decide ((AA p.ej j).r0=(AA p.ej i).r0))&&(decide ((AA p.ej j).kl=(AA p.ej i).kl))) 5]
 .refine XH fun _=>?_;cases kx (fun j=>(decide ((AA p.ej j).r0=(AA p.ej i).r0))&&(decide ((AA p.ej j).kl=(AA p.ej i).kl))) 0 i<;>rfl
 grind [AD,AA,kl]
def Je(t:AC)(r:gp):Int:=
 if B4 r.ec.c9≠0 then B4 r.ec.c9 else if Cw t r.ec.c9=false then 13 else
 if r.ec.fd≠r.gt.fd\/0<r.ec.mo.length then 1 else if 10<r.ec.ej.length then 3 else
 (fst (fun i=>nz (OK t r.ec i)) 0 r.ec.ej.length).getD 0
theorem mW(hf:Aw t)(r:gp):JJ t r=some (Je t r):=by
 unfold JJ Je;rw[MO,bs,ma,bs,BR (fun i=>nz (OK t r.ec i)),CN]
 .grind
 grind [pN,KQ]
theorem ms(hf:Aw t)(r:gp):Lg t r=some (Je t r):=by
 unfold Lg Je;rw[MP,bs];refine DQ fun d=>?_;rw[W8 (DX d),bs,BR (fun i=>nz (OK t r.ec i)),CN]
 .grind
 grind [py,KQ]
end Go.Sf.Sc
namespace Go.Sf
variable{a b:Int}
theorem cz{ρ:Type}{c d:Int->Option ρ}(h:∀i,c i=d i):fst c a b=fst d a b:=by rw[funext h]
def DC(l:Fp)(v:Int):Int:=(fst (fun i=>if decide (v=AA l i)=true then some i else none) 0 l.length).getD (-1)
variable{l:Fp}
theorem Il{v:Int}(h:v∈l):0<=DC l v/\DC l v<l.length/\AA l (DC l v)=v/\∀j,0<=j->j<DC l v->AA l j≠v:=by
 unfold DC;cases hf:fst (fun i=>if decide (v=AA l i)=true then some i else none) 0 l.length with
 |none=>
  grind [Be,CW]
 |some k=>
  grind [Db,AA]
variable{R:Int->Int->Prop}
theorem Jl(h:l.Pairwise R){i j:Int}(d:0<=i)(f:i<j)(q:j<l.length):R (AA l i) (AA l j):=by grind[List.pairwise_iff_getElem,AA,List.getElem?_eq_getElem]
theorem Uc(h:∀i j:Int,0<=i->i<j->j<l.length->R (AA l i) (AA l j)):l.Pairwise R:=by
 refine List.pairwise_iff_getElem.2 (fun i j d f q=>?_);have:=h i j (by omega) (by omega) (by omega);unfold AA at this
 grind
theorem U1(w:l.Pairwise (·<·)){v:Int}(h:v∈l):(l.countP (fun x=>decide (x<v)):Int)=DC l v:=by
 obtain ⟨y,z,q,_⟩:=Il h;generalize F:DC l v=k at y z q;have e:l=l.take k.toNat++l.drop k.toNat:=(List.take_append_drop _ _).symm;have A:(l.take k.toNat).countP (fun x=>decide (x<v))=k.toNat:=by
  rw [List.countP_eq_length.2 (fun x d=>?_),bq]
  .omega
  .obtain⟨i,D,E,rfl⟩:=Be d;rw[bq]at E;rw[PH (by omega),wq,<-q];exact Jl w D (by omega) z
 have B:(l.drop k.toNat).countP (fun x=>decide (x<v))=0:=by
  rw [List.countP_eq_zero];intro x d;obtain⟨n,u⟩:=List.getElem?_of_mem d;rw[List.getElem?_drop]at u;have C:=(List.getElem?_eq_some_iff.1 u).1;have f:x=AA l (k+n):=by
   unfold AA;rw[List.getD_eq_getElem?_getD,show(k+(n:Int)).toNat=k.toNat+n by omega,u];rfl
  rw [wq,f,<-q];by_cases j:n=0
  .subst j;simp
  .have:=Jl w y (show k<k+(n:Int)by omega) (by omega);omega
 rw [e,List.countP_append,A,B];omega
end Go.Sf
namespace Go.Sf.Sc
open Go Go.Sf
theorem mC(l:Fp)(n:Int):(ek (jj (ρ:=Int) (fun(h:Int)(_:Unit)=>
 (idx l h).bind fun d=>
 if (decide (d=n))=true then
 some (.ret h)
 else
 some (.next ())) 0 (l.length:Int) ()) (fun _=>
 some (-1)) (fun j=>some j))=some (DC l n):=by
 have:=U9 (l:=l) (f:=fun x=>some (decide (x=n))) (p:=fun x=>decide (x=n)) (fun _ _=>rfl);simp only[bs]at this;rw[this];unfold DC;congr 2;exact cz fun i=>by simp[eq_comm]
theorem pv(l:Fp)(v:Int):IN l v=some (DC l v):=mC l v
def hasB(l:Fp)(v:Int):Bool:=l.any fun x=>decide (v=x)
variable{l:Fp}
theorem CH{v:Int}:hasB l v=true↔v∈l:=by
 unfold hasB
 grind
theorem Ni(l:Fp)(n:Int):(ek (jj (ρ:=Bool) (fun(f:Int)(_:Unit)=>
 (idx l f).bind fun d=>
 if (decide (d=n))=true then
 some (.ret true)
 else
 some (.next ())) 0 (l.length:Int) ()) (fun _=>
 some false) (fun h=>some h))=some (hasB l n):=by
 unfold hasB;rw[BJ (fun i=>decide (n=AA l i)) true,FX]
 .cases kx (fun i=>decide (n=AA l i)) 0 l.length<;>rfl
 .intro i j q _;rw[AD j q,bs,Hf];simp[eq_comm]
theorem ml(l:Fp)(v:Int):QH l v=some (hasB l v):=Ni l v
theorem mj(l:Fp)(v:Int):Oc l v=some (hasB l v):=Ni l v
def Pa(l:Fp)(n:Int):Int:=(fst (fun i=>if AA l i<0\/n<=AA l i then some 6 else if 0<i/\AA l i<=AA l (i-1)then some 12 else none) 0 l.length).getD 0
theorem lC(u:l.length<=1000)(n:Int):Hq l n=some (Pa l n):=by
 unfold Hq Pa;rw[BR (fun i=>if AA l i<0\/n<=AA l i then some 6 else if 0<i/\AA l i<=AA l (i-1)then some 12 else none),CN];intro i j q _;rw[AD j q,bs];by_cases h:AA l i<0\/n<=AA l i
 .rw[a6 (by simpa using h),a6 h];rfl
 .rw[ae (by simpa using h),ae h];by_cases d:0<i
  .rw[a6 (by simpa using d),At (by omega) (by omega),AD (by omega) (by omega),bs,bs];by_cases f:AA l i<=AA l (i-1)
   .rw[a6 (by simpa using f),a6 ⟨d,f⟩];rfl
   .rw[ae (by simpa using f),ae (fun h=>f h.2)];rfl
  .rw[ae (by simpa using d),bs,ae (by decide),ae (fun h=>d h.1)];rfl
theorem lJ(w:l.length<=1000)(n:Int):GQ l n=some (Pa l n):=by
 unfold GQ Pa;rw[BR (fun i=>if AA l i<0\/n<=AA l i then some 6 else if 0<i/\AA l i<=AA l (i-1)then some 12 else none),CN];intro i j q _;rw[AD j q];simp only[bs];by_cases h:AA l i<0\/n<=AA l i
 .have:(if decide (AA l i<0)=true then some true else some (decide (n<=AA l i)))=some true:=by
   rcases h with h|h
   .simp[h]
   .by_cases u:AA l i<0<;>simp[h,u]
  rw [this,bs,a6 rfl,a6 h];rfl
 .have:(if decide (AA l i<0)=true then some true else some (decide (n<=AA l i)))=some false:=by
   rw [ae (by simp;omega),decide_eq_false (by omega)]
  rw [this,bs,ae (by decide),ae h];by_cases d:0<i
  .rw[a6 (by simpa using d),At (by omega) (by omega),AD (by omega) (by omega),bs,bs];by_cases f:AA l i<=AA l (i-1)
   .rw[a6 (by simpa using f),a6 ⟨d,f⟩];rfl
   .rw[ae (by simpa using f),ae (fun h=>f h.2)];rfl
  .rw[ae (by simpa using d),bs,ae (by decide),ae (fun h=>d h.1)];rfl
variable{a b:Int}
theorem P1{c:Int->QQ}(d:∀i,c i≠some 0)(h:(fst c a b).getD 0=0):∀i,a<=i->i<b->c i=none:=by
 have:fst c a b=none:=by
  cases hf:fst c a b with
  |none=>rfl|some r=>
   grind [Option.getD,Db]
 exact CW.1 this
variable{n:Int}
theorem SK(h:Pa l n=0):(∀x∈l,0<=x/\x<n)/\l.Pairwise (·<·):=by
 have z:=P1 (c:=fun i=>if AA l i<0\/n<=AA l i then some 6 else if 0<i/\AA l i<=AA l (i-1)then some 12 else none) (fun i=>by
  split
  .simp
  .split<;>simp) h
 have f:∀i:Int,0<=i->i<l.length->(0<=AA l i/\AA l i<n)/\(0<i->AA l (i-1)<AA l i):=by
  intro i q y;have:=z i q y;split at this
  .cases this
  .split at this
   .cases this
   .omega
 refine ⟨fun x u=>?_,Uc (fun i j q d w=>?_)⟩
 .obtain⟨i,A,B,rfl⟩:=Be u;exact(f i A B).1
 .obtain⟨k,C⟩:∃k:Nat,j=i+1+k:=⟨(j-i-1).toNat,by omega⟩;subst C;clear d
  induction k with
  |zero=>
   have:=(f (i+1) (by omega) (by omega)).2 (by omega);rw[show i+1-1=i by omega]at this;simpa using this
  |succ k D=>
   have a:=D (by omega);have b:=(f (i+1+((k+1:Nat):Int)) (by omega) w).2 (by omega);rw[show i+1+((k+1:Nat):Int)-1=i+1+k by omega]at b;omega
theorem RY(f:l.length<=1000)(d:l.Pairwise (·<·))(v:Int):slices_BinarySearch_int l v=some (((l.countP (fun x=>decide (x<v)):Nat):Int),hasB l v):=by
 unfold slices_BinarySearch_int;rw[a6 ⟨by unfold Aj;omega,d.imp (fun h=>by omega)⟩];congr 2;rw[Bool.eq_iff_iff,CH,List.contains_iff_mem]
def N7(g:c9)(p:Bh):Int:=
 if Pa p.ca g.ca.length≠0 then Pa p.ca g.ca.length else if Pa p.ci g.ci.length≠0 then Pa p.ci g.ci.length else
 (fst (fun i=>if(hasB p.ca (AA g.ci (AA p.ci i)).kg&&hasB p.ca (AA g.ci (AA p.ci i)).To)=true then none else some 14) 0 p.ci.length).getD 0
structure Ym(g:c9)(p:Bh):Prop where
 d7:(∀x∈p.ca,0<=x/\x<g.ca.length)/\p.ca.Pairwise (·<·)
 ei:(∀x∈p.ci,0<=x/\x<g.ci.length)/\p.ci.Pairwise (·<·)
 ends:∀x∈p.ci,(AA g.ci x).kg∈p.ca/\(AA g.ci x).To∈p.ca
variable{g:c9}
theorem WM{p:Bh}(h:N7 g p=0):Ym g p:=by
 unfold N7 at h;split at h
 .omega
 .split at h
  .omega
  .rename_i u w;refine⟨SK (by omega),SK (by omega),fun x f=>?_⟩;obtain⟨i,j,q,rfl⟩:=Be f;have:=P1 (c:=fun i=>if(hasB p.ca (AA g.ci (AA p.ci i)).kg&&hasB p.ca (AA g.ci (AA p.ci i)).To)=true then none else some 14) (fun i=>by
    split<;>simp) h i j q
   split at this
   .rename_i d;rw[pr,CH,CH]at d;exact d
   .cases this
def Ea(g:c9)(p:Bh):Int:=if B4 g≠0 then B4 g else N7 g p
structure QO(p:Bh):Prop where
 d7:p.ca.length<=1000
 ei:p.ci.length<=1000
theorem bn{p:Bh}(d:QO p):Er g p=some (Ea g p):=by
 unfold Er Ea;rw[MO,bs];refine DQ fun q=>?_;have y:=DX q;unfold L0 N7;rw[lC d.d7,bs,lC d.ei,bs,Option.bind_fun_some];refine DQ fun u=>DQ fun w=>?_;obtain⟨a1,a2⟩:=SK u;obtain⟨z,A⟩:=SK w;rw[BR (fun i=>if(hasB p.ca (AA g.ci (AA p.ci i)).kg&&hasB p.ca (AA g.ci (AA p.ci i)).To)=true then none else some 14),CN];intro i f h _;have j:=z _ (AJ f h);unfold Kj;rw[AD f h,bs,AD j.1 j.2];simp[RY d.d7 a2];cases hasB p.ca (AA g.ci (AA p.ci i)).kg<;>cases hasB p.ca (AA g.ci (AA p.ci i)).To<;>rfl
theorem W7{p:Bh}(d:QO p):IM g p=some (Ea g p):=by
 unfold IM Ea;rw[MP,bs];refine DQ fun q=>?_;have w:=DX q;unfold OB N7;rw[lJ d.d7,bs,lJ d.ei,bs,Option.bind_fun_some];refine DQ fun z=>DQ fun u=>?_;obtain⟨y,A⟩:=SK u;rw[BR (fun i=>if(hasB p.ca (AA g.ci (AA p.ci i)).kg&&hasB p.ca (AA g.ci (AA p.ci i)).To)=true then none else some 14),CN];intro i f h _;have j:=y _ (AJ f h);rw[AD f h,bs,AD j.1 j.2];simp[mj];cases hasB p.ca (AA g.ci (AA p.ci i)).kg<;>cases hasB p.ca (AA g.ci (AA p.ci i)).To<;>rfl
def M0(g:c9)(p:Bh):c9:=⟨p.ca.map (AA g.ca),p.ci.map fun x=>⟨(AA g.ci x).j4,DC p.ca (AA g.ci x).kg,DC p.ca (AA g.ci x).To⟩⟩
variable{i:Int}
theorem Hk{α:Type}{f:Int->α}(d:0<=i)(h:i<l.length):(l.take (i+1).toNat).map f=(l.take i.toNat).map f++[f (AA l i)]:=by grind[DF]
theorem RI(A:l.length<=1000)(h:∀x∈l,0<=x/\x<g.ca.length)(es:List Bw):(o4 (fun(z:Int)(w:c9)=>
 (idx l z).bind fun d=>
 (idx g.ca d).bind fun f=>
 (Ai w.ca [f]).bind fun j=>
 some (c9.mk j w.ci)) 0 (l.length:Int) (c9.mk [] es))=some (c9.mk (l.map (AA g.ca)) es):=by
 rw [B0 (fun i=>c9.mk ((l.take i.toNat).map (AA g.ca)) es) (by omega) (by simp)]
 .rw[Int.toNat_natCast,List.take_length]
 .intro i q u;have y:=h _ (AJ q u);rw[AD q u,bs,AD y.1 y.2,bs,Aq (by simp;unfold Aj;omega),bs,Hk q u]
theorem V0(C:l.length<=1000)(h:∀x∈l,0<=x/\x<g.ci.length)(q:Fp)(F:Bw->Bw){f:Bw->List Bw->Option (List Bw)}(hf:∀x∈l,∀s,s.length<=1000->f (AA g.ci x) s=some (s++[F (AA g.ci x)])):(o4 (fun(B:Int)(z:c9)=>
 (idx l B).bind fun u=>
 (idx g.ci u).bind fun w=>
 (f w z.ci).bind fun y=>
 some (c9.mk z.ca y)) 0 (l.length:Int) (c9.mk q []))=some (c9.mk q (l.map fun x=>F (AA g.ci x))):=by
 rw [B0 (fun i=>c9.mk q ((l.take i.toNat).map fun x=>F (AA g.ci x))) (by omega) (by simp)]
 .rw[Int.toNat_natCast,List.take_length]
 .intro i d j;have A:=h _ (AJ d j);rw[AD d j,bs,AD A.1 A.2,bs,hf _ (AJ d j) _ (by simp;omega),bs,Hk d j]
theorem fP{p:Bh}(d:QO p):Ee g p=some (if Ea g p≠0 then(⟨[],[]⟩,⟨[],[]⟩,Ea g p)else(M0 g p,⟨p.ca,p.ci⟩,0)):=by
 unfold Ee;rw[bn d,bs];refine D1 fun h=>?_;have y:B4 g=0/\N7 g p=0:=by
  grind [Ea]
 have ho:=WM y.2;rw[RI d.d7 ho.d7.1,bs];have:=V0 (g:=g) (l:=p.ci) d.ei ho.ei.1 (p.ca.map (AA g.ca)) (fun x=>⟨x.j4,DC p.ca x.kg,DC p.ca x.To⟩) (f:=fun j s=>
  (slices_BinarySearch_int p.ca j.kg).bind fun q=>
  (slices_BinarySearch_int p.ca j.To).bind fun u=>
  Ai s [Bw.mk j.j4 q.1 u.1]) (fun x w s z=>by
   have he:=ho.ends x w;rw[RY d.d7 ho.d7.2,bs,RY d.d7 ho.d7.2,bs,Aq (by simp;unfold Aj;omega),U1 ho.d7.2 he.1,U1 ho.d7.2 he.2])
 simp [Option.bind_assoc]at this;rw[this,bs];unfold slices_Clone_int;have A:=d.d7;have B:=d.ei;rw[Bs (by unfold Aj;omega),bs,Bs (by unfold Aj;omega)];rfl
theorem Xt{p:Bh}(j:QO p):Hl g p=some (if Ea g p≠0 then(⟨[],[]⟩,⟨[],[]⟩,Ea g p)else(M0 g p,⟨p.ca,p.ci⟩,0)):=by
 unfold Hl;rw[W7 j,bs];refine D1 fun h=>?_;have w:B4 g=0/\N7 g p=0:=by
  grind [Ea]
 have ho:=WM w.2;rw[RI j.d7 ho.d7.1,bs];have:=V0 (g:=g) (l:=p.ci) j.ei ho.ei.1 (p.ca.map (AA g.ca)) (fun x=>⟨x.j4,DC p.ca x.kg,DC p.ca x.To⟩) (f:=fun d s=>
  (IN p.ca d.kg).bind fun q=>
  (IN p.ca d.To).bind fun u=>
  Ai s [Bw.mk d.j4 q u]) (fun x y s z=>by
   grind [pv,Aq,Aj])
 simp [Option.bind_assoc]at this;rw[this,bs];have A:=j.d7;have B:=j.ei;rw[Bs (by unfold Aj;omega),bs,Bs (by unfold Aj;omega)];rfl
end Go.Sf.Sc
namespace Go.Sf.Sc
open Go Go.Sf
def LR(a b:c9)(m:d3)(i:Int):QQ:=
 if AA m.ca i<0\/b.ca.length<=AA m.ca i then some 6 else if AA b.ca (AA m.ca i)≠AA a.ca i then some 13 else none
def HF(a b:c9)(m:d3)(i:Int):QQ:=
 if AA m.ci i<0\/b.ci.length<=AA m.ci i then some 6 else
 if (AA a.ci i).j4≠(AA b.ci (AA m.ci i)).j4 then some 13 else
 if AA m.ca (AA a.ci i).kg≠(AA b.ci (AA m.ci i)).kg\/AA m.ca (AA a.ci i).To≠(AA b.ci (AA m.ci i)).To then some 11 else none
def HH(a b:c9)(m:d3):Int:=
 if B4 a≠0 then B4 a else if B4 b≠0 then B4 b else if m.ca.length≠a.ca.length\/m.ci.length≠a.ci.length then 20 else
 match fst (LR a b m) 0 m.ca.length with
 |some e=>e|none=>(fst (HF a b m) 0 m.ci.length).getD 0
structure YQ(a b:c9)(m:d3):Prop where
 ga:Di a
 gb:Di b
 w9:m.ca.length=a.ca.length
 xr:m.ci.length=a.ci.length
 node:∀i:Int,0<=i->i<m.ca.length->(0<=AA m.ca i/\AA m.ca i<b.ca.length)/\AA b.ca (AA m.ca i)=AA a.ca i
 edge:∀i:Int,0<=i->i<m.ci.length->(0<=AA m.ci i/\AA m.ci i<b.ci.length)/\(AA a.ci i).j4=(AA b.ci (AA m.ci i)).j4/\
  AA m.ca (AA a.ci i).kg=(AA b.ci (AA m.ci i)).kg/\AA m.ca (AA a.ci i).To=(AA b.ci (AA m.ci i)).To
variable{m:d3}
theorem QA{a b:c9}(h:HH a b m=0):YQ a b m:=by
 unfold HH at h;split at h
 .omega
 split at h
 .omega
 split at h
 .cases h
 rename_i q u w;have j:fst (LR a b m) 0 m.ca.length=none:=by
  grind [Db,LR]
 rw [j]at h;have he:=P1 (fun i=>by
  grind [HF]) h
 refine ⟨DX (by omega),DX (by omega),by omega,by omega,fun i d f=>?_,fun i d f=>?_⟩
 .grind[CW,LR]
 grind [HF]
theorem UN(a b:c9)(m:d3):DE a b m=some (HH a b m):=by
 unfold DE HH;rw[MO,bs,MO,bs];refine DQ fun w=>DQ fun y=>OP (by simp;try omega) fun B=>?_;have ga:=DX w;have gb:=DX y;rw[BR (LR a b m),DZ]
 .cases z:fst (LR a b m) 0 m.ca.length with
  |some e=>rfl|none=>
   have A:=CW.1 z;dsimp only;rw[BR (HF a b m),CN];intro i h u _;unfold HF;rw[AD h u,bs];by_cases d:AA m.ci i<0\/b.ci.length<=AA m.ci i
   .rw[a6 (by simpa using d),a6 d];rfl
   .have hf:=ga.fit _ (AJ (l:=a.ci) h (by omega));rw[ae (by simpa using d),ae d,AD h (by omega),bs,AD (by omega) (by omega),bs];by_cases f:(AA a.ci i).j4=(AA b.ci (AA m.ci i)).j4
    .rw[ae (by simpa using f),ae (by simpa using f),AD (by omega) (by omega),bs];by_cases j:AA m.ca (AA a.ci i).kg=(AA b.ci (AA m.ci i)).kg
     .rw[ae (by simpa using j),AD (by omega) (by omega),bs,bs];by_cases q:AA m.ca (AA a.ci i).To=(AA b.ci (AA m.ci i)).To
      .rw[ae (by simpa using q),ae (by simp[j,q])];rfl
      .rw[a6 (by simpa using q),a6 (.inr q)];rfl
     .rw[a6 (by simpa using j),bs,a6 rfl,a6 (.inl j)];rfl
    .rw[a6 (by simpa using f),a6 f];rfl
 .intro i h u _;unfold LR;rw[AD h u,bs];by_cases d:AA m.ca i<0\/b.ca.length<=AA m.ca i
  .rw[a6 (by simpa using d),a6 d];rfl
  .rw[ae (by simpa using d),ae d,AD (by omega) (by omega),bs,AD h (by omega),bs];by_cases f:AA b.ca (AA m.ca i)=AA a.ca i
   .rw[ae (by simpa using f),ae (by simpa using f)];rfl
   .rw[a6 (by simpa using f),a6 f];rfl
theorem Sr{x y:Prop}[Decidable x][Decidable y]:(if decide x=true then some true else some (decide y))=some (decide (x\/y)):=by grind
theorem UP(a b:c9)(m:d3):Ey a b m=some (HH a b m):=by
 unfold Ey HH;rw[MP,bs,MP,bs];refine DQ fun w=>DQ fun y=>OP (by simp;try omega) fun B=>?_;have ga:=DX w;have gb:=DX y;rw[show(a.ca.length:Int)=m.ca.length by omega,show(a.ci.length:Int)=m.ci.length by omega,BR (LR a b m),DZ]
 .cases z:fst (LR a b m) 0 m.ca.length with
  |some e=>rfl|none=>
   have A:=CW.1 z;dsimp only;rw[BR (HF a b m),CN];intro i h u _;unfold HF;rw[AD h u];simp only[bs,Sr];by_cases d:AA m.ci i<0\/b.ci.length<=AA m.ci i
   .rw[a6 (by simpa using d),a6 d];rfl
   .have hf:=ga.fit _ (AJ (l:=a.ci) h (by omega));rw[ae (by simpa using d),ae d,AD h (by omega),bs,AD (by omega) (by omega),bs];by_cases f:(AA a.ci i).j4=(AA b.ci (AA m.ci i)).j4
    .rw[ae (by simpa using f),ae (by simpa using f),AD (by omega) (by omega),bs];by_cases j:AA m.ca (AA a.ci i).kg=(AA b.ci (AA m.ci i)).kg
     .rw[ae (by simpa using j),AD (by omega) (by omega),bs,bs];by_cases q:AA m.ca (AA a.ci i).To=(AA b.ci (AA m.ci i)).To
      .rw[ae (by simpa using q),ae (by simp[j,q])];rfl
      .rw[a6 (by simpa using q),a6 (.inr q)];rfl
     .rw[a6 (by simpa using j),bs,a6 rfl,a6 (.inl j)];rfl
    .rw[a6 (by simpa using f),a6 f];rfl
 .intro i h u _;unfold LR;rw[AD h u];simp only[bs,Sr];by_cases d:AA m.ca i<0\/b.ca.length<=AA m.ca i
  .rw[a6 (by simpa using d),a6 d];rfl
  .rw[ae (by simpa using d),ae d,AD (by omega) (by omega),bs,AD h (by omega),bs];by_cases f:AA b.ca (AA m.ca i)=AA a.ca i
   .rw[ae (by simpa using f),ae (by simpa using f)];rfl
   .rw[a6 (by simpa using f),a6 f];rfl
def Ii(l:Fp):Bool:=!kx (fun i=>kx (fun j=>decide (AA l i=AA l j)) 0 i) 0 l.length
variable{l:Fp}
theorem Nd:Ii l=true↔l.Nodup:=by grind[Ii,Bool.not_eq_true',By,Uc,Jl]
theorem Ye(l:Fp):Eo l=some (Ii l):=by
 unfold Eo Ii;rw[BJ (fun i=>kx (fun j=>decide (AA l i=AA l j)) 0 i) false]
 .cases kx (fun i=>kx (fun j=>decide (AA l i=AA l j)) 0 i) 0 l.length<;>rfl
 .intro i d f _;rw[BJ (fun j=>decide (AA l i=AA l j)) false]
  .cases kx (fun j=>decide (AA l i=AA l j)) 0 i<;>rfl
  .intro j h q _;rw[AD d f,bs,AD h (by omega),bs,Hf]
theorem RX(f:l.length<=1000):∃k,EH l=some k/\decide (k=(l.length:Int))=Ii l:=by
 have d:(P5 l).length=l.length:=(O3 l).length_eq;refine⟨((Go.Lib.compact (P5 l)).length:Int),?_,?_⟩
 .grind[EH,slices_Clone_int,slices_Sort_int,slices_Compact_int,Bs,Aj]
 .rw[Bool.eq_iff_iff,Nd,wq,<-(O3 l).nodup_iff,<-Rw (Pe l),d];omega
def Hg(m:d3):Bool:=Ii m.ca&&Ii m.ci
theorem dZ{a b:c9}(h:HH a b m=0):CQ a b m=some (Hg m):=by
 have ho:=QA h;have:=ho.ga.d7;have:=ho.ga.ei;have:=ho.w9;have:=ho.xr;obtain⟨k,d,f⟩:=RX (l:=m.ca) (by omega);obtain⟨j,q,u⟩:=RX (l:=m.ci) (by omega);unfold CQ Hg;rw[UN,h,bs,a6 (decide_eq_true rfl),d];simp[q,f,u];cases Ii m.ca<;>rfl
theorem lL{a b:c9}(h:HH a b m=0):GP a b m=some (Hg m):=by grind[GP,Hg,UP,Ye,Ii]
def P6(r:gp):Int:=
 if Ea r.gt.c9 r.sr≠0 then Ea r.gt.c9 r.sr else
 if HH (M0 r.gt.c9 r.sr) r.ec.c9 r.pc≠0 then HH (M0 r.gt.c9 r.sr) r.ec.c9 r.pc else if Hg r.pc=false then 11 else 0
variable{r:gp}
theorem pJ(d:QO r.sr):Kf r=some (P6 r):=by
 unfold Kf P6;rw[fP d,bs];by_cases h:Ea r.gt.c9 r.sr=0
 .simp only[h,ne_eq,not_true_eq_false,if_false,decide_true,Bool.not_true,Bool.false_eq_true];rw[UN,bs];refine DQ fun f=>?_;rw[dZ f,bs];exact SO fun _=>rfl
 .simp[h]
def US(r:gp):Int:=if Ea r.gt.c9 r.sr≠0 then Ea r.gt.c9 r.sr else HH (M0 r.gt.c9 r.sr) r.ec.c9 r.pc
theorem pz(d:QO r.sr):M9 r=some (US r):=by
 unfold M9 US;rw[W7 d,bs];refine DQ fun h=>?_
 grind [Xt,UP]
theorem mF(h:P6 r=0):Ea r.gt.c9 r.sr=0/\HH (M0 r.gt.c9 r.sr) r.ec.c9 r.pc=0/\Hg r.pc=true:=by grind[P6]
def BG(l:Fp)(n:Int):Fp:=((List.range n.toNat).map Int.ofNat).filter fun i=>!hasB l i
variable{i:Int}
theorem NB(l:Fp)(h:0<=i):BG l (i+1)=BG l i++if(!hasB l i)=true then[i]else[]:=by
 unfold BG;rw[show(i+1).toNat=i.toNat+1 by omega,List.range_succ,List.map_append,List.filter_append]
 grind
theorem Gx{n x:Int}(h:x∈BG l n):0<=x/\x<n:=by
 unfold BG at h
 grind
theorem QL(l:Fp)(n:Int):(BG l n).length<=n.toNat:=by
 unfold BG
 grind
variable{n:Int}
theorem S1(u:0<=n)(y:n<=1000){f:Int->K1}(hf:∀i,f i=some (hasB l i)):(o4 (fun(j:Int)(q:Fp)=>
 (f j).bind fun d=>
 if (!d)=true then
 (Ai q [j]).bind fun h=>
 some h
 else
 some q) 0 n [])=some (BG l n):=by
 refine B0 (BG l) u (by simp[BG]) (fun i w z=>?_);have:=QL l i;rw[hf,bs,NB l w];cases hasB l i
 .rw[a6 (by decide),a6 (by decide),Aq (by simp;unfold Aj;omega)];rfl
 .rw[ae (by decide),ae (by decide),List.append_nil]
theorem Zn(d:0<=n)(f:n<=1000):Jw l n=some (BG l n):=by
 unfold Jw;rw[S1 d f (fun i=>LN l i)];rfl
theorem ft(d:0<=n)(f:n<=1000):K0 n l=some (BG l n):=by
 unfold K0;rw[S1 d f (fun i=>ml l i)];rfl
def II(r:gp):Fp:=BG r.pc.ca r.ec.c9.ca.length
def Nc(r:gp):Fp:=BG r.pc.ci r.ec.c9.ci.length
theorem fR(d:Di r.ec.c9):Ke r=some (II r,Nc r):=by
 have:=d.d7;have:=d.ei;unfold Ke;rw[Zn (by omega) (by omega),bs,Zn (by omega) (by omega)];rfl
theorem fg(d:Di r.ec.c9):Jd r=some (II r,Nc r):=by
 have:=d.d7;have:=d.ei;unfold Jd;rw[ft (by omega) (by omega),bs,ft (by omega) (by omega)];rfl
def GX(t:AC)(g:c9)(i:Int):Bool:=RF t (AA g.ci i).j4 (AA g.ca (AA g.ci i).kg) (AA g.ca (AA g.ci i).To)
def ZZ(t:AC)(g:c9)(d7 ei:Fp):Bool:=!(d7.any fun i=>(AA t.ca (AA g.ca i)).wH)&&!(ei.any fun i=>!GX t g i)
variable{t:AC}{g:c9}
theorem tH(hf:Aw t)(q:Di g)(u:Cw t g=true){d7 ei:Fp}(w:∀x∈d7,0<=x/\x<g.ca.length)(he:∀x∈ei,0<=x/\x<g.ci.length):HO t g d7 ei=some (ZZ t g d7 ei):=by
 have h:=Hb q u;unfold HO ZZ;rw[SM (p:=fun i=>(AA t.ca (AA g.ca i)).wH) (fun x f=>by
  have d:=w x f;have j:=h.1 _ (AJ d.1 d.2);unfold K7;rw[AD d.1 d.2,bs,AD j.1 j.2];rfl),bs,SM (p:=fun i=>!GX t g i) (fun x f=>by
  have d:=he x f;have j:=q.fit _ (AJ d.1 d.2);unfold G2;rw[AD d.1 d.2,bs,AD (by omega) (by omega),bs,AD (by omega) (by omega),bs,Zi hf];rfl)]
 grind
theorem tK(hf:Aw t)(u:Di g)(w:Cw t g=true){d7 ei:Fp}(y:∀x∈d7,0<=x/\x<g.ca.length)(he:∀x∈ei,0<=x/\x<g.ci.length):Ka t g d7 ei=some (ZZ t g d7 ei):=by
 have j:=Hb u w;unfold Ka ZZ;rw[FX,FX,BJ (fun i=>(AA t.ca (AA g.ca (AA d7 i))).wH) false]
 .rw[BJ (fun i=>!GX t g (AA ei i)) false]
  .cases kx (fun i=>(AA t.ca (AA g.ca (AA d7 i))).wH) 0 d7.length
   .cases kx (fun i=>!GX t g (AA ei i)) 0 ei.length<;>rfl
   .rfl
  .intro i f h _;have d:=he _ (AJ f h);have q:=u.fit _ (AJ d.1 d.2);rw[AD f h,bs,AD d.1 d.2,bs,AD (by omega) (by omega),bs,AD (by omega) (by omega),bs,Zs hf,bs,Hf];rfl
 .intro i f h _;have d:=y _ (AJ f h);have q:=j.1 _ (AJ d.1 d.2);rw[AD f h,bs,AD d.1 d.2,bs,AD q.1 q.2,bs,Hf]
end Go.Sf.Sc
namespace Go.Sf.Sc
open Go Go.Sf
structure Yj(p:d6):Prop where
 d7:p.c9.ca.length<=45
 ei:p.c9.ci.length<=90
 slots:p.ej.length<=15
 tests:p.mo.length<=15
structure cY(m:d3):Prop where
 d7:m.ca.length<=140
 ei:m.ci.length<=140
inductive FU:d5->Prop where
 |mk (c:d5) (hq:Yj c.d6) (hm:cY c.Map) (hk:∀k∈c.gn,FU k):FU c
variable{c:d5}
theorem FU.q(h:FU c):Yj c.d6:=by cases h;assumption
theorem FU.m(h:FU c):cY c.Map:=by cases h;assumption
theorem FU.k(h:FU c):∀k∈c.gn,FU k:=by cases h;assumption
theorem IR{c k:d5}(h:k∈c.gn):SizeOf.sizeOf k<SizeOf.sizeOf c:=by
 have:=List.sizeOf_lt_of_mem h;cases c
 grind
theorem GE(c:d5):0<SizeOf.sizeOf c:=by
 cases c
 grind
def O0(c:d5):Bool:=decide (c.Map.ca.length=0/\c.Map.ci.length=0/\c.d6.c9.ca.length=0/\c.d6.c9.ci.length=0/\c.d6.ej.length=0/\c.d6.mo.length=0/\c.d6.fd=0)
theorem o7(hf:FU c):Ej c=some (O0 c):=by
 have d:=hf.q;have f:=hf.m;have:=d.d7;have:=d.ei;have:=d.slots;have:=d.tests;have:=f.d7;have:=f.ei;unfold Ej O0;rw[At (n:=(c.Map.ca.length:Int)+c.Map.ci.length) (by omega) (by omega),At (n:=(c.Map.ca.length:Int)+c.Map.ci.length+c.d6.c9.ca.length) (by omega) (by omega),
  At (n:=(c.Map.ca.length:Int)+c.Map.ci.length+c.d6.c9.ca.length+c.d6.c9.ci.length) (by omega) (by omega),
  At (n:=(c.Map.ca.length:Int)+c.Map.ci.length+c.d6.c9.ca.length+c.d6.c9.ci.length+c.d6.ej.length) (by omega) (by omega),
  At (n:=(c.Map.ca.length:Int)+c.Map.ci.length+c.d6.c9.ca.length+c.d6.c9.ci.length+c.d6.ej.length+c.d6.mo.length) (by omega) (by omega)]
 congr 1
 grind
theorem i7(hf:FU c):HN c=some (O0 c):=by
 have d:=hf.q;have f:=hf.m;have:=d.d7;have:=d.ei;have:=d.slots;have:=d.tests;have:=f.d7;have:=f.ei;unfold HN O0;rw[At (n:=(c.Map.ca.length:Int)+c.Map.ci.length) (by omega) (by omega),At (n:=(c.Map.ca.length:Int)+c.Map.ci.length+c.d6.c9.ca.length) (by omega) (by omega),
  At (n:=(c.Map.ca.length:Int)+c.Map.ci.length+c.d6.c9.ca.length+c.d6.c9.ci.length) (by omega) (by omega),
  At (n:=(c.d6.ej.length:Int)+c.d6.mo.length) (by omega) (by omega)]
 congr 1
 grind
def P2(c:d5):Bool:=
 if c.kp=1 then decide (c.gn.length=0)&&O0 c else if c.kp=2 then decide (c.gn.length=1)&&O0 c else
 if c.kp=3\/c.kp=4 then decide (1<=c.gn.length)&&O0 c else if c.kp=5 then decide (c.gn.length=1)else false
def QN:Nat->d5->Bool
 |0,_=>false|n+1,c=>P2 c&&c.gn.all (QN n)
theorem pT:∀(N:Nat)(c:d5),SizeOf.sizeOf c<=N->FU c->∀n,2*N<=n->BV n c=some (QN N c)
 |0,c,h,_,_,_=>by have:=GE c;omega|N+1,c,h,hf,n,D=>by
  obtain ⟨n,rfl⟩:∃m,n=m+2:=⟨n-2,by omega⟩;rw[BV,QN,o7 hf];have f:Bu c.gn (Bf (n+1))=some (!c.gn.all (QN N)):=by
   rw [Yx (p:=fun k=>!QN N k) (fun k f=>by
    have:=IR f;rw[Bf,pT N k (by omega) (hf.k k f) n (by omega)];rfl),List.all_eq_not_any_not,Bool.not_not]
  rw [f];unfold P2;simp only[bs,wq];generalize O0 c=b;generalize c.gn.all (QN N)=w;have A:decide ((c.gn.length:Int)=0)=decide (c.gn.length=0):=by rw[decide_eq_decide];omega
  have B:decide ((c.gn.length:Int)=1)=decide (c.gn.length=1):=by rw[decide_eq_decide];omega
  have C:decide (1<=(c.gn.length:Int))=decide (1<=c.gn.length):=by rw[decide_eq_decide];omega
  simp only[show((c.gn.length:Int)=0)↔c.gn.length=0 by omega,show((c.gn.length:Int)=1)↔c.gn.length=1 by omega,show(1<=(c.gn.length:Int))↔1<=c.gn.length by omega];by_cases j:c.kp=1
  .rw[a6 j,a6 j];by_cases d:c.gn.length=0<;>cases b<;>cases w<;>simp[d]
  .rw[ae j,ae j];by_cases q:c.kp=2
   .rw[a6 q,a6 q];by_cases d:c.gn.length=1<;>cases b<;>cases w<;>simp[d]
   .rw[ae q,ae q];by_cases y:c.kp=3
    .simp[y,true_or];by_cases d:1<=c.gn.length<;>cases b<;>cases w<;>simp[d]
    .by_cases z:c.kp=4
     .simp[z,or_true,show¬(4:Int)=3 by decide];by_cases d:1<=c.gn.length<;>cases b<;>cases w<;>simp[d]
     .simp only[y,z,if_false,or_false];by_cases u:c.kp=5
      .rw[a6 u,a6 u];by_cases d:c.gn.length=1<;>cases w<;>simp[d]
      .rw[ae u,ae u];cases w<;>rfl
theorem pj(hf:FU c):Lf c=some (P2 c):=by
 unfold Lf P2;rw[i7 hf];simp[wq];generalize O0 c=b;simp[show((c.gn.length:Int)=0)↔c.gn.length=0 by omega,show((c.gn.length:Int)=1)↔c.gn.length=1 by omega,show(0<(c.gn.length:Int))↔1<=c.gn.length by omega]
 grind
theorem oF{α:Type}[Inhabited α]{l:List α}{p:α->Bool}:l.all p=!kx (fun i=>!p (AA l i)) 0 l.length:=by
 rw [List.all_eq_not_any_not,FX]
theorem lH:∀(N:Nat)(c:d5),SizeOf.sizeOf c<=N->FU c->∀n,N<=n->EI n c=some (QN N c)
 |0,c,h,_,_,_=>by have:=GE c;omega|N+1,c,h,hf,n,q=>by
  obtain ⟨n,rfl⟩:∃m,n=m+1:=⟨n-1,by omega⟩;rw[EI,QN,pj hf,bs,oF,BJ (fun i=>!QN N (AA c.gn i)) false]
  .cases P2 c
   .rfl
   .cases kx (fun i=>!QN N (AA c.gn i)) 0 c.gn.length<;>rfl
  .intro i d f _;have j:=AJ (l:=c.gn) d f;have:=IR j;rw[AD d f,bs,lH N _ (by omega) (hf.k _ j) n (by omega),bs,Hf]
noncomputable def aL(c:d5):Bool:=QN (SizeOf.sizeOf c) c
theorem tI(hf:FU c):Gk c=some (aL c):=Fa (2*SizeOf.sizeOf c) fun n d=>pT _ c (az _) hf n d
theorem tO(hf:FU c):Nt c=some (aL c):=Fa (SizeOf.sizeOf c) fun n d=>lH _ c (az _) hf n d
def Mt:Nat->d5->Int×Int
 |0,_=>(0,0)|n+1,c=>
  let s:=c.gn.foldl (fun s k=>(AY (s.1+(Mt n k).1),max s.2 (Mt n k).2)) ((1,0):Int×Int)
  (s.1,if c.kp=5 then AY (s.2+1)else s.2)
theorem Xn{α σ:Type}[Inhabited α]{l:List α}{g:σ->α->σ}{s:σ}{f:Int->σ->Option σ}(h:∀(i:Int)s,0<=i->i<l.length->f i s=some (g s (AA l i))):o4 f 0 l.length s=some (l.foldl g s):=by
 rw [B0 (fun i=>(l.take i.toNat).foldl g s) (by omega) (by simp)]
 .rw[Int.toNat_natCast,List.take_length]
 grind [DF]
theorem fU:∀(N:Nat)(c:d5),SizeOf.sizeOf c<=N->∀n,N<=n->CO n c=some (Mt N c)
 |0,c,h,_,_=>by have:=GE c;omega|N+1,c,h,n,j=>by
  obtain ⟨n,rfl⟩:∃m,n=m+1:=⟨n-1,by omega⟩;rw[CO,Mt,Xn (g:=fun s k=>(AY (s.1+(Mt N k).1),max s.2 (Mt N k).2))]
  .grind
  .intro i s d f;have:=IR (AJ (l:=c.gn) d f);rw[AD d f,bs,fU N _ (by omega) n (by omega)];rfl
theorem fm:∀(N:Nat)(c:d5),SizeOf.sizeOf c<=N->∀n,N<=n->Ep n c=some (Mt N c)
 |0,c,h,_,_=>by have:=GE c;omega|N+1,c,h,n,j=>by
  obtain ⟨n,rfl⟩:∃m,n=m+1:=⟨n-1,by omega⟩;rw[Ep,Mt,Xn (g:=fun s k=>(AY (s.1+(Mt N k).1),max s.2 (Mt N k).2))]
  .grind
  .intro i s d f;have:=IR (AJ (l:=c.gn) d f);rw[AD d f,bs,fm N _ (by omega) n (by omega)];rfl
noncomputable def YV(c:d5):Int×Int:=Mt (SizeOf.sizeOf c) c
noncomputable def NG(c:d5):Int:=if aL c=false then 1 else if 12<(YV c).1\/3<(YV c).2 then 3 else 0
theorem mX(hf:FU c):E6 c=some (NG c):=by
 unfold E6 NG;rw[tI hf,bs,show IX c=some (YV c)from Fa (SizeOf.sizeOf c) fun n d=>fU _ c (az _) n d,bs]
 grind
theorem mw(hf:FU c):Lb c=some (NG c):=by
 unfold Lb NG;rw[tO hf,bs,show On c=some (YV c)from Fa (SizeOf.sizeOf c) fun n d=>fm _ c (az _) n d,bs]
 grind
theorem Vz(g:c9):B4 g≠9:=by grind[B4]
variable{t:AC}{p:d6}
theorem Zr(d:(A8 t).2=0)(h:Hh t p=0\/Hh t p=9):0<=p.fd/\p.fd<=12:=by grind[Vz,Hh]
def Sd(t:AC)(q:d6)(v:Int):Int:=if Hh t q≠9 then Hh t q else if kx (fun i=>!J0 q i) v q.fd=true then 9 else 0
variable{P:Prop}
theorem uA{α:Type}[Decidable P]{v:α}{X:Option α}{Y:α}(h:P->X=some Y):(if(!decide P)=true then some v else X)=some (if¬P then v else Y):=by grind
theorem tG(hf:Aw t)(f:(A8 t).2=0){q:d6}{v:Int}(w:0<=v)(h:v<=q.fd):EC t q v=some (Sd t q v):=by
 unfold EC Sd;rw[WJ hf,bs];refine uA fun d=>?_;have hv:=Zr f (.inr d);rw[PS (c:=fun i=>(if(!J0 q i)=true then some ()else none).map fun _=>.inr 9) (a:=v) (b:=q.fd) h]
 .rw[PI,MI];cases kx (fun i=>!J0 q i) v q.fd<;>rfl
 .intro i z u _;rw[a6 (by simpa using u),show(fun j=>Hd j i)=(fun y=>some (decide (y.hV.Var=i)))from rfl,bI,bs,show(q.ej.any fun y=>decide (y.hV.Var=i))=J0 q i from rfl,d,At (by omega) (by omega)];cases J0 q i<;>rfl
 .rw[ae (by simp)]
theorem mr(p:d6)(v:Int):M7 p v=some (J0 p v):=lM p v
theorem tJ(hf:Aw t)(q:d6)(v:Int):Ld t v q=some (if q.fd<v then 20 else Sd t q v):=by
 unfold Ld Sd;refine OP (by simp) fun _=>?_;rw[Yf hf,bs];refine uA fun d=>?_;rw[d,BJ (fun i=>!J0 q i) 9]
 .cases kx (fun i=>!J0 q i) v q.fd<;>rfl
 .intro i f h _;rw[mr,bs,Hf]
def KC:Nat->AC->d6->d5->Int
 |0,_,_,_=>0|N+1,t,p,c=>
  if c.kp=5 then
   if c.d6.fd<p.fd then 20 else if Sd t c.d6 p.fd≠0 then Sd t c.d6 p.fd else
   if HH p.c9 c.d6.c9 c.Map≠0 then HH p.c9 c.d6.c9 c.Map else if Hg c.Map=false then 1 else
   (fst (fun i=>nz (KC N t c.d6 (AA c.gn i))) 0 c.gn.length).getD 0
  else (fst (fun i=>nz (KC N t p (AA c.gn i))) 0 c.gn.length).getD 0
theorem fW(hf:Aw t)(u:(A8 t).2=0):∀(N:Nat)(c:d5)(p:d6),0<=p.fd->SizeOf.sizeOf c<=N->∀n,N<=n->B6 n t p c=some (KC N t p c)
 |0,c,p,_,h,_,_=>by have:=GE c;omega|N+1,c,p,E,h,n,F=>by
  obtain ⟨n,rfl⟩:∃m,n=m+1:=⟨n-1,by omega⟩;rw[B6,KC];have j:∀q:d6,0<=q.fd->(ek (jj (ρ:=Int) (fun(A:Int)(_:Unit)=>
    (idx c.gn A).bind fun f=>
    (B6 n t q f).bind fun d=>
    if (!decide (d=0))=true then
    some (.ret d)
    else
    some (.next ())) 0 (c.gn.length:Int) ()) (fun _=>
    some 0) (fun B=>some B))=some ((fst (fun i=>nz (KC N t q (AA c.gn i))) 0 c.gn.length).getD 0):=by
   intro q D;rw[BR (fun i=>nz (KC N t q (AA c.gn i))),CN];intro i w y _;have:=IR (AJ (l:=c.gn) w y);rw[AD w y,bs,fW hf u N _ q D (by omega) n (by omega),bs,KQ]
  by_cases z:c.kp=5
  .rw[a6 (by simpa using z),a6 z];refine OP (by simp) fun hv=>?_;rw[tG hf u E (by omega),bs];refine DQ fun hi=>?_;rw[UN,bs];refine DQ fun C=>?_;rw[dZ C,bs]
   grind
  grind
theorem fo(hf:Aw t):∀(N:Nat)(c:d5)(p:d6),SizeOf.sizeOf c<=N->∀n,N<=n->Ez n t p c=some (KC N t p c)
 |0,c,p,h,_,_=>by have:=GE c;omega|N+1,c,p,h,n,C=>by
  obtain ⟨n,rfl⟩:∃m,n=m+1:=⟨n-1,by omega⟩;rw[Ez,KC];have d:∀q:d6,(ek (jj (ρ:=Int) (fun(z:Int)(_:Unit)=>
    (idx c.gn z).bind fun u=>
    (Ez n t q u).bind fun f=>
    if (!decide (f=0))=true then
    some (.ret f)
    else
    some (.next ())) 0 (c.gn.length:Int) ()) (fun _=>
    some 0) (fun A=>some A))=some ((fst (fun i=>nz (KC N t q (AA c.gn i))) 0 c.gn.length).getD 0):=by
   intro q;rw[BR (fun i=>nz (KC N t q (AA c.gn i))),CN];intro i w y _;have:=IR (AJ (l:=c.gn) w y);rw[AD w y,bs,fo hf N _ q (by omega) n (by omega),bs,KQ]
  by_cases j:c.kp=5
  .rw[a6 (by simpa using j),a6 j,tJ hf,bs];by_cases hv:c.d6.fd<p.fd
   .simp[hv]
   .simp only[ae hv];refine DQ fun hi=>?_;rw[UP,bs];refine DQ fun B=>?_;rw[lL B,bs];exact SO fun _=>d _
  .rw[ae (by simpa using j),ae j];exact d p
noncomputable def Lr(t:AC)(p:d6)(c:d5):Int:=if Hh t p≠0 then Hh t p else if NG c≠0 then NG c else KC (SizeOf.sizeOf c) t p c
theorem fQ(hf:Aw t)(d:(A8 t).2=0)(p:d6)(f:FU c):DJ t p c=some (Lr t p c):=by
 unfold DJ Lr;rw[WJ hf,bs];refine DQ fun h=>?_;rw[mX f,bs,Option.bind_fun_some];exact DQ fun _=>Fa (SizeOf.sizeOf c) fun n j=>fW hf d _ c p (Zr d (.inl h)).1 (az _) n j
theorem pX(hf:Aw t)(p:d6)(d:FU c):Lc t p c=some (Lr t p c):=by
 unfold Lc Lr;rw[Yf hf,bs];refine DQ fun h=>?_;rw[mw d,bs,Option.bind_fun_some];exact DQ fun _=>Fa (SizeOf.sizeOf c) fun n f=>fo hf _ c p (az _) n f
end Go.Sf.Sc
namespace Go.Sf.Sc
open Go Go.Sf
structure G5(r:gp):Prop where
 name:(r.l4.size:Int)<=60
 left:Yj r.gt
 right:Yj r.ec
 ff:QO r.sr
 into:cY r.pc
 cond:FU r.d5
noncomputable def Gp(t:AC)(r:gp):Int:=
 if (A8 t).2≠0 then(A8 t).2 else if El r.l4=false then 2 else if Hh t r.gt≠0 then Hh t r.gt else
 if Je t r≠0 then Je t r else if P6 r≠0 then P6 r else if ZZ t r.ec.c9 (II r) (Nc r)=false then 13 else Lr t r.gt r.d5
variable{t:AC}{r:gp}
theorem VN(h:Je t r=0):Di r.ec.c9/\Cw t r.ec.c9=true:=by grind[Je,DX]
theorem fX(hf:Aw t)(d:G5 r):IB t r=some (Gp t r):=by
 have u:=d.name;unfold IB Gp;rw[Np hf,bs];refine DQ fun j=>?_;rw[Ph (by omega),bs];refine SO fun _=>?_;rw[WJ hf,bs];refine DQ fun _=>?_;rw[mW hf,bs];refine DQ fun f=>?_;have ho:=VN f;rw[pJ d.ff,bs];refine DQ fun q=>?_;rw[fR ho.1,bs];dsimp only;rw[tH (d7:=II r) (ei:=Nc r) hf ho.1 ho.2 (fun x h=>Gx h) (fun x h=>Gx h),bs];refine SO fun _=>?_;rw[fQ hf j _ d.cond,bs]
theorem fu(hf:Aw t)(d:G5 r):Jr t r=some (Gp t r):=by
 have w:=d.name;unfold Jr Gp;rw[PO hf,bs];refine DQ fun u=>?_;rw[Pj (by omega),bs];refine SO fun _=>?_;rw[Yf hf,bs];refine DQ fun _=>?_;rw[ms hf,bs];refine DQ fun f=>?_;have ho:=VN f;rw[pz d.ff,bs,Ye,bs];simp only[Ye,bs];have e:(if(!Ii r.pc.ca)=true then some true else some (!Ii r.pc.ci))=some (!Hg r.pc):=by
  grind [Hg,Ii]
 rw [e,bs];have q:P6 r=if US r≠0 then US r else if Hg r.pc=false then 11 else 0:=by
  grind [P6,US,Ea]
 rw [q];by_cases j:US r=0
 .simp only[j,ne_eq,not_true_eq_false,if_false,decide_true,Bool.not_true,Bool.false_eq_true];cases hi:Hg r.pc
  .simp
  .simp only[Bool.not_true,Bool.false_eq_true,if_false,not_true_eq_false,Bool.true_eq_false];rw[fg ho.1,bs];dsimp only;rw[tK (d7:=II r) (ei:=Nc r) hf ho.1 ho.2 (fun x h=>Gx h) (fun x h=>Gx h),bs];refine SO fun _=>?_;rw[pX hf _ d.cond,bs]
 .simp[j]
def PD(n:Int):Bool:=(decide (1<=n))&&(decide (n<=3))
def Pn(t:AC)(s:B3)(i:Int):QQ:=
 if PD (AA s.ca i)=false then some 6 else if 0<=par t i/\AA s.ca (par t i)≠AA s.ca i then some 13 else none
def Qs(t:AC)(s:B3)(i:Int):Int:=
 if PD (AA s.ci i)=false then 6 else
 if ((!decide (AA s.ca (AA t.ci i).kg=AA s.ci i))||((decide (AA s.ca (AA t.ci i).To=AA s.ci i))==(decide (AA s.ci i=2))))=true then 13 else 0
def ID(t:AC)(s:B3):Int:=
 if (A8 t).2≠0 then(A8 t).2 else if s.ca.length≠t.ca.length\/s.ci.length≠t.ci.length then 20 else
 match fst (Pn t s) 0 t.ca.length with
 |some e=>e|none=>(fst (fun i=>nz (Qs t s i)) 0 t.ci.length).getD 0
structure li(t:AC)(s:B3):Prop where
 types:FL t
 w9:s.ca.length=t.ca.length
 xr:s.ci.length=t.ci.length
theorem aB{s:B3}(h:ID t s=0):(A8 t).2=0/\li t s:=by
 unfold ID at h;split at h
 .omega
 .split at h
  .cases h
  .exact⟨by omega,Cs (by omega),by omega,by omega⟩
variable{x:Prop}{o:K1}
theorem bC[Decidable x]{b:Bool}(h:x->o=some b):(if decide x=true then o else some false)=some (decide x&&b):=by grind
theorem br(hf:Aw t)(s:B3):HZ t s=some (ID t s):=by
 unfold HZ ID;rw[Np hf,bs];refine DQ fun j=>OP (by simp;try omega) fun q=>?_;have ho:=Cs j;rw[show(s.ca.length:Int)=t.ca.length by omega,show(s.ci.length:Int)=t.ci.length by omega,BR (Pn t s),DZ]
 .cases fst (Pn t s) 0 t.ca.length with
  |some e=>rfl|none=>
   dsimp only;rw[BR (fun i=>nz (Qs t s i)),CN];intro i d f _;have he:=ho.ends d f;have e:Ll t s i=some (Qs t s i):=by
    unfold Ll Qs;rw[AD d (by omega),bs,show MW (AA s.ci i)=some (PD (AA s.ci i))from rfl,bs];refine SO fun _=>?_;rw[AD d f,bs,AD (by omega) (by omega),bs,bs,AD (by omega) (by omega),bs];exact XH fun _=>rfl
   rw [e,bs,KQ]
 .intro i d f _;have u:=ho.par i d f;unfold Pn;rw[AD d (by omega),bs,show MW (AA s.ca i)=some (PD (AA s.ca i))from rfl,bs,AD d f,bs];cases PD (AA s.ca i)
  .rfl
  .simp only[Bool.not_true,Bool.false_eq_true,if_false,Bool.true_eq_false];rw[show(AA t.ca i).pq=par t i from rfl,bC (b:=!decide (AA s.ca (par t i)=AA s.ca i)) (fun h=>by rw[AD h (by omega)];rfl),bs];by_cases h:0<=par t i/\AA s.ca (par t i)≠AA s.ca i
   .rw[a6 (by simpa using h),a6 h];rfl
   .rw[ae (by simpa using h),ae h];rfl
theorem b8(hf:Aw t)(s:B3):Js t s=some (ID t s):=by
 unfold Js ID;rw[PO hf,bs];refine DQ fun w=>OP (by simp;try omega) fun A=>?_;have ho:=Cs w;rw[BR (Pn t s),DZ]
 .cases fst (Pn t s) 0 t.ca.length with
  |some e=>rfl|none=>
   dsimp only;rw[BR (fun i=>nz (Qs t s i)),CN];intro i d f _;have he:=ho.ends d f;unfold Qs;rw[AD (l:=s.ci) d (by omega)];simp only[bs,show K5 (AA s.ci i)=some (PD (AA s.ci i))from rfl];cases PD (AA s.ci i)
   .rfl
   .rw[ae (by decide),ae (by decide),AD d f];simp only[bs];rw[AD (l:=s.ca) (i:=(AA t.ci i).kg) (by omega) (by omega),bs,AD (l:=s.ca) (i:=(AA t.ci i).To) (by omega) (by omega),bs];generalize AA s.ca (AA t.ci i).kg=x;generalize AA s.ca (AA t.ci i).To=y;generalize AA s.ci i=z;by_cases j:x=z
    .by_cases u:z=2
     .by_cases q:y=z
      .simp[j,u,q,nz,L6]
      .have:¬y=2:=fun h=>q (by omega);simp[j,u,this,nz,L6]
     .by_cases q:y=z
      .simp[j,u,q,nz,L6]
      .simp[j,u,q,nz,L6]
    .simp[j,nz,L6]
 .intro i d f _;have B:=ho.par i d f;unfold Pn;rw[AD (l:=s.ca) d (by omega),bs,show K5 (AA s.ca i)=some (PD (AA s.ca i))from rfl,bs,AD d f,bs];cases PD (AA s.ca i)
  .rfl
  .simp only[Bool.not_true,Bool.false_eq_true,if_false,Bool.true_eq_false];rw[show(AA t.ca i).pq=par t i from rfl,bC (b:=!decide (AA s.ca (par t i)=AA s.ca i)) (fun h=>by rw[AD h (by omega),bs,bs]),bs];by_cases h:0<=par t i/\AA s.ca (par t i)≠AA s.ca i
   .rw[a6 (by simpa using h),a6 h];rfl
   .rw[ae (by simpa using h),ae h];rfl
variable{l:Fp}
theorem QC(z:l.length<=1000):∃m,G4 l=some m:=by
 unfold G4 slices_Clone_int;rw[Bs (by unfold Aj;omega),bs];obtain⟨m,y,B⟩:=Pd (f:=(fun(d:Int)(h:Fp)=>
 (idx h d).bind fun j=>
 (idx h d).bind fun q=>
 some (BF h d (AY (4-j))))) (fun _ s=>s.length=l.length) (a:=0) (b:=l.length) (s:=l) (by omega) rfl (fun i s u A w=>by
  refine ⟨_,by rw[AD u (by omega),bs,bs],?_⟩;simp[BF,w])
 rw [y];exact⟨m,rfl⟩
theorem io(hf:Aw t)(s:B3):Eg t s=some (ID t s):=by
 unfold Eg Fy;rw[br hf,bs];by_cases h:ID t s=0
 .have ho:=(aB h).2;have:=ho.w9;have:=ho.xr;have:=ho.types.d7;have:=ho.types.ei;obtain⟨m,d⟩:=QC (l:=s.ca) (by omega);obtain⟨k,f⟩:=QC (l:=s.ci) (by omega);rw[ae (by simpa using h),d,bs,f,h];rfl
 .rw[a6 (by simpa using h)];rfl
def UC(r:gp):Bool:=decide (r.gt.ej.length=0/\r.gt.mo.length=0/\r.ec.ej.length=0/\r.gt.fd=0)&&r.l3&&decide (r.d5.kp=1)&&decide (r.sr.ca.length=r.gt.c9.ca.length/\r.sr.ci.length=r.gt.c9.ci.length)
def wZ(t:AC)(l:Fp):Bool:=!(l.any fun k=>t.ca.any fun n=>decide (n.pq=k))
def Vs(t:AC)(g:c9):Bool:=!kx (fun i=>!GX t g i) 0 g.ci.length
noncomputable def OM(t:AC)(s:B3)(r:gp):Int:=
 if ID t s≠0 then ID t s else if Gp t r≠0 then Gp t r else if UC r=false then 8 else
 if (wZ t r.gt.c9.ca&&wZ t r.ec.c9.ca&&Vs t r.gt.c9)=true then 0 else 13
structure eW(t:AC)(r:gp):Prop where
 left:Di r.gt.c9
 ltyped:Cw t r.gt.c9=true
 right:Di r.ec.c9
 yE:Cw t r.ec.c9=true
 rtests:r.ec.mo.length=0
 part:Ym r.gt.c9 r.sr
 mor:YQ (M0 r.gt.c9 r.sr) r.ec.c9 r.pc
 inj:r.pc.ca.Nodup/\r.pc.ci.Nodup
variable{p:d6}
theorem pU(h:Hh t p=0):Di p.c9/\Cw t p.c9=true:=by grind[Hh,DX]
theorem Qp(h:Gp t r=0):(A8 t).2=0/\eW t r:=by
 unfold Gp at h;split at h
 .omega
 split at h
 .cases h
 split at h
 .omega
 split at h
 .omega
 split at h
 .omega
 rename_i q u w y z;have d:=pU (t:=t) (p:=r.gt) (by omega);have f:=VN (t:=t) (r:=r) (by omega);have j:=mF (r:=r) (by omega);have hi:Ii r.pc.ca=true/\Ii r.pc.ci=true:=by
  grind [Hg]
 refine ⟨by omega,d.1,d.2,f.1,f.2,?_,?_,QA j.2.1,Nd.1 hi.1,Nd.1 hi.2⟩
 .grind[Je]
 grind [Ea,WM]
theorem bE{n:Nat}(h:∀x∈l,0<=x/\x<n)(f:l.Pairwise (·<·)):l.length<=n:=by
 have key:∀i:Int,0<=i->i<l.length->i<=AA l i:=by
  intro i d j;obtain⟨k,rfl⟩:=Int.eq_ofNat_of_zero_le d;clear d
  induction k with
  |zero=>exact(h _ (AJ (by omega) (by omega))).1|succ k q=>
   grind [Jl]
 by_cases d:l.length=0
 .omega
 .have a:=key ((l.length:Int)-1) (by omega) (by omega)
  grind [AJ]
theorem ij{a b:Fp}(w:a.length<=1000)(y:b.length<=1000):Ge [a,b]=some (a++b):=by
 have q:AY (0+(a.length:Int))=a.length:=by rw[At (by omega) (by omega)];omega
 have u:AY ((a.length:Int)+(b.length:Int))=a.length+b.length:=At (by omega) (by omega);have d:idx [a,b] 0=some a:=rfl;have f:idx [a,b] 1=some b:=rfl;unfold Ge;rw[show(([a,b]:List Fp).length:Int)=2 from rfl];rw[B0 (a:=0) (b:=2) (s:=(0:Int)) (fun i=>if i=0 then 0 else if i=1 then(a.length:Int)else a.length+b.length) (by decide) rfl]
 .rw[bs,ae (by decide),ae (by decide)];unfold IC;rw[a6 ⟨rfl,by omega,by unfold Aj;omega⟩,bs];rw[B0 (a:=0) (b:=2) (s:=([]:Fp)) (fun i=>if i=0 then[]else if i=1 then a else a++b) (by decide) rfl]
  .rfl
  .intro i h j;have:i=0\/i=1:=by omega
   rcases this with rfl|rfl
   .rw[d,bs,a6 rfl,ae (by decide),a6 (by decide),Bs (by unfold Aj;omega)];rfl
   .rw[f,bs,ae (by decide),a6 rfl,ae (by decide),ae (by decide),Aq (by unfold Aj;omega)];rfl
 .intro i h j;have:i=0\/i=1:=by omega
  rcases this with rfl|rfl
  .rw[d,bs,a6 rfl,q,ae (by simp)];rfl
  .rw[f,bs];show(if decide (AY ((a.length:Int)+b.length)<0)=true then none else some (AY ((a.length:Int)+b.length)))=some ((a.length:Int)+b.length);rw[u,ae (by simp;omega)]
theorem pR(hf:Aw t){s:B3}(d:G5 r):Ef t s r=some (OM t s r):=by
 unfold Ef OM;rw[io hf,bs];refine DQ fun w=>?_;rw[fX hf d,bs];refine DQ fun f=>?_;have ho:=(Qp f).2;have u:=(Qp f).1;have l1:=d.left.slots;have l2:=d.left.tests;have z:=d.right.slots;have A:=d.right.tests;have B:=bE ho.part.d7.1 ho.part.d7.2;have C:=bE ho.part.ei.1 ho.part.ei.2;have D:=ho.rtests;rw[At (n:=(r.gt.ej.length:Int)+r.gt.mo.length) (by omega) (by omega),At (n:=(r.gt.ej.length:Int)+r.gt.mo.length+r.ec.ej.length) (by omega) (by omega),At (n:=(r.gt.ej.length:Int)+r.gt.mo.length+r.ec.ej.length+r.ec.mo.length) (by omega) (by omega)];refine OP ?_ fun y=>?_
 .unfold UC;cases r.l3
  .simp
  .simp only[Bool.not_true,Bool.or_false,Bool.and_true,Bool.or_eq_true,pr,Bool.not_eq_true',wq,decide_eq_false_iff_not,Bool.and_eq_false_iff];omega
 rw [ij (by have:=ho.left.d7;omega) (by have:=ho.right.d7;omega),bs,BJ (fun i=>t.ca.any fun n=>decide (n.pq=AA (r.gt.c9.ca++r.ec.c9.ca) i)) 13]
 .rw[<-FX (l:=r.gt.c9.ca++r.ec.c9.ca) (p:=fun k=>t.ca.any fun n=>decide (n.pq=k)),List.any_append,BJ (fun i=>!GX t r.gt.c9 i) 13]
  .unfold wZ Vs;cases(r.gt.c9.ca.any fun k=>t.ca.any fun n=>decide (n.pq=k))<;>cases(r.ec.c9.ca.any fun k=>t.ca.any fun n=>decide (n.pq=k))<;>cases kx (fun i=>!GX t r.gt.c9 i) 0 r.gt.c9.ci.length<;>rfl
  .intro i h j _;have E:=ho.left.fit _ (AJ h j);rw[AD h j,bs,AD (by omega) (by omega),bs,AD (by omega) (by omega),bs,Zi hf,bs,Hf];rfl
 .intro i h j _;rw[AD h j,bs,show(fun q=>IF q (AA (r.gt.c9.ca++r.ec.c9.ca) i))=(fun n=>some (decide (n.pq=AA (r.gt.c9.ca++r.ec.c9.ca) i)))from rfl,Ue,bs,Hf]
theorem Zv(t:AC)(g:c9):Iw t g=some (wZ t g.ca):=by
 unfold Iw wZ;rw[FX,BJ (fun i=>t.ca.any fun n=>decide (n.pq=AA g.ca i)) false]
 .cases kx (fun i=>t.ca.any fun n=>decide (n.pq=AA g.ca i)) 0 g.ca.length<;>rfl
 .intro i d f _;rw[FX,BJ (fun j=>decide ((AA t.ca j).pq=AA g.ca i)) false]
  .cases kx (fun j=>decide ((AA t.ca j).pq=AA g.ca i)) 0 t.ca.length<;>rfl
  .intro j h q _;rw[AD h q,bs,AD d f,bs,Hf]
variable{g:c9}
theorem mh(hf:Aw t)(h:Di g):NA t g=some (Vs t g):=by
 unfold NA Vs;rw[BJ (fun i=>!GX t g i) false]
 .cases kx (fun i=>!GX t g i) 0 g.ci.length<;>rfl
 .intro i d f _;have j:=h.fit _ (AJ d f);rw[AD d f,bs,AD (by omega) (by omega),bs,AD (by omega) (by omega),bs,Zs hf,bs,Hf];rfl
theorem p6(hf:Aw t){s:B3}(d:G5 r):Li t s r=some (OM t s r):=by
 unfold Li OM;rw[b8 hf,bs];refine DQ fun h=>?_;rw[fu hf d,bs];refine DQ fun f=>?_;have ho:=(Qp f).2;have l1:=d.left.slots;have l2:=d.left.tests;have j:=d.right.slots;have e:Iv r=some (UC r):=by
  unfold Iv UC;rw[At (n:=(r.gt.ej.length:Int)+r.ec.ej.length) (by omega) (by omega),At (n:=(r.gt.ej.length:Int)+r.ec.ej.length+r.gt.mo.length) (by omega) (by omega)];congr 1;cases r.l3
  .simp
  .rw[Bool.eq_iff_iff];simp only[pr,wq,and_true];omega
 rw [e,bs];refine SO fun _=>?_;rw[Zv,bs,Zv,mh hf ho.left];simp only[bs];cases wZ t r.gt.c9.ca<;>cases wZ t r.ec.c9.ca<;>cases Vs t r.gt.c9<;>rfl
end Go.Sf.Sc
namespace Go.Sf
variable{a b:Int}
theorem UU{ρ:Type}{f:Int->Option (Bx Int ρ)}(p:Int->Bool)(v:ρ)(d:a<=b)(h:∀i,a<=i->i<b->f i=some (if p i=true then .ret v else .next (i+1)))(j:f b=some (.brk b)):Gf f a=some (if kx p a b=true then .inr v else .inl b):=by
 rw [PS (c:=fun i=>(if p i=true then some ()else none).map fun _=>.inr v) d]
 .grind[PI,MI,kx]
 .intro i q u _;rw[h i q u];cases p i<;>rfl
 .exact j
theorem Kv{α:Type}{e:α->TV}{n:Nat}{l:List α}(h:TV.Sm (.list n (l.map e))):(l.length:Int)<=140737488351232/\∀x∈l,(e x).Sm:=by
 simp [TV.Sm]at h;refine⟨by have:=h.1;unfold reachBytes at this;omega,fun x d=>UR.1 h.2 _ (List.mem_map.2 ⟨x,d,rfl⟩)⟩
end Go.Sf
namespace Go.Sf.Sc
open Go Go.Sf
def Yu(a:kl):Bool:=(decide (40<(a.l4.size:Int))||decide (25<(a.sg.length:Int)))||kx (fun i=>decide (40<((AA a.sg i).size:Int))) 0 a.sg.length
theorem hU{a:kl}(h:Yu a=false):Q0 a:=by
 unfold Yu at h;simp[decide_eq_false_iff_not,By]at h;refine⟨by omega,by omega,fun x d=>?_⟩
 grind [Be]
variable{t:AC}
theorem ex(V:(AM t).Sm):∃b,OZ t=some b/\(b=true->Aw t):=by
 have M:TV.xB [_,_]:=V;obtain⟨y,Q⟩:=Kv (e:=Cj) M.1;unfold OZ;by_cases hl:20<t.ca.length\/30<t.ci.length
 .rw[a6 (by simp;omega)]
  grind
 rw [ae (by simp;omega)];rcases U6 (f:=(fun(C:Int)(T:Int)=>
 (idx t.ca C).bind fun A=>
 (if(decide (30<(AY (T+(A.po.length:Int)))))=true then some true else((idx t.ca C).bind fun G=>
 some (decide (40<(G.l4.size:Int))))).bind fun H=>
 if H=true then
 some (Bx.ret false)
 else
 ek (Gf (ρ:=Bool) (fun(s2:Int)=>
 (idx t.ca C).bind fun I=>
 if (decide (s2<(I.po.length:Int)))=true then
 (idx t.ca C).bind fun J=>
 (idx J.po s2).bind fun u=>
 if ((decide (40<(u.l4.size:Int)))||(decide (25<(u.sg.length:Int))))=true then
 some (.ret false)
 else
 ek (Gf (ρ:=Bool) (fun(z:Int)=>
 if (decide (z<(u.sg.length:Int)))=true then
 (idx u.sg z).bind fun K=>
 if (decide (40<(K.size:Int)))=true then
 some (.ret false)
 else
 some (.next (AY (z+1)))
 else
 some (.brk z)) 0) (fun z=>
 some (.next (AY (s2+1)))) (fun W=>some (.ret W))
 else
 some (.brk s2)) 0) (fun s2=>
 some (.next (AY (T+(A.po.length:Int))))) (fun Z=>some (.ret Z))))
  (fun i s=>0<=s/\s<=30/\∀j,0<=j->j<i->((AA t.ca j).l4.size:Int)<=40/\(AA t.ca j).po.length<=30/\∀a∈(AA t.ca j).po,Q0 a) (fun _=>False) (fun r=>r=false) (a:=0) (b:=t.ca.length) (s:=0) (by omega) ⟨by omega,by omega,fun j B d=>by omega⟩ (fun i s D E hI=>by
   have hx:=Q _ (AJ (l:=t.ca) D E);have N:TV.xB [_,_,_,_]:=hx;obtain⟨ha,S⟩:=Kv (e:=Fu) N.2.2.2.1;obtain⟨hI1,hI2,hI3⟩:=hI;have hw:AY (s+(AA t.ca i).po.length)=s+(AA t.ca i).po.length:=At (by omega) (by omega);simp only[AD D E,bs,hw,Sr];by_cases hc:30<s+(AA t.ca i).po.length\/40<((AA t.ca i).l4.size:Int)
   .grind
   rw [ae (by simpa using hc)];rw[UU (fun j=>Yu (AA (AA t.ca i).po j)) false (b:=(AA t.ca i).po.length) (by omega)]
   .cases U:kx (fun j=>Yu (AA (AA t.ca i).po j)) 0 (AA t.ca i).po.length
    .refine .inl ⟨_,rfl,by omega,by omega,fun j L F=>?_⟩
     grind [Be,hU,By]
    .exact .inr (.inr ⟨_,rfl,rfl⟩)
   .intro j L F;rw[a6 (by simpa using F),AD L F,bs];have hy:=S _ (AJ (l:=(AA t.ca i).po) L F);have O:TV.xB [_,_,_,_]:=hy;obtain⟨hm,_⟩:=Kv (e:=eS) O.2.2.2.1;unfold Yu;cases B:(decide (40<((AA (AA t.ca i).po j).l4.size:Int))||decide (25<((AA (AA t.ca i).po j).sg.length:Int)))
    .rw[ae (by decide),UU (fun k=>decide (40<((AA (AA (AA t.ca i).po j).sg k).size:Int))) false (b:=(AA (AA t.ca i).po j).sg.length) (by omega)]
     .cases kx (fun k=>decide (40<((AA (AA (AA t.ca i).po j).sg k).size:Int))) 0 (AA (AA t.ca i).po j).sg.length
      .rw[Bool.or_false,At (show -9223372036854775808<=j+1 by omega) (by omega)];rfl
      .rfl
     .intro k w q;rw[a6 (by simpa using q),AD w q,bs,At (show -9223372036854775808<=k+1 by omega) (by omega),Hf]
     .rw[ae (by simp)]
    .rfl
   .rw[ae (by simp)])with⟨s',B,d⟩|⟨r,B,d⟩
 .rw[B];rcases d with d|d
  .rw[CX,BJ (fun i=>decide (40<((AA t.ci i).l4.size:Int))) false]
   .cases U:kx (fun i=>decide (40<((AA t.ci i).l4.size:Int))) 0 t.ci.length
    .refine⟨true,rfl,fun _=>⟨by omega,by omega,fun n y=>?_,fun n y=>?_,fun n y=>?_,fun e he=>?_⟩⟩
     .obtain⟨k,w,q,rfl⟩:=Be y;exact(d.2.2 k w q).1
     .obtain⟨k,w,q,rfl⟩:=Be y;exact(d.2.2 k w q).2.1
     .obtain⟨k,w,q,rfl⟩:=Be y;exact(d.2.2 k w q).2.2
     .obtain⟨k,w,q,rfl⟩:=Be he;have:=By.1 U k w q;simpa using this
    .exact⟨false,rfl,fun h=>by cases h⟩
   .intro i D E _;rw[AD D E,bs,Hf]
  .exact d.elim
 .rw[B];subst d;exact⟨false,rfl,fun h=>by cases h⟩
theorem Wr(p:d6):∃b,MR p=some b/\(b=true->Yj p):=by
 refine ⟨_,rfl,fun h=>?_⟩;simp[wq]at h;exact⟨by omega,by omega,by omega,by omega⟩
variable{a b:Int}
theorem bS(h:0<=a)(d:a<=140737488351232)(j:0<=b)(f:b<=140737488351232):AY (a+b)=a+b:=At (by omega) (by omega)
variable{m:d3}
theorem bR(f:(As m).Sm):∃b,Ob m 140=some b/\(b=true->cY m):=by
 have d:TV.xB [_,_]:=f;have j:=(Kv (e:=eI) d.1).1;have q:=(Kv (e:=eI) d.2.1).1;refine⟨_,rfl,fun h=>?_⟩;rw[bS (by omega) j (by omega) q]at h;simp[wq]at h;exact⟨by omega,by omega⟩
theorem iG{m:Bh}(f:(GM m).Sm):∃b,QG m 140=some b/\(b=true->QO m):=by
 have d:TV.xB [_,_]:=f;have j:=(Kv (e:=eI) d.1).1;have q:=(Kv (e:=eI) d.2.1).1;refine⟨_,rfl,fun h=>?_⟩;rw[bS (by omega) j (by omega) q]at h;simp[wq]at h;exact⟨by omega,by omega⟩
variable{c:d5}
theorem lw(h:(AP c).Sm):(As c.Map).Sm/\(c.gn.length:Int)<=140737488351232/\∀k∈c.gn,(AP k).Sm:=by
 have f:TV.xB [_,_,_,_,_,_,_,_,_]:=h;obtain⟨_,d,j,q,_⟩:=f;rw[J3]at d;obtain⟨u,w⟩:=Kv d;exact⟨⟨j,q,trivial⟩,u,w⟩
theorem ZD:∀(N:Nat)(c:d5),SizeOf.sizeOf c<=N->(AP c).Sm->∀tc:Int,0<=tc->tc<=1000->∃r,(∀n,N<=n->ET n c tc=some r)/\-1<=r/\r<=tc-1/\(0<=r->FU c)
 |0,c,h,_,_,_,_=>by have:=GE c;omega|N+1,c,h,hs,tc,m0,m1=>by
  obtain ⟨Q,S,D⟩:=lw hs;obtain⟨T,G,U⟩:=Wr c.d6;obtain⟨V,J,W⟩:=bR Q;have step:∀n,N+1<=n->∃m,n=m+1/\N<=m:=fun n d=>⟨n-1,by omega,by omega⟩;cases T
  .refine⟨-1,fun n d=>?_,by omega,by omega,fun h=>by omega⟩;obtain⟨n,rfl,_⟩:=step n d;rw[ET,G];rfl
  cases V
  .refine⟨-1,fun n d=>?_,by omega,by omega,fun h=>by omega⟩;obtain⟨n,rfl,_⟩:=step n d;rw[ET,G,bs,J];rfl
  have loop:∀(m:Nat)(k left:Int),0<=k->k+m=c.gn.length->-1<=left->left<=1000->∃f w,(∀n,N<=n->NY (ρ:=Int) (fun(u:Int×Int)=>
    if ((decide (u.2<(c.gn.length:Int)))&&(decide (0<=u.1)))=true then
    (idx c.gn u.2).bind fun z=>
    (ET n z u.1).bind fun A=>
    some (.next (A,AY (u.2+1)))
    else
    some (.brk (u.1,u.2))) (left,k) (.inl (f,w)))/\-1<=f/\f<=left/\(0<=f->∀j,k<=j->j<c.gn.length->FU (AA c.gn j)):=by
   intro m
   induction m with
   |zero=>
    intro k left E L F l1;refine⟨left,k,fun n d=>.brk ?_,F,by omega,fun _ j B y=>by omega⟩;rw[ae (by simp;omega)]
   |succ m ih=>
    intro k left E L F l1;by_cases M:0<=left
    .have q:=AJ (l:=c.gn) E (by omega);have:=IR q;obtain⟨r,Z,r2,r3,r4⟩:=ZD N _ (by omega) (D _ q) left M l1;obtain⟨f,w,a1,a2,K,H⟩:=ih (k+1) r (by omega) (by omega) r2 (by omega);refine⟨f,w,fun n d=>.next (s':=(r,k+1)) ?_ (a1 n d),a2,by omega,fun C j B y=>?_⟩
     .rw[a6 (by simp;omega),AD E (by omega),bs,Z n d,bs,At (by omega) (by omega)]
     .by_cases O:j=k
      .subst O;exact r4 (by omega)
      .exact H C j (by omega) y
    .refine⟨left,k,fun n d=>.brk ?_,F,by omega,fun h=>by omega⟩;rw[ae (by simp;omega)]
  obtain ⟨f,w,a1,a2,K,H⟩:=loop c.gn.length 0 (tc-1) (by omega) (by omega) (by omega) (by omega);refine⟨f,fun n d=>?_,a2,K,fun C=>.mk c (U rfl) (W rfl) (fun k D=>?_)⟩
  .obtain⟨n,rfl,I⟩:=step n d;rw[ET,G,bs,J];simp only[bs,Bool.not_true,Bool.false_eq_true,if_false];rw[At (n:=tc-1) (by omega) (by omega),(a1 n I).eq,CX]
  .obtain⟨j,B,y,rfl⟩:=Be D;exact H C j B y
theorem iF(d:(AP c).Sm):∃b,Oe c=some b/\(b=true->FU c):=by
 obtain ⟨r,f,_,_,j⟩:=ZD (SizeOf.sizeOf c) c (az _) d 40 (by omega) (by omega);have e:Ra c 40=some r:=Fa (SizeOf.sizeOf c) f;unfold Oe;rw[e];exact⟨_,rfl,fun h=>j (by simpa using h)⟩
variable{o:K1}
theorem G9{b:Bool}{c:Bool}(h:o=some c):(if b=true then o.bind fun x=>some x else some false)=some (b&&c):=by
 subst h;cases b<;>rfl
variable{r:gp}
theorem iH(d:(Bg r).Sm):∃b,Of r=some b/\(b=true->G5 r):=by
 have f:TV.xB [_,_,_,_,_,_,_,_,_,_,_,_,_,_,_,_,_,_,_,_,_,_,_,_,_]:=d;obtain⟨_,_,_,_,_,_,_,_,_,_,_,j,q,u,w,_,y,z,c3,c4,c5,A,B,C,D,_⟩:=f;obtain⟨O,E,F⟩:=Wr r.gt;obtain⟨Q,G,H⟩:=Wr r.ec;obtain⟨S,I,J⟩:=iG (m:=r.sr) ⟨j,q,trivial⟩;obtain⟨T,K,L⟩:=bR (m:=r.pc) ⟨u,w,trivial⟩;obtain⟨U,M,N⟩:=iF (c:=r.d5) ⟨y,z,c3,c4,c5,A,B,C,D,trivial⟩;unfold Of;rw[G9 E,bs,G9 G,bs,G9 I,bs,G9 K,bs,G9 M,bs];refine⟨_,rfl,fun h=>?_⟩;simp[wq]at h;exact⟨h.1.1.1.1.1,F h.1.1.1.1.2,H h.1.1.1.2,J h.1.1.2,L h.1.2,N h.2⟩
theorem bQ{s:B3}(d:(AM t).Sm)(f:(Bg r).Sm):∃b,Kc t s r=some b/\(b=true->Aw t/\G5 r):=by
 obtain ⟨y,j,q⟩:=ex d;obtain⟨z,u,w⟩:=iH f;unfold Kc;rw[j,bs,G9 (o:=QI s) rfl,bs,G9 u,bs];refine⟨_,rfl,fun h=>?_⟩;simp only[pr]at h;exact⟨q h.1.1,w h.2⟩
end Go.Sf.Sc
