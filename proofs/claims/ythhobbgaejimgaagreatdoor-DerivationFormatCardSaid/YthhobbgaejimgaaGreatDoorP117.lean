/- Plain lemmas: what the functions of the program and of the reference compute. -/
import Derived.Test.YthhobbgaejimgaaGreatDoorP1
set_option linter.all false
set_option maxRecDepth 100000
namespace Go.Sf.Sc
open Go Go.Sf
def N1(c:Int):Bool:=((decide (32<=c))&&(decide (c<=126)))&&(!decide (c=34))
def JN(s:ByteArray):Int×Int:=
 let m:=Bx N1 (s.extract (1:Int).toNat (s.size:Int).toNat)
 if 1+m=(s.size:Int)\/bt s (1+m)≠34 then(0,2)else if 60<m then(0,3)else(m+2,0)
def H3(s:ByteArray):Bool:=decide (2<=(s.size:Int))&&[(⟨#[45,62]⟩:ByteArray),(⟨#[60,61]⟩:ByteArray),(⟨#[62,61]⟩:ByteArray),(⟨#[61,61]⟩:ByteArray),(⟨#[33,61]⟩:ByteArray)].contains (s.extract (0:Int).toNat (2:Int).toNat)
def NA(c:Int):Bool:=decide (0<=Go.Lib.indexByte (⟨#[123,125,40,41,91,93,44,59,58,61,43,45,42,60,62,33,38,124,46,63]⟩:ByteArray).data.toList c.toNat.toUInt8)
def FU(s:ByteArray):Int×Int×Int:=
 if Cu (bt s 0)=true then(if 20<Bx G5 s then(0,0,3)else(1,Bx G5 s,0))
 else if rq (bt s 0)=true then(if 9<Bx rq s then(0,0,3)else(2,Bx rq s,0))
 else if bt s 0=34 then(3,(JN s).1,(JN s).2)
 else if H3 s=true then(4,2,0)
 else if NA (bt s 0)=true then(4,1,0)else(0,0,2)
variable{s:ByteArray}
theorem YK(i:0<s.size)(j:(s.size:Int)<=4611686018427387904):EH s=some (JN s):=by
 have g:=Ge (s:=s) (a:=1) (b:=s.size) (by omega) (by omega) (by omega);have h:=IP N1 (s.extract (1:Int).toNat (s.size:Int).toNat);unfold EH JN;have d:∀c,He c=some (N1 c):=fun _=>rfl;rw[El (by omega) (by omega) (by omega),bs,Ra (by omega) d,bs];rw[BU (by omega) (by omega)];generalize Bx N1 (s.extract (1:Int).toNat (s.size:Int).toNat)=m at *;by_cases he:1+m=s.size
 .simp[he]
 .simp only[he,decide_false,Bool.false_eq_true,if_false,false_or];rw[FH (by omega) (by omega)];simp only[bs];by_cases e:bt s (1+m)=34
  .by_cases f:60<m
   .simp[e,f]
   .simp[e,f,BU (show -9223372036854775808<=m+2 by omega) (by omega)]
  .simp[e]
theorem dx(s:ByteArray):Iq s=some (H3 s):=by
 unfold Iq H3;by_cases c:2<=(s.size:Int)
 .rw[az (by simpa using c),El (by omega) (by omega) c];simp only[bs,Of,c,decide_true,Bool.true_and]
 .rw[bk (by simpa using c)];simp[c]
theorem YJ(g:0<s.size)(e:(s.size:Int)<=4611686018427387904):D9 s=some (FU s):=by
 unfold D9 FU;simp only[FH (Int.le_refl 0) (show(0:Int)<s.size by omega),bs,Sd,QY,Ra e dy,Ra e QY,YK g e,dx,strings_IndexByte];by_cases c:Cu (bt s 0)=true
 .rw[az c,az c];by_cases h:20<Bx G5 s<;>simp[h]
 .rw[bk c,bk c];by_cases hd:rq (bt s 0)=true
  .rw[az hd,az hd];by_cases h:9<Bx rq s<;>simp[h]
  .rw[bk hd,bk hd];by_cases f:bt s 0=34
   .simp only[f,decide_true,if_true]
   .simp only[f,decide_false,Bool.false_eq_true,if_false];by_cases d:H3 s=true
    .rw[az d,az d]
    .rw[bk d,bk d];unfold NA;split<;>simp_all
def AV(S:ByteArray)(a:Int):ByteArray:=S.extract a.toNat (S.size:Int).toNat
variable{S:ByteArray}{a:Int}
theorem FM(c:0<=a)(d:a<=S.size):((AV S a).size:Int)=S.size-a:=Ge c d (Int.le_refl _)
theorem KI{a i:Int}(c:0<=a)(d:a<=S.size)(hi:0<=i)(e:a+i<S.size):bt (AV S a) i=bt S (a+i):=PX c d (Int.le_refl _) hi (by omega)
theorem Ty{a b c:Int}(d:0<=a)(e:a<=S.size)(f:0<=b)(g:b<=c)(h:a+c<=S.size):(AV S a).extract b.toNat c.toNat=S.extract (a+b).toNat (a+c).toNat:=by
 unfold AV;rw[ByteArray.extract_extract];congr 1<;>omega
variable{b:Int}
theorem WH(c:0<=a)(d:0<=b)(e:a+b<=S.size):(AV S a).extract b.toNat ((AV S a).size:Int).toNat=AV S (a+b):=by
 rw [FM c (by omega),Ty c (by omega) d (by omega) (by omega)];unfold AV;congr 1;omega
theorem d7(k:S.size<=20000)(f:0<=a)(g:a<S.size)(d:Bool):Jh S a d=some (Bx (fun c=>rq c||(!d&&(Cu c||decide (c=95)))) (AV S a)):=by
 have m:=FM f (Int.le_of_lt g);unfold Jh;rw[UX (c:=fun i=>(if(rq (bt (AV S a) i)||(!d&&(Cu (bt (AV S a) i)||decide (bt (AV S a) i=95))))then none else some i).map .inl) (a:=0) (b:=(AV S a).size) (by omega)]
 .rw[T5];unfold Bx;cases fst (fun i=>if(rq (bt (AV S a) i)||(!d&&(Cu (bt (AV S a) i)||decide (bt (AV S a) i=95))))=true then none else some i) 0 (AV S a).size<;>rfl
 .intro i j l _;have h:AW (a+i)=a+i:=BU (by omega) (by omega);have e:a+i<(S.size:Int):=by omega
  simp only[h,e,decide_true,if_true,FH (show 0<=a+i by omega) e,bs,UH,Sh,KI f (Int.le_of_lt g) j e]
  grind [rq,bt,Cu,FA,BU]
 .have h:AW (a+((AV S a).size:Int))=S.size:=by rw[BU (by omega) (by omega)];omega
  grind
theorem bK(K:S.size<=20000)(y:0<=a)(z:a<S.size)(L:bt (AV S a) 0=34):∃n,HI S a=some n/\(((JN (AV S a)).2=2/\n=0)\/((JN (AV S a)).2=3/\62<n/\n<=(AV S a).size)\/((JN (AV S a)).2=0/\n=(JN (AV S a)).1/\2<=n/\n<=62/\n<=(AV S a).size)):=by
 have M:=FM y (Int.le_of_lt z);have B:0<(AV S a).size:=by omega
 have D:=Ge (s:=AV S a) (a:=1) (b:=(AV S a).size) (by omega) (by omega) (by omega);have w:=IP N1 ((AV S a).extract (1:Int).toNat ((AV S a).size:Int).toNat);have r:∀j,0<=j->j<((AV S a).size:Int)-1->bt ((AV S a).extract (1:Int).toNat ((AV S a).size:Int).toNat) j=bt (AV S a) (1+j):=fun j A C=>PX (by omega) (by omega) (by omega) A (by omega);unfold HI JN;generalize N:Bx N1 ((AV S a).extract (1:Int).toNat ((AV S a).size:Int).toNat)=m at *;obtain⟨m0,m1,F,G⟩:=w;generalize E:AV S a=s at *;have t:∀i,1<=i->i<(s.size:Int)->(if(decide ((AW (a+i))<(S.size:Int)))=true then
   (rP S (AW (a+i))).bind fun c=>
   if (decide (c=34))=true then
   some (.ret (AW (i+1)))
   else
   if ((decide (c<32))||(decide (126<c)))=true then
   some (.ret 0)
   else
   some (.next (AW (i+1)))
   else
   some (B2.brk (σ:=Int) (ρ:=Int) i))=some (if bt s i=34 then .ret (i+1)else if N1 (bt s i)=true then .next (i+1)else .ret 0):=by
  intro i A C;have h:a+i<(S.size:Int):=by omega
  have e:=KI y (Int.le_of_lt z) (show 0<=i by omega) h;rw[E]at e;simp only[BU (show -9223372036854775808<=a+i by omega) (by omega),h,decide_true,if_true,FH (show 0<=a+i by omega) h,bs,<-e,BU (show -9223372036854775808<=i+1 by omega) (by omega)];unfold N1
  grind
 have u:∀i,i=(s.size:Int)->(if(decide ((AW (a+i))<(S.size:Int)))=true then
   (rP S (AW (a+i))).bind fun c=>
   if (decide (c=34))=true then
   some (.ret (AW (i+1)))
   else
   if ((decide (c<32))||(decide (126<c)))=true then
   some (.ret 0)
   else
   some (.next (AW (i+1)))
   else
   some (B2.brk (σ:=Int) (ρ:=Int) i))=some (.brk i):=by
  rintro i rfl;rw[BU (by omega) (by omega),bk (by simp;omega)]
 have x:∀(k:Nat)(i:Int),1<=i->i+k=1+m->∃o,F9 (fun(q:Int)=>if(decide ((AW (a+q))<(S.size:Int)))=true then
   (rP S (AW (a+q))).bind fun c=>
   if (decide (c=34))=true then
   some (.ret (AW (q+1)))
   else
   if ((decide (c<32))||(decide (126<c)))=true then
   some (.ret 0)
   else
   some (.next (AW (q+1)))
   else
   some (B2.brk (σ:=Int) (ρ:=Int) q)) i o/\(if 1+m=(s.size:Int)then o=.inl (s.size:Int)else if bt s (1+m)=34 then o=.inr (m+2)else o=.inr 0):=by
  intro k
  induction k with
  |zero=>
   intro i hi he;have:i=1+m:=by omega
   subst this;by_cases f:1+m=(s.size:Int)
   .exact⟨_,.brk (u _ f),by rw[az f,f]⟩
   .simp only[f,if_false];have g:=t (1+m) hi (by omega);by_cases d:bt s (1+m)=34
    .rw[az d]at g;exact⟨_,.ret g,by rw[az d];congr 1;omega⟩
    .rw[bk d]at g;have l:=G (by omega);rw[r m m0 (by omega)]at l;rw[l]at g;exact⟨_,.ret g,by rw[bk d]⟩
  |succ k J=>
   intro i hi he;have g:=t i hi (by omega);have l:=F (i-1) (by omega) (by omega);rw[r (i-1) (by omega) (by omega),show 1+(i-1)=i by omega]at l;have v:bt s i≠34:=fun e=>by rw[e]at l;exact absurd l (by decide)
   rw [bk v,az l]at g;obtain⟨o,H,I⟩:=J (i+1) (by omega) (by omega);exact⟨o,.next g H,I⟩
 obtain ⟨o,ho,p⟩:=x m.toNat 1 (by omega) (by omega);rw[ho.eq];by_cases f:1+m=(s.size:Int)
 .rw[az f]at p;subst p;exact⟨0,rfl,.inl ⟨by simp[f],rfl⟩⟩
 .rw[bk f]at p;by_cases d:bt s (1+m)=34
  .rw[az d]at p;subst p;refine⟨m+2,rfl,?_⟩;by_cases v:60<m
   .exact .inr (.inl ⟨by simp[f,d,v],by omega,by omega⟩)
   .exact .inr (.inr ⟨by simp[f,d,v],by simp[f,d,v],by omega,by omega,by omega⟩)
  .rw[bk d]at p;subst p;exact⟨0,rfl,.inl ⟨by simp[d],rfl⟩⟩
theorem Ph{α σ ρ:Type}[Inhabited α](L:List α)(c:α->Bool)(g:α->ρ)(st:σ)(f:Int->σ->Option (B2 σ ρ))(hf:∀i:Int,0<=i->i<L.length->f i st=some (if c (at' L i)=true then .ret (g (at' L i))else .next st)):
  ∀(n i:Nat),i+n=L.length->rX f n i st=some (match(L.drop i).find? c with|some x=>.inr (g x)|none=>.inl st)
 |0,i,h=>by
  rw [rX,List.drop_of_length_le (by omega)];rfl
 |n+1,i,h=>by
  have hi:i<L.length:=by omega
  have d:at' L (i:Int)=L[i]:=by simp[at',hi]
  rw [rX,hf i (by omega) (by omega),List.drop_eq_getElem_cons hi,List.find?_cons,d];cases e:c L[i]with
  |true=>simp|false=>
   simp only[Bool.false_eq_true,if_false];have:=Ph L c g st f hf n (i+1) (by omega);rw[<-this];congr 1
def Nd:List UInt8:=[123,125,40,41,91,93,44,59,58,61,43,45,42,60,62,33,38,124,46,63]
def N4:List ByteArray:=[(⟨#[45,62]⟩:ByteArray),(⟨#[60,61]⟩:ByteArray),(⟨#[62,61]⟩:ByteArray),(⟨#[61,61]⟩:ByteArray),(⟨#[33,61]⟩:ByteArray)]
def OB(s x:ByteArray):Bool:=decide (x.size<=s.size)&&(s.extract (0:Int).toNat (x.size:Int).toNat==x)
theorem Tz(h:0<s.size):s.extract (0:Int).toNat (1:Int).toNat=⟨#[s.data.toList.getD 0 0]⟩:=by
 have d:0<s.data.size:=h;apply ByteArray.ext;rw[ByteArray.data_extract];apply Array.ext
 .simp;omega
 .intro i e c;have:i=0:=by simp at c;omega
  subst this;simp;rw[Array.getElem?_eq_getElem d];rfl
variable{α:Type}
theorem QR[BEq α][LawfulBEq α](x:α):∀l:List α,l.find? (fun y=>x==y)=if l.contains x=true then some x else none
 |[]=>rfl|y::l=>by
  rw [List.find?_cons,List.contains_cons,QR x l];by_cases h:x=y
  .subst h;simp
  .have c:(x==y)=false:=by simpa using h
   rw [c];simp
theorem Qy(c:UInt8):∀l:List UInt8,decide (0<=Go.Lib.indexByte l c)=l.contains c
 |[]=>rfl|b::l=>by
  have f:=Qy c l;have k:=Go.Lib.indexByte_ge l c;rw[List.contains_cons,<-f];show decide (0<=(if(b==c)=true then(0:Int)else if(Go.Lib.indexByte l c==-1)=true then -1 else Go.Lib.indexByte l c+1))=_;by_cases h:b=c
  .subst h;simp
  .have g:(b==c)=false:=by simpa using h
   have i:(c==b)=false:=by simpa using fun e:c=b=>h e.symm
   rw [g,i];simp only[Bool.false_eq_true,if_false,Bool.false_or];by_cases d:Go.Lib.indexByte l c=-1
   .rw[d];rfl
   .rw[bk (by simpa using d)];have:0<=Go.Lib.indexByte l c:=by omega
    have j:0<=Go.Lib.indexByte l c+1:=by omega
    simp [this,j]
theorem J3{p q:α->Bool}:∀{l:List α},(∀x∈l,p x=q x)->l.find? p=l.find? q
 |[],_=>rfl|x::l,h=>by
  rw [List.find?_cons,List.find?_cons,h x (by simp),J3 fun y c=>h y (by simp[c])]
theorem Wv(h:0<s.size):(N4++Nd.map fun b=>(⟨#[b]⟩:ByteArray)).find? (OB s)=if H3 s=true then some (s.extract (0:Int).toNat (2:Int).toNat)else if NA (bt s 0)=true then some (s.extract (0:Int).toNat (1:Int).toNat)else none:=by
 have j:N4.find? (OB s)=if H3 s=true then some (s.extract (0:Int).toNat (2:Int).toNat)else none:=by
  have f:∀y∈N4,y.size=2:=fun y d=>by
   simp only[N4,List.mem_cons,List.not_mem_nil,or_false]at d;rcases d with rfl|rfl|rfl|rfl|rfl<;>rfl
  unfold H3;by_cases i:2<=(s.size:Int)
  .have g:2<=s.size:=by omega
   rw [J3 (q:=fun y=>s.extract (0:Int).toNat (2:Int).toNat==y) fun y d=>by unfold OB;rw[f y d];simp[g],QR];simp only[i,decide_true,Bool.true_and];rfl
  .rw[J3 (q:=fun _=>false) fun y d=>by unfold OB;rw[f y d];simp;omega];simp[i]
 have k:(Nd.map fun b=>(⟨#[b]⟩:ByteArray)).find? (OB s)=if NA (bt s 0)=true then some (s.extract (0:Int).toNat (1:Int).toNat)else none:=by
  have l:(1:Nat)<=s.size:=h;rw[List.find?_map,J3 (q:=fun b=>s.data.toList.getD 0 0==b) fun b _=>by
   show OB s ⟨#[b]⟩=_;unfold OB;have e:(⟨#[b]⟩:ByteArray).size=1:=rfl;rw[e];have m:=Tz h;simp only[l,decide_true,Bool.true_and];rw[show((1:Nat):Int).toNat=(1:Int).toNat from rfl,m];rw[Bool.eq_iff_iff];simp,QR]
  have n:NA (bt s 0)=Nd.contains (s.data.toList.getD 0 0):=by
   unfold NA bt;have:((s.data.toList.getD (0:Int).toNat 0).toNat:Int).toNat.toUInt8=s.data.toList.getD 0 0:=by
    simp
   rw [this,Qy];rfl
  rw [n,Tz h];by_cases c:Nd.contains (s.data.toList.getD 0 0)=true
  .rw[az c,az c];rfl
  .rw[bk c,bk c];rfl
 rw [List.find?_append,j,k];by_cases c:H3 s=true
 .rw[az c,az c];rfl
 .rw[bk c,bk c];rfl
def NE(s:ByteArray):ByteArray:=if(FU s).1=3 then s.extract (1:Int).toNat ((FU s).2.1-1).toNat else s.extract (0:Int).toNat (FU s).2.1.toNat
theorem QF{p:Int->Bool}(h:0<s.size)(f:p (bt s 0)=true):1<=Bx p s/\Bx p s<=s.size:=by
 obtain ⟨a,b,c,d⟩:=IP p s;refine⟨?_,b⟩;by_cases e:Bx p s=0
 .rw[e]at d;have:=d (by omega);rw[f]at this;cases this
 .omega
theorem Sj(U:S.size<=20000)(j:0<=a)(k:a<S.size):∃t n e,HH S a=some (t,n,e)/\e=(FU (AV S a)).2.2/\(e=0->n=(FU (AV S a)).2.1/\t.rh=(FU (AV S a)).1/\t.sn=NE (AV S a)/\1<=n/\n<=(AV S a).size/\(t.rh=3->2<=n)):=by
 have hz:=FM j (Int.le_of_lt k);have d:0<(AV S a).size:=by omega
 have J:bt S a=bt (AV S a) 0:=by rw[KI j (Int.le_of_lt k) (Int.le_refl 0) (by omega)];congr 1;omega
 have B:=fun b c(Z:0<=b)(r:b<=c)(u:a+c<=S.size)=>Ty (S:=S) j (Int.le_of_lt k) Z r u;have hQ:=bK U j k;have hR:=d7 U j k;unfold HH;simp only[FH j k,bs,Sh,UH,J,hR];unfold NE FU;generalize hg:AV S a=s at *;by_cases C:Cu (bt s 0)=true
 .have hd:rq (bt s 0)=false:=by
   unfold Cu at C;unfold rq
   grind
  have f:Bx (fun c=>rq c||(!false&&(Cu c||decide (c=95)))) s=Bx G5 s:=by
   congr 1;funext c;unfold G5;cases rq c<;>cases Cu c<;>rfl
  have g:=QF (p:=G5) d (by unfold G5;rw[C];rfl);simp only[C,if_true,hd,Bool.false_eq_true,if_false,bs,f];by_cases z:20<Bx G5 s
  .simp only[z,decide_true,if_true];exact⟨_,_,_,rfl,rfl,fun h=>by cases h⟩
  .simp only[z,decide_false,Bool.false_eq_true,if_false,BU (show -9223372036854775808<=a+Bx G5 s by omega) (by omega)];rw[El j (by omega) (by omega)];refine⟨_,_,_,rfl,rfl,fun _=>⟨rfl,rfl,?_,g.1,g.2,by simp⟩⟩;have:=B 0 (Bx G5 s) (Int.le_refl 0) (by omega) (by omega);rw[Int.add_zero]at this;rw[bk (by decide)];exact this.symm
 .have K:Cu (bt s 0)=false:=by simpa using C
  simp only[K,Bool.false_eq_true,if_false,bs];by_cases hd:rq (bt s 0)=true
  .have f:Bx (fun c=>rq c||(!true&&(Cu c||decide (c=95)))) s=Bx rq s:=by
    congr 1;funext c;simp
   have g:=QF (p:=rq) d hd;simp only[hd,if_true,bs,f];by_cases W:9<Bx rq s
   .simp only[W,decide_true,if_true];exact⟨_,_,_,rfl,rfl,fun h=>by cases h⟩
   .simp only[W,decide_false,Bool.false_eq_true,if_false,BU (show -9223372036854775808<=a+Bx rq s by omega) (by omega)];rw[El j (by omega) (by omega)];refine⟨_,_,_,rfl,rfl,fun _=>⟨rfl,rfl,?_,g.1,g.2,by simp⟩⟩;have:=B 0 (Bx rq s) (Int.le_refl 0) (by omega) (by omega);rw[Int.add_zero]at this;rw[bk (by decide)];exact this.symm
  .have M:rq (bt s 0)=false:=by simpa using hd
   simp only[M,Bool.false_eq_true,if_false,bs];by_cases N:bt s 0=34
   .obtain⟨n,hn,R⟩:=hQ N;simp only[N,decide_true,if_true,hn,bs];rcases R with⟨A,rfl⟩|⟨A,T,Y⟩|⟨A,T,Y,e4,e5⟩
    .exact⟨_,_,_,rfl,A.symm,fun h=>by cases h⟩
    .rw[bk (by simp;omega),az (by rw[BU (by omega) (by omega)];simp;omega)];exact⟨_,_,_,rfl,A.symm,fun h=>by cases h⟩
    .rw[bk (by simp;omega),bk (by rw[BU (by omega) (by omega)];simp;omega)];rw[BU (show -9223372036854775808<=a+1 by omega) (by omega),BU (show -9223372036854775808<=a+n by omega) (by omega),BU (show -9223372036854775808<=a+n-1 by omega) (by omega),El (by omega) (by omega) (by omega)];refine⟨_,_,_,rfl,A.symm,fun _=>⟨T,rfl,?_,by omega,e5,fun _=>Y⟩⟩;have:=B 1 (n-1) (by omega) (by omega) (by omega);rw[show a+(n-1)=a+n-1 by omega]at this;show _=s.extract (Int.toNat 1) ((JN s).1-1).toNat
     rw [<-T];exact this.symm
   .simp only[N,decide_false,Bool.false_eq_true,if_false];have hf:=Wv d;generalize X:N4++Nd.map (fun b=>(⟨#[b]⟩:ByteArray))=L at hf;have O:∀x∈L,x.size<=2:=by subst X;decide
    have P:JP=some L:=by rw[<-X];rfl
    rw [P,bs];have o:∀x∈L,(if decide ((AW (a+(x.size:Int)))<=(S.size:Int))=true then((rR S a (AW (a+(x.size:Int)))).bind fun m=>some (m==x))else some false)=some (OB s x):=by
     intro x I;have u:=O x I;rw[BU (by omega) (by omega)];unfold OB;by_cases r:a+(x.size:Int)<=S.size
     .have q:x.size<=s.size:=by omega
      rw [az (by simpa using r),El j (by omega) r,bs];have:=B 0 x.size (Int.le_refl 0) (by omega) r;rw[Int.add_zero]at this;rw[this];simp[q]
     .have q:¬x.size<=s.size:=by omega
      rw [bk (by simpa using r)];simp[q]
    have l:=Ph L (OB s) (fun x=>(AY.mk 4 x 0,(x.size:Int),(0:Int))) (AY.mk 0 (⟨#[]⟩:ByteArray) 0) (fun(v:Int)(s0:AY)=>
      (idx L v).bind fun E=>
      (if(decide ((AW (a+(E.size:Int)))<=(S.size:Int)))=true then((idx L v).bind fun F=>
      (rR S a (AW (a+(F.size:Int)))).bind fun m=>
      (idx L v).bind fun G=>
      some (m==G))else some false).bind fun H=>
      if H=true then
      (idx L v).bind fun w=>
      (idx L v).bind fun y=>
      some (.ret (AY.mk 4 w 0,(y.size:Int),0))
      else
      some (.next s0)) (fun i u V=>by
     have:=o _ (B6 u V);simp only[Ds u V,bs];rw[this,bs];cases OB s (at' L i)<;>rfl) L.length 0 (by omega)
    unfold rb;rw[Int.sub_zero,Int.toNat_natCast];rw[show((0:Nat):Int)=0 from rfl]at l;rw[l,List.drop_zero,hf];by_cases D:H3 s=true
    .have u:2<=s.size:=by unfold H3 at D;simp at D;omega
     have Q:=Ge (s:=s) (a:=0) (b:=2) (by omega) (by omega) (by omega);simp only[D,if_true];exact⟨_,_,_,rfl,rfl,fun _=>⟨by omega,rfl,rfl,by omega,by omega,fun h=>by cases h⟩⟩
    .simp only[D,Bool.false_eq_true,if_false];have Q:=Ge (s:=s) (a:=0) (b:=1) (by omega) (by omega) (by omega);by_cases k:NA (bt s 0)=true
     .simp only[k,if_true];exact⟨_,_,_,rfl,rfl,fun _=>⟨by omega,rfl,rfl,by omega,by omega,fun h=>by cases h⟩⟩
     .simp only[k,Bool.false_eq_true,if_false];exact⟨_,_,_,rfl,rfl,fun h=>by cases h⟩
end Go.Sf.Sc
