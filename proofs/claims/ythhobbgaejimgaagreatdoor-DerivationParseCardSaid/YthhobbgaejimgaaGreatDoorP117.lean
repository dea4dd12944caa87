/- Plain lemmas: what the functions of the program and of the reference compute. -/
import Derived.Test.YthhobbgaejimgaaGreatDoorP1
set_option linter.all false
set_option maxRecDepth 100000
namespace Go.Sf.Sc
open Go Go.Sf
def N4(c:Int):Bool:=((decide (32<=c))&&(decide (c<=126)))&&(!decide (c=34))
def Jo(s:ByteArray):Int×Int:=
 let m:=CH N4 (s.extract (1:Int).toNat (s.size:Int).toNat)
 if 1+m=(s.size:Int)\/bt s (1+m)≠34 then(0,2)else if 60<m then(0,3)else(m+2,0)
def Jl(s:ByteArray):Bool:=decide (2<=(s.size:Int))&&[(⟨#[45,62]⟩:ByteArray),(⟨#[60,61]⟩:ByteArray),(⟨#[62,61]⟩:ByteArray),(⟨#[61,61]⟩:ByteArray),(⟨#[33,61]⟩:ByteArray)].contains (s.extract (0:Int).toNat (2:Int).toNat)
def Mk(c:Int):Bool:=decide (0<=Go.Lib.indexByte (⟨#[123,125,40,41,91,93,44,59,58,61,43,45,42,60,62,33,38,124,46,63]⟩:ByteArray).data.toList c.toNat.toUInt8)
def Ha(s:ByteArray):Int×Int×Int:=
 if By (bt s 0)=true then(if 20<CH FE s then(0,0,3)else(1,CH FE s,0))
 else if qk (bt s 0)=true then(if 9<CH qk s then(0,0,3)else(2,CH qk s,0))
 else if bt s 0=34 then(3,(Jo s).1,(Jo s).2)
 else if Jl s=true then(4,2,0)
 else if Mk (bt s 0)=true then(4,1,0)else(0,0,2)
variable{s:ByteArray}
theorem Xq(h0:0<s.size)(i:(s.size:Int)<=4611686018427387904):DD s=some (Jo s):=by
 have g:=FM (s:=s) (a:=1) (b:=s.size) (by omega) (by omega) (by omega);have h:=Hd N4 (s.extract (1:Int).toNat (s.size:Int).toNat);unfold DD Jo;have d:∀c,GH c=some (N4 c):=fun _=>rfl;rw[Cs (by omega) (by omega) (by omega),bs,Ma (by omega) d,bs];rw[Au (by omega) (by omega)];generalize CH N4 (s.extract (1:Int).toNat (s.size:Int).toNat)=m at *;by_cases he:1+m=s.size
 .simp[he]
 .simp only[he,decide_false,Bool.false_eq_true,if_false,false_or];rw[Dp (by omega) (by omega)];simp only[bs];by_cases e:bt s (1+m)=34
  .by_cases f:60<m
   .simp[e,f]
   .simp[e,f,Au (show -9223372036854775808<=m+2 by omega) (by omega)]
  .simp[e]
theorem de(s:ByteArray):Gl s=some (Jl s):=by
 unfold Gl Jl;by_cases b:2<=(s.size:Int)
 .rw[QQ (by simpa using b),Cs (by omega) (by omega) b];simp only[bs,H1,b,decide_true,Bool.true_and]
 .rw[a6 (by simpa using b)];simp[b]
theorem dc(h0:0<s.size)(d:(s.size:Int)<=4611686018427387904):DF s=some (Ha s):=by
 unfold DF Ha;simp only[Dp (Int.le_refl 0) (show(0:Int)<s.size by omega),bs,PA,Lr,Ma d WD,Ma d Lr,Xq h0 d,de,strings_IndexByte];by_cases b:By (bt s 0)=true
 .rw[QQ b,QQ b];by_cases h:20<CH FE s<;>simp[h]
 .rw[a6 b,a6 b];by_cases hd:qk (bt s 0)=true
  .rw[QQ hd,QQ hd];by_cases h:9<CH qk s<;>simp[h]
  .rw[a6 hd,a6 hd];by_cases e:bt s 0=34
   .simp only[e,decide_true,if_true]
   .simp only[e,decide_false,Bool.false_eq_true,if_false];by_cases c:Jl s=true
    .rw[QQ c,QQ c]
    .rw[a6 c,a6 c];unfold Mk;split<;>simp_all
def AZ(S:ByteArray)(a:Int):ByteArray:=S.extract a.toNat (S.size:Int).toNat
theorem FU{S:ByteArray}{a:Int}(h0:0<=a)(h1:a<=S.size):((AZ S a).size:Int)=S.size-a:=FM h0 h1 (Int.le_refl _)
theorem Kd{S:ByteArray}{a i:Int}(h0:0<=a)(h1:a<=S.size)(hi:0<=i)(b:a+i<S.size):bt (AZ S a) i=bt S (a+i):=Pe h0 h1 (Int.le_refl _) hi (by omega)
theorem Tf{S:ByteArray}{a b c:Int}(h0:0<=a)(h1:a<=S.size)(d:0<=b)(e:b<=c)(f:a+c<=S.size):(AZ S a).extract b.toNat c.toNat=S.extract (a+b).toNat (a+c).toNat:=by
 unfold AZ;rw[ByteArray.extract_extract];congr 1<;>omega
theorem V1{S:ByteArray}{a b:Int}(h0:0<=a)(c:0<=b)(d:a+b<=S.size):(AZ S a).extract b.toNat ((AZ S a).size:Int).toNat=AZ S (a+b):=by
 rw [FU h0 (by omega),Tf h0 (by omega) c (by omega) (by omega)];unfold AZ;congr 1;omega
theorem dt{S:ByteArray}{a:Int}(hS:S.size<=20000)(h0:0<=a)(h1:a<S.size)(d:Bool):Hc S a d=some (CH (fun c=>qk c||(!d&&(By c||decide (c=95)))) (AZ S a)):=by
 have j:=FU h0 (Int.le_of_lt h1);unfold Hc;rw[Kh (c:=fun i=>(if(qk (bt (AZ S a) i)||(!d&&(By (bt (AZ S a) i)||decide (bt (AZ S a) i=95))))then none else some i).map .inl) (a:=0) (b:=(AZ S a).size) (by omega)]
 .rw[OO];unfold CH;cases fst (fun i=>if(qk (bt (AZ S a) i)||(!d&&(By (bt (AZ S a) i)||decide (bt (AZ S a) i=95))))=true then none else some i) 0 (AZ S a).size<;>rfl
 .intro i g h _;have f:AT (a+i)=a+i:=Au (by omega) (by omega);have e:a+i<(S.size:Int):=by omega
  simp only[f,e,decide_true,if_true,Dp (show 0<=a+i by omega) e,bs,Od,Me,Kd h0 (Int.le_of_lt h1) g e]
  grind [qk,bt,By,Eu,Au]
 .have f:AT (a+((AZ S a).size:Int))=S.size:=by rw[Au (by omega) (by omega)];omega
  grind
theorem ai{S:ByteArray}{a:Int}(hS:S.size<=20000)(h0:0<=a)(h1:a<S.size)(I:bt (AZ S a) 0=34):∃n,E1 S a=some n/\(((Jo (AZ S a)).2=2/\n=0)\/((Jo (AZ S a)).2=3/\62<n/\n<=(AZ S a).size)\/((Jo (AZ S a)).2=0/\n=(Jo (AZ S a)).1/\2<=n/\n<=62/\n<=(AZ S a).size)):=by
 have J:=FU h0 (Int.le_of_lt h1);have z:0<(AZ S a).size:=by omega
 have B:=FM (s:=AZ S a) (a:=1) (b:=(AZ S a).size) (by omega) (by omega) (by omega);have w:=Hd N4 ((AZ S a).extract (1:Int).toNat ((AZ S a).size:Int).toNat);have r:∀j,0<=j->j<((AZ S a).size:Int)-1->bt ((AZ S a).extract (1:Int).toNat ((AZ S a).size:Int).toNat) j=bt (AZ S a) (1+j):=fun j y A=>Pe (by omega) (by omega) (by omega) y (by omega);unfold E1 Jo;generalize K:CH N4 ((AZ S a).extract (1:Int).toNat ((AZ S a).size:Int).toNat)=m at *;obtain⟨m0,m1,D,E⟩:=w;generalize C:AZ S a=s at *;have t:∀i,1<=i->i<(s.size:Int)->(if(decide ((AT (a+i))<(S.size:Int)))=true then
   (rx S (AT (a+i))).bind fun c=>
   if (decide (c=34))=true then
   some (.ret (AT (i+1)))
   else
   if ((decide (c<32))||(decide (126<c)))=true then
   some (.ret 0)
   else
   some (.next (AT (i+1)))
   else
   some (Bk.brk (σ:=Int) (ρ:=Int) i))=some (if bt s i=34 then .ret (i+1)else if N4 (bt s i)=true then .next (i+1)else .ret 0):=by
  intro i y A;have h:a+i<(S.size:Int):=by omega
  have e:=Kd h0 (Int.le_of_lt h1) (show 0<=i by omega) h;rw[C]at e;simp only[Au (show -9223372036854775808<=a+i by omega) (by omega),h,decide_true,if_true,Dp (show 0<=a+i by omega) h,bs,<-e,Au (show -9223372036854775808<=i+1 by omega) (by omega)];unfold N4
  grind
 have u:∀i,i=(s.size:Int)->(if(decide ((AT (a+i))<(S.size:Int)))=true then
   (rx S (AT (a+i))).bind fun c=>
   if (decide (c=34))=true then
   some (.ret (AT (i+1)))
   else
   if ((decide (c<32))||(decide (126<c)))=true then
   some (.ret 0)
   else
   some (.next (AT (i+1)))
   else
   some (Bk.brk (σ:=Int) (ρ:=Int) i))=some (.brk i):=by
  rintro i rfl;rw[Au (by omega) (by omega),a6 (by simp;omega)]
 have x:∀(k:Nat)(i:Int),1<=i->i+k=1+m->∃o,Fk (fun(q:Int)=>if(decide ((AT (a+q))<(S.size:Int)))=true then
   (rx S (AT (a+q))).bind fun c=>
   if (decide (c=34))=true then
   some (.ret (AT (q+1)))
   else
   if ((decide (c<32))||(decide (126<c)))=true then
   some (.ret 0)
   else
   some (.next (AT (q+1)))
   else
   some (Bk.brk (σ:=Int) (ρ:=Int) q)) i o/\(if 1+m=(s.size:Int)then o=.inl (s.size:Int)else if bt s (1+m)=34 then o=.inr (m+2)else o=.inr 0):=by
  intro k
  induction k with
  |zero=>
   intro i hi he;have:i=1+m:=by omega
   subst this;by_cases f:1+m=(s.size:Int)
   .exact⟨_,.brk (u _ f),by rw[QQ f,f]⟩
   .simp only[f,if_false];have g:=t (1+m) hi (by omega);by_cases d:bt s (1+m)=34
    .rw[QQ d]at g;exact⟨_,.ret g,by rw[QQ d];congr 1;omega⟩
    .rw[a6 d]at g;have l:=E (by omega);rw[r m m0 (by omega)]at l;rw[l]at g;exact⟨_,.ret g,by rw[a6 d]⟩
  |succ k H=>
   intro i hi he;have g:=t i hi (by omega);have l:=D (i-1) (by omega) (by omega);rw[r (i-1) (by omega) (by omega),show 1+(i-1)=i by omega]at l;have v:bt s i≠34:=fun e=>by rw[e]at l;exact absurd l (by decide)
   rw [a6 v,QQ l]at g;obtain⟨o,F,G⟩:=H (i+1) (by omega) (by omega);exact⟨o,.next g F,G⟩
 obtain ⟨o,ho,p⟩:=x m.toNat 1 (by omega) (by omega);rw[ho.eq];by_cases f:1+m=(s.size:Int)
 .rw[QQ f]at p;subst p;exact⟨0,rfl,.inl ⟨by simp[f],rfl⟩⟩
 .rw[a6 f]at p;by_cases d:bt s (1+m)=34
  .rw[QQ d]at p;subst p;refine⟨m+2,rfl,?_⟩;by_cases v:60<m
   .exact .inr (.inl ⟨by simp[f,d,v],by omega,by omega⟩)
   .exact .inr (.inr ⟨by simp[f,d,v],by simp[f,d,v],by omega,by omega,by omega⟩)
  .rw[a6 d]at p;subst p;exact⟨0,rfl,.inl ⟨by simp[d],rfl⟩⟩
theorem Po{α σ ρ:Type}[Inhabited α](L:List α)(c:α->Bool)(g:α->ρ)(st:σ)(f:Int->σ->Option (Bk σ ρ))(hf:∀i:Int,0<=i->i<L.length->f i st=some (if c (at' L i)=true then .ret (g (at' L i))else .next st)):
  ∀(n i:Nat),i+n=L.length->rM f n i st=some (match(L.drop i).find? c with|some x=>.inr (g x)|none=>.inl st)
 |0,i,h=>by
  rw [rM,List.drop_of_length_le (by omega)];rfl
 |n+1,i,h=>by
  have hi:i<L.length:=by omega
  have b:at' L (i:Int)=L[i]:=by simp[at',hi]
  rw [rM,hf i (by omega) (by omega),List.drop_eq_getElem_cons hi,List.find?_cons,b];cases d:c L[i]with
  |true=>simp|false=>
   simp only[Bool.false_eq_true,if_false];have:=Po L c g st f hf n (i+1) (by omega);rw[<-this];congr 1
def Nc:List UInt8:=[123,125,40,41,91,93,44,59,58,61,43,45,42,60,62,33,38,124,46,63]
def N7:List ByteArray:=[(⟨#[45,62]⟩:ByteArray),(⟨#[60,61]⟩:ByteArray),(⟨#[62,61]⟩:ByteArray),(⟨#[61,61]⟩:ByteArray),(⟨#[33,61]⟩:ByteArray)]
def OD(s x:ByteArray):Bool:=decide (x.size<=s.size)&&(s.extract (0:Int).toNat (x.size:Int).toNat==x)
variable{s:ByteArray}
theorem Tg(h:0<s.size):s.extract (0:Int).toNat (1:Int).toNat=⟨#[s.data.toList.getD 0 0]⟩:=by
 have c:0<s.data.size:=h;apply ByteArray.ext;rw[ByteArray.data_extract];apply Array.ext
 .simp;omega
 .intro i d b;have:i=0:=by simp at b;omega
  subst this;simp;rw[Array.getElem?_eq_getElem c];rfl
variable{α:Type}
theorem QY[BEq α][LawfulBEq α](x:α):∀l:List α,l.find? (fun y=>x==y)=if l.contains x=true then some x else none
 |[]=>rfl|y::l=>by
  rw [List.find?_cons,List.contains_cons,QY x l];by_cases h:x=y
  .subst h;simp
  .have h1:(x==y)=false:=by simpa using h
   rw [h1];simp
theorem Q2(c:UInt8):∀l:List UInt8,decide (0<=Go.Lib.indexByte l c)=l.contains c
 |[]=>rfl|b::l=>by
  have f:=Q2 c l;have j:=Go.Lib.indexByte_ge l c;rw[List.contains_cons,<-f];show decide (0<=(if(b==c)=true then(0:Int)else if(Go.Lib.indexByte l c==-1)=true then -1 else Go.Lib.indexByte l c+1))=_;by_cases h:b=c
  .subst h;simp
  .have h1:(b==c)=false:=by simpa using h
   have g:(c==b)=false:=by simpa using fun e:c=b=>h e.symm
   rw [h1,g];simp only[Bool.false_eq_true,if_false,Bool.false_or];by_cases d:Go.Lib.indexByte l c=-1
   .rw[d];rfl
   .rw[a6 (by simpa using d)];have:0<=Go.Lib.indexByte l c:=by omega
    have i:0<=Go.Lib.indexByte l c+1:=by omega
    simp [this,i]
theorem KP{p q:α->Bool}:∀{l:List α},(∀x∈l,p x=q x)->l.find? p=l.find? q
 |[],_=>rfl|x::l,h=>by
  rw [List.find?_cons,List.find?_cons,h x (by simp),KP fun y b=>h y (by simp[b])]
theorem Wc(h:0<s.size):(N7++Nc.map fun b=>(⟨#[b]⟩:ByteArray)).find? (OD s)=if Jl s=true then some (s.extract (0:Int).toNat (2:Int).toNat)else if Mk (bt s 0)=true then some (s.extract (0:Int).toNat (1:Int).toNat)else none:=by
 have j:N7.find? (OD s)=if Jl s=true then some (s.extract (0:Int).toNat (2:Int).toNat)else none:=by
  have f:∀y∈N7,y.size=2:=fun y d=>by
   simp only[N7,List.mem_cons,List.not_mem_nil,or_false]at d;rcases d with rfl|rfl|rfl|rfl|rfl<;>rfl
  unfold Jl;by_cases i:2<=(s.size:Int)
  .have g:2<=s.size:=by omega
   rw [KP (q:=fun y=>s.extract (0:Int).toNat (2:Int).toNat==y) fun y d=>by unfold OD;rw[f y d];simp[g],QY];simp only[i,decide_true,Bool.true_and];rfl
  .rw[KP (q:=fun _=>false) fun y d=>by unfold OD;rw[f y d];simp;omega];simp[i]
 have k:(Nc.map fun b=>(⟨#[b]⟩:ByteArray)).find? (OD s)=if Mk (bt s 0)=true then some (s.extract (0:Int).toNat (1:Int).toNat)else none:=by
  have h1:(1:Nat)<=s.size:=h;rw[List.find?_map,KP (q:=fun b=>s.data.toList.getD 0 0==b) fun b _=>by
   show OD s ⟨#[b]⟩=_;unfold OD;have e:(⟨#[b]⟩:ByteArray).size=1:=rfl;rw[e];have l:=Tg h;simp only[h1,decide_true,Bool.true_and];rw[show((1:Nat):Int).toNat=(1:Int).toNat from rfl,l];rw[Bool.eq_iff_iff];simp,QY]
  have m:Mk (bt s 0)=Nc.contains (s.data.toList.getD 0 0):=by
   unfold Mk bt;have:((s.data.toList.getD (0:Int).toNat 0).toNat:Int).toNat.toUInt8=s.data.toList.getD 0 0:=by
    simp
   rw [this,Q2];rfl
  rw [m,Tg h];by_cases c:Nc.contains (s.data.toList.getD 0 0)=true
  .rw[QQ c,QQ c];rfl
  .rw[a6 c,a6 c];rfl
 rw [List.find?_append,j,k];by_cases c:Jl s=true
 .rw[QQ c,QQ c];rfl
 .rw[a6 c,a6 c];rfl
def PP(s:ByteArray):ByteArray:=if(Ha s).1=3 then s.extract (1:Int).toNat ((Ha s).2.1-1).toNat else s.extract (0:Int).toNat (Ha s).2.1.toNat
theorem QN{p:Int->Bool}(h:0<s.size)(h1:p (bt s 0)=true):1<=CH p s/\CH p s<=s.size:=by
 obtain ⟨a,b,c,d⟩:=Hd p s;refine⟨?_,b⟩;by_cases e:CH p s=0
 .rw[e]at d;have:=d (by omega);rw[h1]at this;cases this
 .omega
theorem SV{S:ByteArray}{a:Int}(hS:S.size<=20000)(h0:0<=a)(h1:a<S.size):∃t n e,FY S a=some (t,n,e)/\e=(Ha (AZ S a)).2.2/\(e=0->n=(Ha (AZ S a)).2.1/\t.qh=(Ha (AZ S a)).1/\t.r7=PP (AZ S a)/\1<=n/\n<=(AZ S a).size/\(t.qh=3->2<=n)):=by
 have hz:=FU h0 (Int.le_of_lt h1);have d:0<(AZ S a).size:=by omega
 have H:bt S a=bt (AZ S a) 0:=by rw[Kd h0 (Int.le_of_lt h1) (Int.le_refl 0) (by omega)];congr 1;omega
 have z:=fun b c(W:0<=b)(o:b<=c)(q:a+c<=S.size)=>Tf (S:=S) h0 (Int.le_of_lt h1) W o q;have Y:=ai hS h0 h1;have Z:=dt hS h0 h1;unfold FY;simp only[Dp h0 h1,bs,Me,Od,H,Z];unfold PP Ha;generalize hg:AZ S a=s at *;by_cases A:By (bt s 0)=true
 .have hd:qk (bt s 0)=false:=by
   unfold By at A;unfold qk
   grind
  have f:CH (fun c=>qk c||(!false&&(By c||decide (c=95)))) s=CH FE s:=by
   congr 1;funext c;unfold FE;cases qk c<;>cases By c<;>rfl
  have g:=QN (p:=FE) d (by unfold FE;rw[A];rfl);simp only[A,if_true,hd,Bool.false_eq_true,if_false,bs,f];by_cases w:20<CH FE s
  .simp only[w,decide_true,if_true];exact⟨_,_,_,rfl,rfl,fun h=>by cases h⟩
  .simp only[w,decide_false,Bool.false_eq_true,if_false,Au (show -9223372036854775808<=a+CH FE s by omega) (by omega)];rw[Cs h0 (by omega) (by omega)];refine⟨_,_,_,rfl,rfl,fun _=>⟨rfl,rfl,?_,g.1,g.2,by simp⟩⟩;have:=z 0 (CH FE s) (Int.le_refl 0) (by omega) (by omega);rw[Int.add_zero]at this;rw[a6 (by decide)];exact this.symm
 .have I:By (bt s 0)=false:=by simpa using A
  simp only[I,Bool.false_eq_true,if_false,bs];by_cases hd:qk (bt s 0)=true
  .have f:CH (fun c=>qk c||(!true&&(By c||decide (c=95)))) s=CH qk s:=by
    congr 1;funext c;simp
   have g:=QN (p:=qk) d hd;simp only[hd,if_true,bs,f];by_cases T:9<CH qk s
   .simp only[T,decide_true,if_true];exact⟨_,_,_,rfl,rfl,fun h=>by cases h⟩
   .simp only[T,decide_false,Bool.false_eq_true,if_false,Au (show -9223372036854775808<=a+CH qk s by omega) (by omega)];rw[Cs h0 (by omega) (by omega)];refine⟨_,_,_,rfl,rfl,fun _=>⟨rfl,rfl,?_,g.1,g.2,by simp⟩⟩;have:=z 0 (CH qk s) (Int.le_refl 0) (by omega) (by omega);rw[Int.add_zero]at this;rw[a6 (by decide)];exact this.symm
  .have J:qk (bt s 0)=false:=by simpa using hd
   simp only[J,Bool.false_eq_true,if_false,bs];by_cases K:bt s 0=34
   .obtain⟨n,hn,P⟩:=Y K;simp only[K,decide_true,if_true,hn,bs];rcases P with⟨y,rfl⟩|⟨y,Q,V⟩|⟨y,Q,V,e4,e5⟩
    .exact⟨_,_,_,rfl,y.symm,fun h=>by cases h⟩
    .rw[a6 (by simp;omega),QQ (by rw[Au (by omega) (by omega)];simp;omega)];exact⟨_,_,_,rfl,y.symm,fun h=>by cases h⟩
    .rw[a6 (by simp;omega),a6 (by rw[Au (by omega) (by omega)];simp;omega)];rw[Au (show -9223372036854775808<=a+1 by omega) (by omega),Au (show -9223372036854775808<=a+n by omega) (by omega),Au (show -9223372036854775808<=a+n-1 by omega) (by omega),Cs (by omega) (by omega) (by omega)];refine⟨_,_,_,rfl,y.symm,fun _=>⟨Q,rfl,?_,by omega,e5,fun _=>V⟩⟩;have:=z 1 (n-1) (by omega) (by omega) (by omega);rw[show a+(n-1)=a+n-1 by omega]at this;show _=s.extract (Int.toNat 1) ((Jo s).1-1).toNat
     rw [<-Q];exact this.symm
   .simp only[K,decide_false,Bool.false_eq_true,if_false];have hf:=Wc d;generalize U:N7++Nc.map (fun b=>(⟨#[b]⟩:ByteArray))=L at hf;have M:∀x∈L,x.size<=2:=by subst U;decide
    have N:H6=some L:=by rw[<-U];rfl
    rw [N,bs];have l:∀x∈L,(if decide ((AT (a+(x.size:Int)))<=(S.size:Int))=true then((rB S a (AT (a+(x.size:Int)))).bind fun k=>some (k==x))else some false)=some (OD s x):=by
     intro x G;have q:=M x G;rw[Au (by omega) (by omega)];unfold OD;by_cases o:a+(x.size:Int)<=S.size
     .have m:x.size<=s.size:=by omega
      rw [QQ (by simpa using o),Cs h0 (by omega) o,bs];have:=z 0 x.size (Int.le_refl 0) (by omega) o;rw[Int.add_zero]at this;rw[this];simp[m]
     .have m:¬x.size<=s.size:=by omega
      rw [a6 (by simpa using o)];simp[m]
    have j:=Po L (OD s) (fun x=>(Ap.mk 4 x 0,(x.size:Int),(0:Int))) (Ap.mk 0 (⟨#[]⟩:ByteArray) 0) (fun(r:Int)(X:Ap)=>
      (idx L r).bind fun C=>
      (if(decide ((AT (a+(C.size:Int)))<=(S.size:Int)))=true then((idx L r).bind fun D=>
      (rB S a (AT (a+(D.size:Int)))).bind fun k=>
      (idx L r).bind fun E=>
      some (k==E))else some false).bind fun F=>
      if F=true then
      (idx L r).bind fun u=>
      (idx L r).bind fun v=>
      some (.ret (Ap.mk 4 u 0,(v.size:Int),0))
      else
      some (.next X)) (fun i q R=>by
     have:=l _ (BC q R);simp only[As q R,bs];rw[this,bs];cases OD s (at' L i)<;>rfl) L.length 0 (by omega)
    unfold pq;rw[Int.sub_zero,Int.toNat_natCast];rw[show((0:Nat):Int)=0 from rfl]at j;rw[j,List.drop_zero,hf];by_cases B:Jl s=true
    .have q:2<=s.size:=by unfold Jl at B;simp at B;omega
     have O:=FM (s:=s) (a:=0) (b:=2) (by omega) (by omega) (by omega);simp only[B,if_true];exact⟨_,_,_,rfl,rfl,fun _=>⟨by omega,rfl,rfl,by omega,by omega,fun h=>by cases h⟩⟩
    .simp only[B,Bool.false_eq_true,if_false];have O:=FM (s:=s) (a:=0) (b:=1) (by omega) (by omega) (by omega);by_cases h1:Mk (bt s 0)=true
     .simp only[h1,if_true];exact⟨_,_,_,rfl,rfl,fun _=>⟨by omega,rfl,rfl,by omega,by omega,fun h=>by cases h⟩⟩
     .simp only[h1,Bool.false_eq_true,if_false];exact⟨_,_,_,rfl,rfl,fun h=>by cases h⟩
end Go.Sf.Sc
