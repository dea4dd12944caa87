/- Plain lemmas: what the functions of the program and of the reference compute. -/
import Derived.Test.YthhobbgaejimgaaGreatDoorP118
set_option linter.all false
set_option maxRecDepth 100000
namespace Go.Sf.Sc
open Go Go.Sf
def Wd(x:Int):Prop:=-9223372036854775808<=x/\x<=9223372036854775807
theorem fE(x:Int):Wd (AT x):=by
 rw [Sr];unfold Wd;omega
variable{s:ByteArray}
theorem S1(m:s.size<=20000):∃x e,E7 s=some (x,e)/\Bs s=some (x,e)/\Wd x:=by
 have p:∃b,(∃y,DX (Ap.mk 2 s 0)=some (y,b))/\Fo (Ap.mk 2 s 0)=some b:=by
  unfold DX Fo Ix;simp only[show decide ((2:Int)=3)=false from rfl,Bool.false_eq_true,if_false,bs];by_cases he:s=⟨#[]⟩
  .subst he;exact⟨false,⟨_,rfl⟩,rfl⟩
  .have q:=PM he;have u:(s==(⟨#[]⟩:ByteArray))=false:=by simpa using he
   obtain ⟨t,n,e,v,j,l⟩:=SV (S:=s) (a:=0) m (Int.le_refl 0) (by omega);have hf:AZ s 0=s:=by unfold AZ;simp
   rw [hf]at j l;rw[u,dc q (by omega),v];simp only[Bool.false_eq_true,if_false,bs];refine⟨_,⟨_,rfl⟩,?_⟩;by_cases k:e=0
   .obtain⟨w,A,_⟩:=l k;rw[w,A,<-j];congr 1;cases decide (e=0)<;>cases decide ((Ha s).1=2)<;>cases decide ((Ha s).2.1=(s.size:Int))<;>rfl
   .simp[<-j,k]
 obtain ⟨b,⟨y,B⟩,C⟩:=p;unfold E7 Bs;rw[B,C,bs,bs];cases b with
 |false=>exact⟨0,2,rfl,rfl,by unfold Wd;omega⟩|true=>
  simp only[Bool.not_true,Bool.false_eq_true,if_false];rw[show(fun(c:Int)(g:Int)=>(rx s c).bind fun h=>some (AT ((AT (g*10))+(AT (IntKind.u8.wrap (h-48))))))=(fun(c:Int)(g:Int)=>(rx s c).bind fun d=>some (AT ((AT (10*g))+(AT (IntKind.u8.wrap (d-48))))))from funext fun i=>funext fun z=>by rw[Int.mul_comm]];obtain⟨z,D,E⟩:=O7 (f:=fun(c:Int)(g:Int)=>(rx s c).bind fun d=>some (AT ((AT (10*g))+(AT (IntKind.u8.wrap (d-48)))))) (fun _ z=>Wd z) (a:=0) (b:=s.size) (s:=0) (by omega) (by unfold Wd;omega) (fun i z c o _=>by
   rw [Dp c o,bs];exact⟨_,rfl,fE _⟩)
  rw [D,bs];exact⟨z,0,rfl,rfl,E⟩
noncomputable def LT[Ev](s:ByteArray):Int:=((E7 s).getD (0,0)).1
theorem Iu(b:s.size<=20000):(∃e,E7 s=some (LT s,e))/\(∃e,Bs s=some (LT s,e))/\Wd (LT s):=by
 obtain ⟨x,e,a,c,d⟩:=S1 b;have:LT s=x:=by unfold LT;rw[a];rfl
 rw [this];exact⟨⟨e,a⟩,⟨e,c⟩,d⟩
instance:Inhabited Ap:=⟨⟨0,⟨#[]⟩,0⟩⟩
def DG(r:AE):AX:=⟨r.l,r.at',r.err,r.qw⟩
structure RI(r:AE):Prop where
 uk:0<=r.at'
 uv:r.at'<=r.l.length
 pos:1<=r.l.length
 few:r.l.length<=4000
 txt:∀t∈r.l,t.r7.size<=20000
def CM(r:AE)(k:Int)(s:ByteArray):Bool:=(decide (r.err=0)&&decide (r.at'<(r.l.length:Int)))&&(decide ((at' r.l r.at').qh=k)&&(s==(⟨#[]⟩:ByteArray)||(at' r.l r.at').r7==s))
variable{r:AE}
theorem JX(h:RI r)(k:Int)(s:ByteArray):Ak r k s=some (CM r k s):=by
 unfold Ak CM;by_cases a:((decide (r.err=0))&&(decide (r.at'<(r.l.length:Int))))=true
 .have b:r.at'<(r.l.length:Int):=by simp at a;exact a.2
  rw [a];simp only[if_true,As h.uk b,bs,Bool.true_and];cases decide ((at' r.l r.at').qh=k)
  .rfl
  .simp only[if_true];cases(s==(⟨#[]⟩:ByteArray))<;>rfl
 .have c:((decide (r.err=0))&&(decide (r.at'<(r.l.length:Int))))=false:=by simpa using a
  rw [c];rfl
theorem Kg(h:RI r)(k:Int)(s:ByteArray):A4 (DG r) k s=some (CM r k s):=by
 rw [<-JX h];rfl
def EO(r:AE)(e:Int):AE:=if r.err=0 then⟨r.l,r.at',e,(at' r.l (min r.at' (r.l.length-1))).uz⟩else r
theorem Oa(h:RI r)(e:Int):A9 r e=some (EO r e):=by
 have:=h.uk;have:=h.uv;have:=h.pos;have:=h.few;unfold A9 EO;by_cases a:r.err=0
 .rw[QQ (by simpa using a),QQ a,Au (by omega) (by omega),As (by omega) (by omega)];rfl
 .rw[a6 (by simpa using a),a6 a];rfl
theorem Oe(h:RI r)(e:Int):BV (DG r) e=some (DG (EO r e)):=by
 have:=h.uk;have:=h.uv;have:=h.pos;have:=h.few;unfold BV EO;by_cases a:r.err=0
 .rw[QQ (show decide ((DG r).e=0)=true by show decide (r.err=0)=true;simpa using a),QQ a];show((idx r.l (min r.at' (AT ((r.l.length:Int)-1)))).bind _).bind _=_;rw[Au (by omega) (by omega),As (by omega) (by omega)];rfl
 .rw[a6 (show¬decide ((DG r).e=0)=true by show¬decide (r.err=0)=true;simpa using a),a6 a];rfl
theorem F8(h:RI r)(e:Int):RI (EO r e):=by
 unfold EO;split
 .exact⟨h.uk,h.uv,h.pos,h.few,h.txt⟩
 .exact h
def Hz(r:AE):AE:=⟨r.l,r.at'+1,r.err,r.qw⟩
theorem Pu(h:RI r){k:Int}(a:CM r k s=true):RI (Hz r):=by
 have:r.at'<(r.l.length:Int):=by unfold CM at a;simp at a;exact a.1.2
 have:=h.uk;exact⟨by simp only[Hz];omega,by simp only[Hz];omega,h.pos,h.few,h.txt⟩
def Ci(r:AE)(k:Int)(s:ByteArray):ByteArray×AE:=if CM r k s=true then((at' r.l r.at').r7,Hz r)else(⟨#[]⟩,EO r 2)
theorem N6(h:RI r)(k:Int)(s:ByteArray):Al r k s=some (Ci r k s):=by
 have:=h.uk;have:=h.uv;have:=h.few;unfold Al Ci;rw[JX h,bs];cases a:CM r k s with
 |false=>simp only[Bool.not_false,if_true,Bool.false_eq_true,if_false,Oa h,bs]|true=>
  have b:r.at'<(r.l.length:Int):=by unfold CM at a;simp at a;exact a.1.2
  simp only[Bool.not_true,Bool.false_eq_true,if_false,if_true];rw[Au (show -9223372036854775808<=r.at'+1 by omega) (by omega),Au (by omega) (by omega),show r.at'+1-1=r.at' by omega,As h.uk b];rfl
theorem Iw(h:RI r)(k:Int)(s:ByteArray):AW (DG r) k s=some ((Ci r k s).1,DG (Ci r k s).2):=by
 have:=h.uk;have:=h.uv;have:=h.few;unfold AW Ci;rw[Kg h,bs];cases a:CM r k s with
 |false=>simp only[Bool.not_false,if_true,Bool.false_eq_true,if_false,Oe h,bs]|true=>
  have b:r.at'<(r.l.length:Int):=by unfold CM at a;simp at a;exact a.1.2
  simp only[Bool.not_true,Bool.false_eq_true,if_false,if_true];show((idx r.l (AT (AT (r.at'+1)-1))).bind _)=_;rw[Au (show -9223372036854775808<=r.at'+1 by omega) (by omega),Au (by omega) (by omega),show r.at'+1-1=r.at' by omega,As h.uk b,bs];show some (_,AX.mk r.l (AT (r.at'+1)) r.err r.qw)=_;rw[Au (show -9223372036854775808<=r.at'+1 by omega) (by omega)];rfl
theorem DP(h:RI r)(k:Int)(s:ByteArray):RI (Ci r k s).2/\(Ci r k s).1.size<=20000/\(Ci r k s).2.l=r.l/\r.at'<=(Ci r k s).2.at'/\((Ci r k s).2.err=0->r.err=0/\(Ci r k s).2.at'=r.at'+1)/\(r.err≠0->(Ci r k s).2=r):=by
 unfold Ci;cases b:CM r k s with
 |false=>
  simp only[Bool.false_eq_true,if_false];refine⟨F8 h 2,by decide,?_,?_,?_,?_⟩
  .unfold EO;split<;>rfl
  .unfold EO;split<;>exact Int.le_refl _
  .unfold EO;split
   .intro e;exact absurd (show(2:Int)=0 from e) (by decide)
   .rename_i c;intro e;exact absurd e c
  .intro e;unfold EO;rw[a6 e]
 |true=>
  have a:r.err=0/\r.at'<(r.l.length:Int):=by unfold CM at b;simp at b;exact b.1
  simp only[if_true];exact⟨Pu h b,h.txt _ (BC h.uk a.2),rfl,by simp only[Hz];omega,fun _=>⟨a.1,rfl⟩,fun e=>absurd a.1 e⟩
theorem N5(h:RI r):Ai r=some (LT (Ci r 2 ⟨#[]⟩).1,(Ci r 2 ⟨#[]⟩).2):=by
 obtain ⟨⟨e,a⟩,_⟩:=Iu (DP h 2 ⟨#[]⟩).2.1;unfold Ai;rw[N6 h,bs,a];rfl
end Go.Sf.Sc
