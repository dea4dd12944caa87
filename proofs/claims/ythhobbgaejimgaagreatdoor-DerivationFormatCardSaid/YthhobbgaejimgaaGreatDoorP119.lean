/- Plain lemmas: what the functions of the program and of the reference compute. -/
import Derived.Test.YthhobbgaejimgaaGreatDoorP118
set_option linter.all false
set_option maxRecDepth 100000
namespace Go.Sf.Sc
open Go Go.Sf
def Wd(x:Int):Prop:=-9223372036854775808<=x/\x<=9223372036854775807
theorem fL(x:Int):Wd (AW x):=by
 rw [TC];unfold Wd;omega
variable{s:ByteArray}
theorem TL(m:s.size<=20000):∃x e,Dc s=some (x,e)/\Cn s=some (x,e)/\Wd x:=by
 have p:∃b,(∃y,DB (AY.mk 2 s 0)=some (y,b))/\Gh (AY.mk 2 s 0)=some b:=by
  unfold DB Gh J6;simp only[show decide ((2:Int)=3)=false from rfl,Bool.false_eq_true,if_false,bs];by_cases he:s=⟨#[]⟩
  .subst he;exact⟨false,⟨_,rfl⟩,rfl⟩
  .have q:=Yf he;have u:(s==(⟨#[]⟩:ByteArray))=false:=by simpa using he
   obtain ⟨t,n,e,v,j,l⟩:=Sj (S:=s) (a:=0) m (Int.le_refl 0) (by omega);have hf:AV s 0=s:=by unfold AV;simp
   rw [hf]at j l;rw[u,YJ q (by omega),v];simp only[Bool.false_eq_true,if_false,bs];refine⟨_,⟨_,rfl⟩,?_⟩;by_cases k:e=0
   .obtain⟨w,A,_⟩:=l k;rw[w,A,<-j];congr 1;cases decide (e=0)<;>cases decide ((FU s).1=2)<;>cases decide ((FU s).2.1=(s.size:Int))<;>rfl
   .simp[<-j,k]
 obtain ⟨b,⟨y,B⟩,C⟩:=p;unfold Dc Cn;rw[B,C,bs,bs];cases b with
 |false=>exact⟨0,2,rfl,rfl,by unfold Wd;omega⟩|true=>
  simp only[Bool.not_true,Bool.false_eq_true,if_false];rw[show(fun(c:Int)(g:Int)=>(rP s c).bind fun h=>some (AW ((AW (g*10))+(AW (IntKind.u8.wrap (h-48))))))=(fun(c:Int)(g:Int)=>(rP s c).bind fun d=>some (AW ((AW (10*g))+(AW (IntKind.u8.wrap (d-48))))))from funext fun i=>funext fun z=>by rw[Int.mul_comm]];obtain⟨z,D,E⟩:=SE (f:=fun(c:Int)(g:Int)=>(rP s c).bind fun d=>some (AW ((AW (10*g))+(AW (IntKind.u8.wrap (d-48)))))) (fun _ z=>Wd z) (a:=0) (b:=s.size) (s:=0) (by omega) (by unfold Wd;omega) (fun i z c o _=>by
   rw [FH c o,bs];exact⟨_,rfl,fL _⟩)
  rw [D,bs];exact⟨z,0,rfl,rfl,E⟩
noncomputable def LK[Ev](s:ByteArray):Int:=((Dc s).getD (0,0)).1
theorem P6(b:s.size<=20000):(∃e,Dc s=some (LK s,e))/\(∃e,Cn s=some (LK s,e))/\Wd (LK s):=by
 obtain ⟨x,e,a,c,d⟩:=TL b;have:LK s=x:=by unfold LK;rw[a];rfl
 rw [this];exact⟨⟨e,a⟩,⟨e,c⟩,d⟩
instance:Inhabited AY:=⟨⟨0,⟨#[]⟩,0⟩⟩
structure RI(r:AE):Prop where
 uV:0<=r.at'
 at1:r.at'<=r.l.length
 pos:1<=r.l.length
 few:r.l.length<=4000
 txt:∀t∈r.l,t.sn.size<=20000
def D8(r:AE)(k:Int)(s:ByteArray):Bool:=(decide (r.err=0)&&decide (r.at'<(r.l.length:Int)))&&(decide ((at' r.l r.at').rh=k)&&(s==(⟨#[]⟩:ByteArray)||(at' r.l r.at').sn==s))
variable{r:AE}
theorem KJ(h:RI r)(k:Int)(s:ByteArray):Ah r k s=some (D8 r k s):=by
 unfold Ah D8;by_cases a:((decide (r.err=0))&&(decide (r.at'<(r.l.length:Int))))=true
 .have b:r.at'<(r.l.length:Int):=by simp at a;exact a.2
  rw [a];simp only[if_true,Ds h.uV b,bs,Bool.true_and];cases decide ((at' r.l r.at').rh=k)
  .rfl
  .simp only[if_true];cases(s==(⟨#[]⟩:ByteArray))<;>rfl
 .have c:((decide (r.err=0))&&(decide (r.at'<(r.l.length:Int))))=false:=by simpa using a
  rw [c];rfl
def JH(r:AE)(e:Int):AE:=if r.err=0 then⟨r.l,r.at',e,(at' r.l (min r.at' (r.l.length-1))).u7⟩else r
theorem QZ(h:RI r)(e:Int):A6 r e=some (JH r e):=by
 have:=h.uV;have:=h.at1;have:=h.pos;have:=h.few;unfold A6 JH;by_cases a:r.err=0
 .rw[az (by simpa using a),az a,BU (by omega) (by omega),Ds (by omega) (by omega)];rfl
 .rw[bk (by simpa using a),bk a];rfl
theorem Lo(h:RI r)(e:Int):RI (JH r e):=by
 unfold JH;split
 .exact⟨h.uV,h.at1,h.pos,h.few,h.txt⟩
 .exact h
def Fo(r:AE):AE:=⟨r.l,r.at'+1,r.err,r.qo⟩
theorem SK(h:RI r){k:Int}(a:D8 r k s=true):RI (Fo r):=by
 have:r.at'<(r.l.length:Int):=by unfold D8 at a;simp at a;exact a.1.2
 have:=h.uV;exact⟨by simp only[Fo];omega,by simp only[Fo];omega,h.pos,h.few,h.txt⟩
def GY(r:AE)(k:Int)(s:ByteArray):ByteArray×AE:=if D8 r k s=true then((at' r.l r.at').sn,Fo r)else(⟨#[]⟩,JH r 2)
theorem N3(h:RI r)(k:Int)(s:ByteArray):Ai r k s=some (GY r k s):=by
 have:=h.uV;have:=h.at1;have:=h.few;unfold Ai GY;rw[KJ h,bs];cases a:D8 r k s with
 |false=>simp only[Bool.not_false,if_true,Bool.false_eq_true,if_false,QZ h,bs]|true=>
  have b:r.at'<(r.l.length:Int):=by unfold D8 at a;simp at a;exact a.1.2
  simp only[Bool.not_true,Bool.false_eq_true,if_false,if_true];rw[BU (show -9223372036854775808<=r.at'+1 by omega) (by omega),BU (by omega) (by omega),show r.at'+1-1=r.at' by omega,Ds h.uV b];rfl
theorem Ob(h:RI r)(k:Int)(s:ByteArray):RI (GY r k s).2/\(GY r k s).1.size<=20000/\(GY r k s).2.l=r.l/\r.at'<=(GY r k s).2.at'/\((GY r k s).2.err=0->r.err=0/\(GY r k s).2.at'=r.at'+1)/\(r.err≠0->(GY r k s).2=r):=by
 unfold GY;cases b:D8 r k s with
 |false=>
  simp only[Bool.false_eq_true,if_false];refine⟨Lo h 2,by decide,?_,?_,?_,?_⟩
  .unfold JH;split<;>rfl
  .unfold JH;split<;>exact Int.le_refl _
  .unfold JH;split
   .intro e;exact absurd (show(2:Int)=0 from e) (by decide)
   .rename_i c;intro e;exact absurd e c
  .intro e;unfold JH;rw[bk e]
 |true=>
  have a:r.err=0/\r.at'<(r.l.length:Int):=by unfold D8 at b;simp at b;exact b.1
  simp only[if_true];exact⟨SK h b,h.txt _ (B6 h.uV a.2),rfl,by simp only[Fo];omega,fun _=>⟨a.1,rfl⟩,fun e=>absurd a.1 e⟩
theorem N2(h:RI r):Ag r=some (LK (GY r 2 ⟨#[]⟩).1,(GY r 2 ⟨#[]⟩).2):=by
 obtain ⟨⟨e,a⟩,_⟩:=P6 (Ob h 2 ⟨#[]⟩).2.1;unfold Ag;rw[N3 h,bs,a];rfl
end Go.Sf.Sc
