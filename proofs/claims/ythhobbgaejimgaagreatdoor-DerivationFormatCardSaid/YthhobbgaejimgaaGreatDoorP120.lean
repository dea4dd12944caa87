/- Plain lemmas: what the functions of the program and of the reference compute. -/
import Derived.Test.YthhobbgaejimgaaGreatDoorP119
set_option linter.all false
set_option maxRecDepth 100000
namespace Go.Sf.Sc
open Go Go.Sf
def b0:ByteArray:=⟨#[]⟩
noncomputable def Zo[Ev](rJ:Int)(signed:Bool):AE×Fp->Option (B2 (AE×Fp) (Fp×AE)):=fun s0=>
 (if(decide (s0.1.err=0))=true then((Ah s0.1 4 (⟨#[41]⟩:ByteArray)).bind fun x18=>
 some (!x18))else some false).bind fun x20=>
 if x20=true then
 (if signed=true then((Ah s0.1 4 (⟨#[45]⟩:ByteArray)).bind fun x24=>
 some (x24))else some false).bind fun x25=>
 if x25=true then
 (Ah (AE.mk s0.1.l (AW (s0.1.at'+1)) s0.1.err s0.1.qo) 2 (⟨#[]⟩:ByteArray)).bind fun x34=>
 if (x34&&(decide ((s0.2.length:Int)=rJ)))=true then
 (A6 (AE.mk s0.1.l (AW (s0.1.at'+1)) s0.1.err s0.1.qo) 3).bind fun x42=>
 (Ag x42).bind fun x46=>
 (Am s0.2 [AW ((-1)*x46.1)]).bind fun x49=>
 some (.next (x46.2,x49))
 else
 (Ag (AE.mk s0.1.l (AW (s0.1.at'+1)) s0.1.err s0.1.qo)).bind fun x46=>
 (Am s0.2 [AW ((-1)*x46.1)]).bind fun x49=>
 some (.next (x46.2,x49))
 else
 (Ah s0.1 2 (⟨#[]⟩:ByteArray)).bind fun x34=>
 if (x34&&(decide ((s0.2.length:Int)=rJ)))=true then
 (A6 s0.1 3).bind fun x42=>
 (Ag x42).bind fun x46=>
 (Am s0.2 [AW (1*x46.1)]).bind fun x49=>
 some (.next (x46.2,x49))
 else
 (Ag s0.1).bind fun x46=>
 (Am s0.2 [AW (1*x46.1)]).bind fun x49=>
 some (.next (x46.2,x49))
 else
 some (.brk (s0.1,s0.2))
def OC(sg:Bool)(r:AE):Bool:=sg&&D8 r 4 (⟨#[45]⟩:ByteArray)
def UF(rJ:Int)(sg:Bool)(r:AE)(out:Fp):AE:=
 let r1:=if OC sg r=true then Fo r else r
 if (D8 r1 2 (⟨#[]⟩:ByteArray)&&decide ((out.length:Int)=rJ))=true then JH r1 3 else r1
noncomputable def WV[Ev](rJ:Int)(sg:Bool)(r:AE)(out:Fp):AE×Fp:=
 let T:=GY (UF rJ sg r out) 2 (⟨#[]⟩:ByteArray)
 (T.2,out++[if OC sg r=true then AW (-(LK T.1))else LK T.1])
variable{r:AE}
theorem Yd{sg:Bool}(h:OC sg r=true):D8 r 4 (⟨#[45]⟩:ByteArray)=true:=by
 unfold OC at h;simp at h;exact h.2
theorem dw{rJ:Int}{sg:Bool}(h:RI r){out:Fp}(ho:out.length<=5000):Zo rJ sg (r,out)=some (if(decide (r.err=0)&&!D8 r 4 (⟨#[41]⟩:ByteArray))=true then .next (WV rJ sg r out)else .brk (r,out)):=by
 have a:∀v:Int,Am out [v]=some (out++[v]):=fun v=>F6 (by simp[Br];omega);have:=h.uV;have:=h.at1;have:=h.few;unfold Zo;simp only;by_cases he:r.err=0
 .rw[az (by simpa using he),KJ h,bs,bs];simp only[he,decide_true,Bool.true_and];cases g:D8 r 4 (⟨#[41]⟩:ByteArray)with
  |true=>rfl|false=>
   simp only[Bool.not_false,if_true];have d:(if sg=true then((Ah r 4 (⟨#[45]⟩:ByteArray)).bind fun c=>some (c))else some false)=some (OC sg r):=by
    rw [KJ h];unfold OC;cases sg<;>rfl
   rw [d,bs];unfold WV UF;simp only;cases e:OC sg r with
   |true=>
    have hi:=SK h (Yd e);have f:AE.mk r.l (AW (r.at'+1)) 0 r.qo=Fo r:=by
     unfold Fo;rw[BU (by omega) (by omega),he]
    simp only[if_true,f,KJ hi,bs];split
    .obtain⟨_,_,b⟩:=P6 (Ob (Lo hi 3) 2 (⟨#[]⟩:ByteArray)).2.1;rw[QZ hi,bs,N2 (Lo hi 3),bs,a,bs,Int.neg_one_mul]
    .rw[N2 hi,bs,a,bs,Int.neg_one_mul]
   |false=>
    simp only[Bool.false_eq_true,if_false,KJ h,bs];split
    .obtain⟨_,_,b⟩:=P6 (Ob (Lo h 3) 2 (⟨#[]⟩:ByteArray)).2.1;rw[QZ h,bs,N2 (Lo h 3),bs,a,bs,Int.one_mul,BU b.1 b.2]
    .obtain⟨_,_,b⟩:=P6 (Ob h 2 (⟨#[]⟩:ByteArray)).2.1;rw[N2 h,bs,a,bs,Int.one_mul,BU b.1 b.2]
 .rw[bk (by simpa using he),bs];simp only[he,decide_false,Bool.false_and,Bool.false_eq_true,if_false]
end Go.Sf.Sc
