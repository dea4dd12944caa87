/- Plain lemmas: what the functions of the program and of the reference compute. -/
import Derived.Test.YthhobbgaejimgaaGreatDoorP119
set_option linter.all false
set_option maxRecDepth 100000
namespace Go.Sf.Sc
open Go Go.Sf
def b0:ByteArray:=⟨#[]⟩
noncomputable def ZJ[Ev](qn:Int)(signed:Bool):AE×D1->Option (Bk (AE×D1) (D1×AE)):=fun s0=>
 (if(decide (s0.1.err=0))=true then((Ak s0.1 4 (⟨#[41]⟩:ByteArray)).bind fun x18=>
 some (!x18))else some false).bind fun x20=>
 if x20=true then
 (if signed=true then((Ak s0.1 4 (⟨#[45]⟩:ByteArray)).bind fun x24=>
 some (x24))else some false).bind fun x25=>
 if x25=true then
 (Ak (AE.mk s0.1.l (AT (s0.1.at'+1)) s0.1.err s0.1.qw) 2 (⟨#[]⟩:ByteArray)).bind fun x34=>
 if (x34&&(decide ((s0.2.length:Int)=qn)))=true then
 (A9 (AE.mk s0.1.l (AT (s0.1.at'+1)) s0.1.err s0.1.qw) 3).bind fun x42=>
 (Ai x42).bind fun x46=>
 (Aj s0.2 [AT ((-1)*x46.1)]).bind fun x49=>
 some (.next (x46.2,x49))
 else
 (Ai (AE.mk s0.1.l (AT (s0.1.at'+1)) s0.1.err s0.1.qw)).bind fun x46=>
 (Aj s0.2 [AT ((-1)*x46.1)]).bind fun x49=>
 some (.next (x46.2,x49))
 else
 (Ak s0.1 2 (⟨#[]⟩:ByteArray)).bind fun x34=>
 if (x34&&(decide ((s0.2.length:Int)=qn)))=true then
 (A9 s0.1 3).bind fun x42=>
 (Ai x42).bind fun x46=>
 (Aj s0.2 [AT (1*x46.1)]).bind fun x49=>
 some (.next (x46.2,x49))
 else
 (Ai s0.1).bind fun x46=>
 (Aj s0.2 [AT (1*x46.1)]).bind fun x49=>
 some (.next (x46.2,x49))
 else
 some (.brk (s0.1,s0.2))
noncomputable def ZM[Ev](qn:Int)(minus:Bool):AX×D1->Option (Bk (AX×D1) (D1×AX)):=fun s0=>
 (if(decide (s0.1.e=0))=true then((A4 s0.1 2 (⟨#[]⟩:ByteArray)).bind fun x20=>
 (if x20=true then some true else((if minus=true then((A4 s0.1 4 (⟨#[45]⟩:ByteArray)).bind fun x25=>
 some (x25))else some false).bind fun x26=>
 some (x26))).bind fun x27=>
 some (x27))else some false).bind fun x28=>
 if x28=true then
 (A4 s0.1 4 (⟨#[45]⟩:ByteArray)).bind fun x30=>
 if x30=true then
 (A4 (AX.mk s0.1.rL (AT (s0.1.at'+1)) s0.1.e s0.1.qw) 2 (⟨#[]⟩:ByteArray)).bind fun x40=>
 if (x40&&(decide ((s0.2.length:Int)=qn)))=true then
 (BV (AX.mk s0.1.rL (AT (s0.1.at'+1)) s0.1.e s0.1.qw) 3).bind fun x48=>
 (AW x48 2 (⟨#[]⟩:ByteArray)).bind fun x51=>
 (Bs x51.1).bind fun x52=>
 if x30=true then
 (Aj s0.2 [AT (-x52.1)]).bind fun x61=>
 some (.next (x51.2,x61))
 else
 (Aj s0.2 [x52.1]).bind fun x61=>
 some (.next (x51.2,x61))
 else
 (AW (AX.mk s0.1.rL (AT (s0.1.at'+1)) s0.1.e s0.1.qw) 2 (⟨#[]⟩:ByteArray)).bind fun x51=>
 (Bs x51.1).bind fun x52=>
 if x30=true then
 (Aj s0.2 [AT (-x52.1)]).bind fun x61=>
 some (.next (x51.2,x61))
 else
 (Aj s0.2 [x52.1]).bind fun x61=>
 some (.next (x51.2,x61))
 else
 (A4 s0.1 2 (⟨#[]⟩:ByteArray)).bind fun x40=>
 if (x40&&(decide ((s0.2.length:Int)=qn)))=true then
 (BV s0.1 3).bind fun x48=>
 (AW x48 2 (⟨#[]⟩:ByteArray)).bind fun x51=>
 (Bs x51.1).bind fun x52=>
 if x30=true then
 (Aj s0.2 [AT (-x52.1)]).bind fun x61=>
 some (.next (x51.2,x61))
 else
 (Aj s0.2 [x52.1]).bind fun x61=>
 some (.next (x51.2,x61))
 else
 (AW s0.1 2 (⟨#[]⟩:ByteArray)).bind fun x51=>
 (Bs x51.1).bind fun x52=>
 if x30=true then
 (Aj s0.2 [AT (-x52.1)]).bind fun x61=>
 some (.next (x51.2,x61))
 else
 (Aj s0.2 [x52.1]).bind fun x61=>
 some (.next (x51.2,x61))
 else
 some (.brk (s0.1,s0.2))
def tB(sg:Bool)(r:AE):Bool:=sg&&CM r 4 (⟨#[45]⟩:ByteArray)
def QG(qn:Int)(sg:Bool)(r:AE)(out:D1):AE:=
 let r1:=if tB sg r=true then Hz r else r
 if (CM r1 2 (⟨#[]⟩:ByteArray)&&decide ((out.length:Int)=qn))=true then EO r1 3 else r1
noncomputable def JK[Ev](qn:Int)(sg:Bool)(r:AE)(out:D1):AE×D1:=
 let T:=Ci (QG qn sg r out) 2 (⟨#[]⟩:ByteArray)
 (T.2,out++[if tB sg r=true then AT (-(LT T.1))else LT T.1])
variable{r:AE}
theorem Mj{sg:Bool}(h:tB sg r=true):CM r 4 (⟨#[45]⟩:ByteArray)=true:=by
 unfold tB at h;simp at h;exact h.2
theorem iC{qn:Int}{sg:Bool}(h:RI r)(out:D1):RI (QG qn sg r out)/\(QG qn sg r out).l=r.l/\r.at'<=(QG qn sg r out).at'/\((QG qn sg r out).err=0->r.err=0):=by
 unfold QG;simp only;have g:RI (if tB sg r=true then Hz r else r)/\(if tB sg r=true then Hz r else r).l=r.l/\r.at'<=(if tB sg r=true then Hz r else r).at'/\(if tB sg r=true then Hz r else r).err=r.err:=by
  split
  .rename_i f;exact⟨Pu h (Mj f),rfl,by simp only[Hz];omega,rfl⟩
  .exact⟨h,rfl,Int.le_refl _,rfl⟩
 generalize (if tB sg r=true then Hz r else r)=r1 at *;obtain⟨a,b,c,d⟩:=g;split
 .refine⟨F8 a 3,?_,?_,?_⟩
  .unfold EO;split<;>exact b
  .unfold EO;split<;>exact c
  .unfold EO;split
   .intro e;exact absurd (show(3:Int)=0 from e) (by decide)
   .intro e;rw[<-d];exact e
 .exact⟨a,b,c,fun e=>by rw[<-d];exact e⟩
theorem gu{qn:Int}{sg:Bool}(h:RI r)(out:D1):RI (JK qn sg r out).1/\(JK qn sg r out).1.l=r.l/\r.at'<=(JK qn sg r out).1.at'/\(JK qn sg r out).2.length=out.length+1/\((JK qn sg r out).1.err=0->r.err=0/\r.at'+1<=(JK qn sg r out).1.at'):=by
 obtain ⟨a1,a,i,b⟩:=iC (qn:=qn) (sg:=sg) h out;obtain⟨c,j,d,k,f,m⟩:=DP a1 2 (⟨#[]⟩:ByteArray);unfold JK;simp only;refine⟨c,d.trans a,by omega,by simp,fun e=>?_⟩;obtain⟨g,n⟩:=f e;exact⟨b g,by omega⟩
theorem Xp{qn:Int}{sg:Bool}(h:RI r){out:D1}(ho:out.length<=5000):ZJ qn sg (r,out)=some (if(decide (r.err=0)&&!CM r 4 (⟨#[41]⟩:ByteArray))=true then .next (JK qn sg r out)else .brk (r,out)):=by
 have a:∀v:Int,Aj out [v]=some (out++[v]):=fun v=>DM (by simp[Bi];omega);have:=h.uk;have:=h.uv;have:=h.few;unfold ZJ;simp only;by_cases he:r.err=0
 .rw[QQ (by simpa using he),JX h,bs,bs];simp only[he,decide_true,Bool.true_and];cases g:CM r 4 (⟨#[41]⟩:ByteArray)with
  |true=>rfl|false=>
   simp only[Bool.not_false,if_true];have d:(if sg=true then((Ak r 4 (⟨#[45]⟩:ByteArray)).bind fun c=>some (c))else some false)=some (tB sg r):=by
    rw [JX h];unfold tB;cases sg<;>rfl
   rw [d,bs];unfold JK QG;simp only;cases e:tB sg r with
   |true=>
    have hi:=Pu h (Mj e);have f:AE.mk r.l (AT (r.at'+1)) 0 r.qw=Hz r:=by
     unfold Hz;rw[Au (by omega) (by omega),he]
    simp only[if_true,f,JX hi,bs];split
    .obtain⟨_,_,b⟩:=Iu (DP (F8 hi 3) 2 (⟨#[]⟩:ByteArray)).2.1;rw[Oa hi,bs,N5 (F8 hi 3),bs,a,bs,Int.neg_one_mul]
    .rw[N5 hi,bs,a,bs,Int.neg_one_mul]
   |false=>
    simp only[Bool.false_eq_true,if_false,JX h,bs];split
    .obtain⟨_,_,b⟩:=Iu (DP (F8 h 3) 2 (⟨#[]⟩:ByteArray)).2.1;rw[Oa h,bs,N5 (F8 h 3),bs,a,bs,Int.one_mul,Au b.1 b.2]
    .obtain⟨_,_,b⟩:=Iu (DP h 2 (⟨#[]⟩:ByteArray)).2.1;rw[N5 h,bs,a,bs,Int.one_mul,Au b.1 b.2]
 .rw[a6 (by simpa using he),bs];simp only[he,decide_false,Bool.false_and,Bool.false_eq_true,if_false]
theorem aP(h:CM r 2 (⟨#[]⟩:ByteArray)=true)(s:ByteArray):CM r 4 s=false:=by
 unfold CM at *;simp at h;simp[h.2]
theorem dm{qn:Int}{sg:Bool}(h:RI r){out:D1}(ho:out.length<=5000):ZM qn sg (DG r,out)=some (if(decide (r.err=0)&&(CM r 2 (⟨#[]⟩:ByteArray)||tB sg r))=true then .next (DG (JK qn sg r out).1,(JK qn sg r out).2)else .brk (DG r,out)):=by
 have a:∀v:Int,Aj out [v]=some (out++[v]):=fun v=>DM (by simp[Bi];omega);have:=h.uk;have:=h.uv;have:=h.few;unfold ZM;simp only;by_cases he:r.err=0
 .rw[QQ (show decide ((DG r).e=0)=true by show decide (r.err=0)=true;simpa using he),Kg h,Kg h,bs,bs,bs];have g:(if CM r 2 (⟨#[]⟩:ByteArray)=true then some true else((if sg=true then some (CM r 4 (⟨#[45]⟩:ByteArray))else some false).bind fun c=>some c))=some (CM r 2 (⟨#[]⟩:ByteArray)||tB sg r):=by
   unfold tB;cases CM r 2 (⟨#[]⟩:ByteArray)<;>cases sg<;>rfl
  rw [g,bs,bs];simp only[he,decide_true,Bool.true_and];cases d:(CM r 2 (⟨#[]⟩:ByteArray)||tB sg r)with
  |false=>rfl|true=>
   simp only[if_true];have i:CM r 4 (⟨#[45]⟩:ByteArray)=tB sg r:=by
    cases f:CM r 2 (⟨#[]⟩:ByteArray)with
    |true=>unfold tB;rw[aP f];simp|false=>
     rw [f,Bool.false_or]at d;rw[d,Mj d]
   rw [i];unfold JK QG;simp only;cases j:tB sg r with
   |true=>
    have hi:=Pu h (Mj j);have k:AX.mk (DG r).rL (AT ((DG r).at'+1)) (DG r).e (DG r).qw=DG (Hz r):=by
     unfold Hz DG;simp only;rw[Au (by omega) (by omega)]
    simp only[if_true,k,Kg hi,bs];split
    .obtain⟨_,⟨e,b⟩,_⟩:=Iu (DP (F8 hi 3) 2 (⟨#[]⟩:ByteArray)).2.1;rw[Oe hi,bs,Iw (F8 hi 3),bs,b,bs,a,bs]
    .obtain⟨_,⟨e,b⟩,_⟩:=Iu (DP hi 2 (⟨#[]⟩:ByteArray)).2.1;rw[Iw hi,bs,b,bs,a,bs]
   |false=>
    simp only[Bool.false_eq_true,if_false,Kg h,bs];split
    .obtain⟨_,⟨e,b⟩,_⟩:=Iu (DP (F8 h 3) 2 (⟨#[]⟩:ByteArray)).2.1;rw[Oe h,bs,Iw (F8 h 3),bs,b,bs,a,bs]
    .obtain⟨_,⟨e,b⟩,_⟩:=Iu (DP h 2 (⟨#[]⟩:ByteArray)).2.1;rw[Iw h,bs,b,bs,a,bs]
 .rw[a6 (show¬decide ((DG r).e=0)=true by show¬decide (r.err=0)=true;simpa using he),bs];simp only[he,decide_false,Bool.false_and,Bool.false_eq_true,if_false]
end Go.Sf.Sc
