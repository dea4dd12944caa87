/- Plain lemmas: what the functions of the program and of the reference compute. -/
import Derived.Test.YtbmogdodchhhlaaGreatP1
import Derived.Test.YtbmogdodchhhlaaGreatEval
set_option linter.all false
set_option maxRecDepth 100000
namespace Go.Sf.Sc
open Go Go.Sf
end Go.Sf.Sc
namespace Go.Sf.Sc
open Go Go.Sf
variable{α:Type}{l m:List α}
theorem T8[Inhabited α](b:α->α->Bool)(d:∀x∈l,∀y∈m,(b x y=true↔x=y))(e:l.length=m.length):Dv (fun i=>!b (AE l i) (AE m i)) 0 l.length=false↔l=m:=by
 rw [Ef];constructor
 .intro h;refine Vj e (fun i a c=>?_);have:=h i a c;rw[Bool.not_eq_false']at this;exact(d _ (Ci a c) _ (Ci a (by omega))).1 this
 .rintro rfl i a c;rw[Bool.not_eq_false'];exact(d _ (Ci a c) _ (Ci a c)).2 rfl
theorem Tu[Inhabited α][DecidableEq α](f:l.length=m.length){k:Unit->K1}{c:Bool->K1}:og (qo (ρ:=Bool) (fun(d:Int)(_:Unit)=>
 (idx l d).bind fun a=>
 (idx m d).bind fun b=>
 if (!decide (a=b))=true then
 some (.ret false)
 else
 some (.next ())) 0 (l.length:Int) ()) k c=if l=m then k ()else c false:=by
 rw [PA (fun i=>!decide (AE l i=AE m i)) false]
 .have:=T8 (fun x y:α=>decide (x=y)) (l:=l) (m:=m) (fun _ _ _ _=>decide_eq_true_iff) f;by_cases h:l=m
  .rw[this.2 h,ae h];rfl
  .rw[az h];cases j:Dv (fun i=>!decide (AE l i=AE m i)) 0 l.length
   .exact absurd (this.1 j) h
   .rfl
 .intro i e g _;rw[F8 e g,bs,F8 e (by omega),bs,bz]
theorem OV[Inhabited α][DecidableEq α](l m:List α):(if(!decide ((l.length:Int)=(m.length:Int)))=true then
 some false
 else
 og (qo (ρ:=Bool) (fun(d:Int)(_:Unit)=>
 (idx l d).bind fun a=>
 (idx m d).bind fun b=>
 if (!decide (a=b))=true then
 some (.ret false)
 else
 some (.next ())) 0 (l.length:Int) ()) (fun _=>
 some true) (fun f=>some f))=some (decide (l=m)):=by
 by_cases c:l.length=m.length
 .rw[az (by simp[c]),Tu c];by_cases h:l=m
  .rw[ae h,decide_eq_true h]
  .rw[az h,decide_eq_false h]
 .rw[ae (by simp;omega),decide_eq_false (fun e=>c (by rw[e]))]
theorem ZA(l m:Fp):slices_Equal_int l m=some (decide (l=m)):=OV l m
theorem cX(l m:List Bh):Dq l m=some (decide (l=m)):=OV l m
theorem Q5(l m:Fp):Ew l m=some (decide (l=m)):=OV l m
theorem Z7(a b:fq):Ji a b=some (decide (a=b)):=by
 unfold Ji;rw[Q5,bs];obtain⟨a1,d⟩:=a;obtain⟨i,f⟩:=b;by_cases h:a1=i
 .by_cases c:d.length=f.length
  .rw[az (by simp[h,c]),Tu c];by_cases g:d=f<;>simp[h,g]
  .rw[ae (by simp;omega)];rw[decide_eq_false (fun e=>c (by cases e;rfl))]
 .simp[h]
end Go.Sf.Sc
namespace Go.Sf.Sc
open Go Go.Sf
mutual
def Fo:hV->Nat
 |⟨_,kids,_,_⟩=>1+O7 kids
def O7:List hV->Nat
 |[]=>0|k::l=>Fo k+O7 l
end
mutual
def jx:hV->Nat
 |⟨k,kids,_,_⟩=>(if k=5 then 1 else 0)+bq kids
def bq:List hV->Nat
 |[]=>0|k::l=>max (jx k) (bq l)
end
theorem Vn(c:hV):Fo c=1+O7 c.rq:=by cases c;rfl
theorem SS:∀{l:List hV}{k:hV},k∈l->Fo k<=O7 l
 |x::l,k,h=>by
  rw [O7];rcases List.mem_cons.1 h with rfl|h
  .omega
  .have:=SS h;omega
end Go.Sf.Sc
namespace Go.Sf.Sc
open Go Go.Sf
class PL(α:Type)where
 at_:α->Int->Int
 ok:α->Nat->Prop
instance:PL Fp:=⟨AE,fun l n=>l.length=n⟩
instance:PL (Option Fp):=⟨fun o i=>match o with|none=>-1|some l=>AE l i,fun o n=>match o with|none=>True|some l=>l.length=n⟩
structure Ys(f:AV):Prop where
 pn:PL.ok f.pr.ff f.p.ff.length
 pe:PL.ok f.pr.gt f.p.gt.length
 ends:∀e∈f.p.gt,0≤e.r9/\e.r9<f.p.ff.length/\0≤e.To/\e.To<f.p.ff.length
 kinds:∀n∈f.p.ff,0<=n/\n<f.is.length/\∀t∈f.g.ff,0<=t/\t<(AE f.is n).length
 small:f.p.ff.length<=1000/\f.p.gt.length<=1000/\f.g.ff.length<=1000/\f.g.gt.length<=1000
def iN(f:AV)(i k:Int):Bool:=
 (decide (PL.at_ f.pr.gt i<0)||decide (PL.at_ f.pr.gt i=k))&&decide (AE f.g.gt k=⟨(AE f.p.gt i).rz,AE f.rf (AE f.p.gt i).r9,AE f.rf (AE f.p.gt i).To⟩)
def K0(n:Nat):Fp:=(List.range n).map Int.ofNat
def j5(f:AV)(k:Int):Bool:=(decide (PL.at_ f.pr.ff f.rf.length<0)||decide (PL.at_ f.pr.ff f.rf.length=k))&&AE (AE f.is (AE f.p.ff f.rf.length)) (AE f.g.ff k)&&!(f.kq&&f.rf.any fun x=>decide (k=x))
def jz(f:AV)(k:Int):Bool:=iN f f.rr.length k&&!(f.kq&&f.rr.any fun x=>decide (k=x))
def bY:Nat->AV->List hT
 |0,f=>[⟨f.rf,f.rr⟩]|n+1,f=>(K0 f.g.gt.length).flatMap fun k=>if jz f k=true then bY n {f with rr:=f.rr++[k]}else[]
end Go.Sf.Sc
namespace Go.Sf.Sc
open Go Go.Sf
def cR(f:AV)(o:List hT):AV:={f with out:=o}
theorem Ys.out{f:AV}(h:Ys f)(o:List hT):Ys (cR f o):=⟨h.pn,h.pe,h.ends,h.kinds,h.small⟩
def Lb(f:AV)(l:List hT):AV:=cR f ((f.out++l).take f.sN.toNat)
structure kE(f:AV):Prop where
 m0:0<=f.sN
 m1:f.sN<=10000
 out:(f.out.length:Int)<=f.sN
end Go.Sf.Sc
namespace Go.Sf.Sc
open Go Go.Sf
end Go.Sf.Sc
namespace Go.Sf.Sc
open Go Go.Sf
theorem PU(n:Nat):(K0 n).length=n:=by simp[K0]
variable{α:Type}
theorem Q8{n:Nat}[Inhabited α](F:Int->α){i:Int}(a:0<=i)(b:i<n):AE ((K0 n).map F) i=F i:=by
 unfold AE K0
 grind
def ce(t:AB)(a:Int):a5:=(K0 t.ff.length).map fun k=>Sj t k a
def Q7(t:AB):List a5:=(K0 t.ff.length).map (ce t)
end Go.Sf.Sc
namespace Go.Sf.Sc
open Go Go.Sf
def bZ:Nat->AV->List hT
 |0,f=>bY f.p.gt.length f|n+1,f=>(K0 f.g.ff.length).flatMap fun k=>if j5 f k=true then bZ n {f with rf:=f.rf++[k]}else[]
end Go.Sf.Sc
namespace Go.Sf.Sc
open Go Go.Sf
structure kB(s:Aq):Prop where
 m0:0<=s.sN
 m1:s.sN<=9999
 out:(s.t8.length:Int)<=s.sN+1
end Go.Sf.Sc
namespace Go.Sf.Sc
open Go Go.Sf
end Go.Sf.Sc
namespace Go.Sf.Sc
open Go Go.Sf
end Go.Sf.Sc
namespace Go.Sf.Sc
open Go Go.Sf
def FF(t:AB)(p g:fq)(pa:hT)(inj:Bool):AV:=⟨p,g,Q7 t,pa,inj,5001,[],[],[]⟩
def Vu(t:AB)(p g:fq)(pa:hT)(inj:Bool):List hT:=(bZ p.ff.length (FF t p g pa inj)).take 5001
end Go.Sf.Sc
namespace Go.Sf.Sc
open Go Go.Sf
def iy(n k:Int):Bool:=decide (k< -1)||decide (n<=k)
def R3(l:Fp)(n:Int):Int:=if l.any (iy n)=true then 6 else 0
end Go.Sf.Sc
namespace Go.Sf.Sc
open Go Go.Sf
def La(t:AB)(p g:fq):Int:=if(CE t).2≠0 then(CE t).2 else if CZ p≠0 then CZ p else if CZ g≠0 then CZ g else if(Ed t p&&Ed t g)=true then 0 else 13
end Go.Sf.Sc
namespace Go.Sf.Sc
open Go Go.Sf
theorem XO{t:AB}{p g:fq}{b:hT}{inj:Bool}(h:La t p g=0)(j:b.ff.length=p.ff.length)(o:b.gt.length=p.gt.length):(CE t).2=0/\Ys (FF t p g b inj):=by
 unfold La at h;by_cases hv:(CE t).2=0
 .rw[az (by simp[hv])]at h;by_cases f:CZ p=0
  .rw[az (by simp[f])]at h;by_cases i:CZ g=0
   .rw[az (by simp[i])]at h;by_cases a:(Ed t p&&Ed t g)=true
    .rw[sc]at a;have op:=I6 f;have d:=I6 i;have tp:=I4 op a.1;have r:=I4 d a.2;have s:(Q7 t).length=t.ff.length:=by unfold Q7;rw[f0,PU]
     refine ⟨hv,j,o,fun e he=>?_,fun n q=>?_,Nat.le_trans op.rf (by omega),Nat.le_trans op.rr (by omega),Nat.le_trans d.rf (by omega),Nat.le_trans d.rr (by omega)⟩
     .have:=op.fit e he;exact⟨this.2.1.1,this.2.1.2,this.2.2.1,this.2.2.2⟩
     .have:=tp.1 n q;refine⟨this.1,by show n<((Q7 t).length:Int);rw[s];exact this.2,fun k c=>?_⟩;have c:=r.1 k c;refine⟨c.1,?_⟩;show k<((AE (Q7 t) n).length:Int)
      grind [Q7,Q8,ce,f0,PU]
    grind
   grind
  grind
 grind
def jO(t:AB)(p g:fq)(pa:hT)(inj:Bool):List hT×Int:=
 if La t p g≠0 then([],La t p g)else if¬(pa.ff.length=p.ff.length/\pa.gt.length=p.gt.length)then([],20)else
 if R3 pa.ff g.ff.length≠0 then([],R3 pa.ff g.ff.length)else if R3 pa.gt g.gt.length≠0 then([],R3 pa.gt g.gt.length)else
 if 5000<(Vu t p g pa inj).length then([],3)else(Vu t p g pa inj,0)
end Go.Sf.Sc
