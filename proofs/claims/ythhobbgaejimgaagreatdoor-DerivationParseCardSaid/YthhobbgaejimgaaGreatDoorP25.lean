/- Plain lemmas: what the functions of the program and of the reference compute. -/
import Derived.Test.YthhobbgaejimgaaGreatDoorP1
import Derived.Test.YthhobbgaejimgaaGreatDoorEval
set_option linter.all false
set_option maxRecDepth 100000
namespace Go.Sf.Sc
open Go Go.Sf
end Go.Sf.Sc
namespace Go.Sf.Sc
open Go Go.Sf
variable{α:Type}{l m:List α}
theorem bH[Inhabited α](b:α->α->Bool)(d:∀x∈l,∀y∈m,(b x y=true↔x=y))(e:l.length=m.length):ra (fun i=>!b (at' l i) (at' m i)) 0 l.length=false↔l=m:=by
 rw [CW];constructor
 .intro h;refine cU e (fun i a c=>?_);have:=h i a c;rw[Bool.not_eq_false']at this;exact(d _ (BC a c) _ (BC a (by omega))).1 this
 .rintro rfl i a c;rw[Bool.not_eq_false'];exact(d _ (BC a c) _ (BC a c)).2 rfl
theorem Z6[Inhabited α][DecidableEq α](f:l.length=m.length){k:Unit->Fp}{c:Bool->Fp}:hV (pq (ρ:=Bool) (fun(d:Int)(_:Unit)=>
 (idx l d).bind fun a=>
 (idx m d).bind fun b=>
 if (!decide (a=b))=true then
 some (.ret false)
 else
 some (.next ())) 0 (l.length:Int) ()) k c=if l=m then k ()else c false:=by
 rw [Dh (fun i=>!decide (at' l i=at' m i)) false]
 .have:=bH (fun x y:α=>decide (x=y)) (l:=l) (m:=m) (fun _ _ _ _=>decide_eq_true_iff) f;by_cases h:l=m
  .rw[this.2 h,QQ h];rfl
  .rw[a6 h];cases j:ra (fun i=>!decide (at' l i=at' m i)) 0 l.length
   .exact absurd (this.1 j) h
   .rfl
 .intro i e g _;rw[As e g,bs,As e (by omega),bs,Ui]
theorem Te[Inhabited α][DecidableEq α](l m:List α):(if(!decide ((l.length:Int)=(m.length:Int)))=true then
 some false
 else
 hV (pq (ρ:=Bool) (fun(d:Int)(_:Unit)=>
 (idx l d).bind fun a=>
 (idx m d).bind fun b=>
 if (!decide (a=b))=true then
 some (.ret false)
 else
 some (.next ())) 0 (l.length:Int) ()) (fun _=>
 some true) (fun f=>some f))=some (decide (l=m)):=by
 by_cases c:l.length=m.length
 .rw[a6 (by simp[c]),Z6 c];by_cases h:l=m
  .rw[QQ h,decide_eq_true h]
  .rw[a6 h,decide_eq_false h]
 .rw[QQ (by simp;omega),decide_eq_false (fun e=>c (by rw[e]))]
theorem aX(l m:D1):F9 l m=some (decide (l=m)):=Te l m
theorem Tv(l m:D1):GA l m=some (decide (l=m)):=Te l m
end Go.Sf.Sc
namespace Go.Sf.Sc
open Go Go.Sf
mutual
def Eu:fd->Nat
 |⟨_,kids,_,_⟩=>1+O4 kids
def O4:List fd->Nat
 |[]=>0|k::l=>Eu k+O4 l
end
mutual
def k9:fd->Nat
 |⟨k,kids,_,_⟩=>(if k=5 then 1 else 0)+cq kids
def cq:List fd->Nat
 |[]=>0|k::l=>max (k9 k) (cq l)
end
theorem Vs(c:fd):Eu c=1+O4 c.qt:=by cases c;rfl
theorem Rz:∀{l:List fd}{k:fd},k∈l->Eu k<=O4 l
 |x::l,k,h=>by
  rw [O4];rcases List.mem_cons.1 h with rfl|h
  .omega
  .have:=Rz h;omega
end Go.Sf.Sc
namespace Go.Sf.Sc
open Go Go.Sf
class PL(α:Type)where
 at_:α->Int->Int
 ok:α->Nat->Prop
instance:PL D1:=⟨at',fun l n=>l.length=n⟩
instance:PL (Option D1):=⟨fun o i=>match o with|none=>-1|some l=>at' l i,fun o n=>match o with|none=>True|some l=>l.length=n⟩
structure Yz(f:AU):Prop where
 pn:PL.ok f.qf.ci f.p.ci.length
 pe:PL.ok f.qf.d6 f.p.d6.length
 ends:∀e∈f.p.d6,0≤e.qx/\e.qx<f.p.ci.length/\0≤e.To/\e.To<f.p.ci.length
 kinds:∀n∈f.p.ci,0<=n/\n<f.is.length/\∀t∈f.g.ci,0<=t/\t<(at' f.is n).length
 small:f.p.ci.length<=1000/\f.p.d6.length<=1000/\f.g.ci.length<=1000/\f.g.d6.length<=1000
def jS(f:AU)(i k:Int):Bool:=
 (decide (PL.at_ f.qf.d6 i<0)||decide (PL.at_ f.qf.d6 i=k))&&decide (at' f.g.d6 k=⟨(at' f.p.d6 i).qz,at' f.k7 (at' f.p.d6 i).qx,at' f.k7 (at' f.p.d6 i).To⟩)
def KK(n:Nat):D1:=(List.range n).map Int.ofNat
def lF(f:AU)(k:Int):Bool:=(decide (PL.at_ f.qf.ci f.k7.length<0)||decide (PL.at_ f.qf.ci f.k7.length=k))&&at' (at' f.is (at' f.p.ci f.k7.length)) (at' f.g.ci k)&&!(f.j0&&f.k7.any fun x=>decide (k=x))
def lD(f:AU)(k:Int):Bool:=jS f f.qr.length k&&!(f.j0&&f.qr.any fun x=>decide (k=x))
def cP:Nat->AU->List ec
 |0,f=>[⟨f.k7,f.qr⟩]|n+1,f=>(KK f.g.d6.length).flatMap fun k=>if lD f k=true then cP n {f with qr:=f.qr++[k]}else[]
end Go.Sf.Sc
namespace Go.Sf.Sc
open Go Go.Sf
def dT(f:AU)(o:List ec):AU:={f with out:=o}
theorem Yz.out{f:AU}(h:Yz f)(o:List ec):Yz (dT f o):=⟨h.pn,h.pe,h.ends,h.kinds,h.small⟩
def Ko(f:AU)(l:List ec):AU:=dT f ((f.out++l).take f.qn.toNat)
structure lM(f:AU):Prop where
 m0:0<=f.qn
 m1:f.qn<=10000
 out:(f.out.length:Int)<=f.qn
end Go.Sf.Sc
namespace Go.Sf.Sc
open Go Go.Sf
end Go.Sf.Sc
namespace Go.Sf.Sc
open Go Go.Sf
theorem PQ(n:Nat):(KK n).length=n:=by simp[KK]
variable{α:Type}
theorem Qj{n:Nat}[Inhabited α](F:Int->α){i:Int}(a:0<=i)(b:i<n):at' ((KK n).map F) i=F i:=by
 unfold at' KK
 grind
def dy(t:AB)(a:Int):Ne:=(KK t.ci.length).map fun k=>Nu t k a
def Qi(t:AB):List Ne:=(KK t.ci.length).map (dy t)
end Go.Sf.Sc
namespace Go.Sf.Sc
open Go Go.Sf
def cQ:Nat->AU->List ec
 |0,f=>cP f.p.d6.length f|n+1,f=>(KK f.g.ci.length).flatMap fun k=>if lF f k=true then cQ n {f with k7:=f.k7++[k]}else[]
end Go.Sf.Sc
namespace Go.Sf.Sc
open Go Go.Sf
end Go.Sf.Sc
namespace Go.Sf.Sc
open Go Go.Sf
end Go.Sf.Sc
namespace Go.Sf.Sc
open Go Go.Sf
end Go.Sf.Sc
namespace Go.Sf.Sc
open Go Go.Sf
def FF(t:AB)(p g:d3)(pa:ec)(inj:Bool):AU:=⟨p,g,Qi t,pa,inj,5001,[],[],[]⟩
def V0(t:AB)(p g:d3)(pa:ec)(inj:Bool):List ec:=(cQ p.ci.length (FF t p g pa inj)).take 5001
end Go.Sf.Sc
namespace Go.Sf.Sc
open Go Go.Sf
def jy(n k:Int):Bool:=decide (k< -1)||decide (n<=k)
def Rb(l:D1)(n:Int):Int:=if l.any (jy n)=true then 6 else 0
end Go.Sf.Sc
namespace Go.Sf.Sc
open Go Go.Sf
def Kn(t:AB)(p g:d3):Int:=if(BL t).2≠0 then(BL t).2 else if CC p≠0 then CC p else if CC g≠0 then CC g else if(Ea t p&&Ea t g)=true then 0 else 13
end Go.Sf.Sc
namespace Go.Sf.Sc
open Go Go.Sf
theorem XU{t:AB}{p g:d3}{b:ec}{inj:Bool}(h:Kn t p g=0)(j:b.ci.length=p.ci.length)(o:b.d6.length=p.d6.length):(BL t).2=0/\Yz (FF t p g b inj):=by
 unfold Kn at h;by_cases hv:(BL t).2=0
 .rw[a6 (by simp[hv])]at h;by_cases f:CC p=0
  .rw[a6 (by simp[f])]at h;by_cases i:CC g=0
   .rw[a6 (by simp[i])]at h;by_cases a:(Ea t p&&Ea t g)=true
    .rw[q8]at a;have op:=Gy f;have d:=Gy i;have tp:=IL op a.1;have r:=IL d a.2;have s:(Qi t).length=t.ci.length:=by unfold Qi;rw[c6,PQ]
     refine ⟨hv,j,o,fun e he=>?_,fun n q=>?_,Nat.le_trans op.k7 (by omega),Nat.le_trans op.qr (by omega),Nat.le_trans d.k7 (by omega),Nat.le_trans d.qr (by omega)⟩
     .have:=op.fit e he;exact⟨this.2.1.1,this.2.1.2,this.2.2.1,this.2.2.2⟩
     .have:=tp.1 n q;refine⟨this.1,by show n<((Qi t).length:Int);rw[s];exact this.2,fun k c=>?_⟩;have c:=r.1 k c;refine⟨c.1,?_⟩;show k<((at' (Qi t) n).length:Int)
      grind [Qi,Qj,dy,c6,PQ]
    grind
   grind
  grind
 grind
def kK(t:AB)(p g:d3)(pa:ec)(inj:Bool):List ec×Int:=
 if Kn t p g≠0 then([],Kn t p g)else if¬(pa.ci.length=p.ci.length/\pa.d6.length=p.d6.length)then([],20)else
 if Rb pa.ci g.ci.length≠0 then([],Rb pa.ci g.ci.length)else if Rb pa.d6 g.d6.length≠0 then([],Rb pa.d6 g.d6.length)else
 if 5000<(V0 t p g pa inj).length then([],3)else(V0 t p g pa inj,0)
end Go.Sf.Sc
