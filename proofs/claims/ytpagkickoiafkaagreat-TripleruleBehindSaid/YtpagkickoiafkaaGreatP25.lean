/- Plain lemmas: what the functions of the program and of the reference compute. -/
import Derived.Test.YtpagkickoiafkaaGreatP1
set_option linter.all false
set_option maxRecDepth 100000
namespace Go.Sf.Sc
open Go Go.Sf
end Go.Sf.Sc
namespace Go.Sf.Sc
open Go Go.Sf
end Go.Sf.Sc
namespace Go.Sf.Sc
open Go Go.Sf
mutual
def Hh:gt->Nat
 |⟨_,kids,_,_⟩=>1+Z7 kids
def Z7:List gt->Nat
 |[]=>0|k::l=>Hh k+Z7 l
end
mutual
def gx:gt->Nat
 |⟨k,kids,_,_⟩=>(if k=5 then 1 else 0)+aD kids
def aD:List gt->Nat
 |[]=>0|k::l=>max (gx k) (aD l)
end
end Go.Sf.Sc
namespace Go.Sf.Sc
open Go Go.Sf
class PL(α:Type)where
 at_:α->Int->Int
 ok:α->Nat->Prop
instance:PL Fp:=⟨AD,λl n=>l.length=n⟩
instance:PL (Option Fp):=⟨λo i=>match o with|none=>-1|some l=>AD l i,λo n=>match o with|none=>True|some l=>l.length=n⟩
structure X6(f:AW):Prop where
 pn:PL.ok f.jx.fd f.p.fd.length
 pe:PL.ok f.jx.fq f.p.fq.length
 ends:∀e∈f.p.fq,0≤e.jK/\e.jK<f.p.fd.length/\0≤e.To/\e.To<f.p.fd.length
 kinds:∀n∈f.p.fd,0<=n/\n<f.is.length/\∀t∈f.g.fd,0<=t/\t<(AD f.is n).length
 small:f.p.fd.length<=1000/\f.p.fq.length<=1000/\f.g.fd.length<=1000/\f.g.fq.length<=1000
def eP(f:AW)(i k:Int):Bool:=
 (decide (PL.at_ f.jx.fq i<0)||decide (PL.at_ f.jx.fq i=k))&&decide (AD f.g.fq k=⟨(AD f.p.fq i).jo,AD f.ji (AD f.p.fq i).jK,AD f.ji (AD f.p.fq i).To⟩)
def Hc(n:Nat):Fp:=(List.range n).map Int.ofNat
def g9(f:AW)(k:Int):Bool:=(decide (PL.at_ f.jx.fd f.ji.length<0)||decide (PL.at_ f.jx.fd f.ji.length=k))&&AD (AD f.is (AD f.p.fd f.ji.length)) (AD f.g.fd k)&&!(f.ju&&f.ji.any λx=>decide (k=x))
def g8(f:AW)(k:Int):Bool:=eP f f.jw.length k&&!(f.ju&&f.jw.any λx=>decide (k=x))
def Zz:Nat->AW->List f0
 |0,f=>[⟨f.ji,f.jw⟩]|n+1,f=>(Hc f.g.fq.length).flatMap λk=>if g8 f k=true then Zz n {f with jw:=f.jw++[k]}else[]
end Go.Sf.Sc
namespace Go.Sf.Sc
open Go Go.Sf
def ai(f:AW)(o:List f0):AW:={f with out:=o}
theorem X6.out{f:AW}(h:X6 f)(o:List f0):X6 (ai f o):=⟨h.pn,h.pe,h.ends,h.kinds,h.small⟩
def KT(f:AW)(l:List f0):AW:=ai f ((f.out++l).take f.kB.toNat)
structure iK(f:AW):Prop where
 m0:0<=f.kB
 m1:f.kB<=10000
 out:(f.out.length:Int)<=f.kB
end Go.Sf.Sc
namespace Go.Sf.Sc
open Go Go.Sf
end Go.Sf.Sc
namespace Go.Sf.Sc
open Go Go.Sf
theorem P8(n:Nat):(Hc n).length=n:=by simp[Hc]
theorem Q7{n:Nat}{α:Type}[Inhabited α](F:Int->α){i:Int}(a:0<=i)(b:i<n):AD ((Hc n).map F) i=F i:=by
 unfold AD Hc
 grind
def aq(t:AE)(a:Int):a5:=(Hc t.fd.length).map λk=>lD t k a
def Q6(t:AE):List a5:=(Hc t.fd.length).map (aq t)
end Go.Sf.Sc
namespace Go.Sf.Sc
open Go Go.Sf
def Z0:Nat->AW->List f0
 |0,f=>Zz f.p.fq.length f|n+1,f=>(Hc f.g.fd.length).flatMap λk=>if g9 f k=true then Z0 n {f with ji:=f.ji++[k]}else[]
end Go.Sf.Sc
namespace Go.Sf.Sc
open Go Go.Sf
structure iE(s:Aw):Prop where
 m0:0<=s.kB
 m1:s.kB<=9999
 out:(s.lK.length:Int)<=s.kB+1
end Go.Sf.Sc
namespace Go.Sf.Sc
open Go Go.Sf
end Go.Sf.Sc
namespace Go.Sf.Sc
open Go Go.Sf
end Go.Sf.Sc
namespace Go.Sf.Sc
open Go Go.Sf
def FF(t:AE)(p g:ff)(pa:f0)(inj:Bool):AW:=⟨p,g,Q6 t,pa,inj,5001,[],[],[]⟩
def VV(t:AE)(p g:ff)(pa:f0)(inj:Bool):List f0:=(Z0 p.fd.length (FF t p g pa inj)).take 5001
end Go.Sf.Sc
namespace Go.Sf.Sc
open Go Go.Sf
def fI(n k:Int):Bool:=decide (k< -1)||decide (n<=k)
def R0(l:Fp)(n:Int):Int:=if l.any (fI n)=true then 6 else 0
end Go.Sf.Sc
namespace Go.Sf.Sc
open Go Go.Sf
def JS(t:AE)(p g:ff):Int:=if(CF t).2≠0 then(CF t).2 else if Bx p≠0 then Bx p else if Bx g≠0 then Bx g else if(Cf t p&&Cf t g)=true then 0 else 13
end Go.Sf.Sc
namespace Go.Sf.Sc
open Go Go.Sf
theorem Wg{t:AE}{p g:ff}{b:f0}{inj:Bool}(h:JS t p g=0)(j:b.fd.length=p.fd.length)(l:b.fq.length=p.fq.length):(CF t).2=0/\X6 (FF t p g b inj):=by
 unfold JS at h;by_cases hv:(CF t).2=0
 .rw[az (by simp[hv])]at h;by_cases f:Bx p=0
  .rw[az (by simp[f])]at h;by_cases i:Bx g=0
   .rw[az (by simp[i])]at h;by_cases a:(Cf t p&&Cf t g)=true
    .rw[jP]at a;have op:=Hi f;have d:=Hi i;have tp:=GZ op a.1;have o:=GZ d a.2;have q:(Q6 t).length=t.fd.length:=by unfold Q6;rw[ec,P8]
     refine ⟨hv,j,l,λe he=>?_,λn m=>?_,Nat.le_trans op.ji U,Nat.le_trans op.jw U,Nat.le_trans d.ji U,Nat.le_trans d.jw U⟩
     .have:=op.fit e he;exact⟨this.2.1.1,this.2.1.2,this.2.2.1,this.2.2.2⟩
     .have:=tp.1 n m;refine⟨this.1,by show n<((Q6 t).length:Int);rw[q];exact this.2,λk c=>?_⟩;have c:=o.1 k c;refine⟨c.1,?_⟩;show k<((AD (Q6 t) n).length:Int)
      grind [Q6,Q7,aq,ec,P8]
    grind
   grind
  grind
 grind
def gB(t:AE)(p g:ff)(pa:f0)(inj:Bool):List f0×Int:=
 if JS t p g≠0 then([],JS t p g)else if¬(pa.fd.length=p.fd.length/\pa.fq.length=p.fq.length)then([],20)else
 if R0 pa.fd g.fd.length≠0 then([],R0 pa.fd g.fd.length)else if R0 pa.fq g.fq.length≠0 then([],R0 pa.fq g.fq.length)else
 if 5000<(VV t p g pa inj).length then([],3)else(VV t p g pa inj,0)
end Go.Sf.Sc
