/- Plain lemmas: what the functions of the program and of the reference compute. -/
import Derived.Test.YthhobbgaejimgaaGreatDoorP1
import Derived.Test.YthhobbgaejimgaaGreatDoorEval
set_option linter.all false
set_option maxRecDepth 100000
namespace Go.Sf.Sc
open Go Go.Sf
end Go.Sf.Sc
namespace Go.Sf.Sc
open Go Go.Sf
variable{α:Type}{l m:List α}
theorem bf[Inhabited α](b:α->α->Bool)(d:∀x∈l,∀y∈m,(b x y=true↔x=y))(e:l.length=m.length):DM (fun i=>!b (at' l i) (at' m i)) 0 l.length=false↔l=m:=by
 rw [D4];constructor
 .intro h;refine cz e (fun i a c=>?_);have:=h i a c;rw[Bool.not_eq_false']at this;exact(d _ (B6 a c) _ (B6 a (by omega))).1 this
 .rintro rfl i a c;rw[Bool.not_eq_false'];exact(d _ (B6 a c) _ (B6 a c)).2 rfl
theorem aU[Inhabited α][DecidableEq α](f:l.length=m.length){k:Unit->K1}{c:Bool->K1}:o4 (rb (ρ:=Bool) (fun(d:Int)(_:Unit)=>
 (idx l d).bind fun a=>
 (idx m d).bind fun b=>
 if (!decide (a=b))=true then
 some (.ret false)
 else
 some (.next ())) 0 (l.length:Int) ()) k c=if l=m then k ()else c false:=by
 rw [Mg (fun i=>!decide (at' l i=at' m i)) false]
 .have:=bf (fun x y:α=>decide (x=y)) (l:=l) (m:=m) (fun _ _ _ _=>decide_eq_true_iff) f;by_cases h:l=m
  .rw[this.2 h,az h];rfl
  .rw[bk h];cases j:DM (fun i=>!decide (at' l i=at' m i)) 0 l.length
   .exact absurd (this.1 j) h
   .rfl
 .intro i e g _;rw[Ds e g,bs,Ds e (by omega),bs,dR]
theorem Tx[Inhabited α][DecidableEq α](l m:List α):(if(!decide ((l.length:Int)=(m.length:Int)))=true then
 some false
 else
 o4 (rb (ρ:=Bool) (fun(d:Int)(_:Unit)=>
 (idx l d).bind fun a=>
 (idx m d).bind fun b=>
 if (!decide (a=b))=true then
 some (.ret false)
 else
 some (.next ())) 0 (l.length:Int) ()) (fun _=>
 some true) (fun f=>some f))=some (decide (l=m)):=by
 by_cases c:l.length=m.length
 .rw[bk (by simp[c]),aU c];by_cases h:l=m
  .rw[az h,decide_eq_true h]
  .rw[bk h,decide_eq_false h]
 .rw[az (by simp;omega),decide_eq_false (fun e=>c (by rw[e]))]
theorem bG(l m:Fp):Fu l m=some (decide (l=m)):=Tx l m
theorem bH(l m:Fp):Fw l m=some (decide (l=m)):=Tx l m
end Go.Sf.Sc
namespace Go.Sf.Sc
open Go Go.Sf
mutual
def FA:j0->Nat
 |⟨_,kids,_,_⟩=>1+O0 kids
def O0:List j0->Nat
 |[]=>0|k::l=>FA k+O0 l
end
mutual
def lG:j0->Nat
 |⟨k,kids,_,_⟩=>(if k=5 then 1 else 0)+dL kids
def dL:List j0->Nat
 |[]=>0|k::l=>max (lG k) (dL l)
end
theorem V5(c:j0):FA c=1+O0 c.rm:=by cases c;rfl
theorem R1:∀{l:List j0}{k:j0},k∈l->FA k<=O0 l
 |x::l,k,h=>by
  rw [O0];rcases List.mem_cons.1 h with rfl|h
  .omega
  .have:=R1 h;omega
end Go.Sf.Sc
namespace Go.Sf.Sc
open Go Go.Sf
class PL(α:Type)where
 at_:α->Int->Int
 ok:α->Nat->Prop
instance:PL Fp:=⟨at',fun l n=>l.length=n⟩
instance:PL (Option Fp):=⟨fun o i=>match o with|none=>-1|some l=>at' l i,fun o n=>match o with|none=>True|some l=>l.length=n⟩
structure ZU(f:AT):Prop where
 pn:PL.ok f.rd.fq f.p.fq.length
 pe:PL.ok f.rd.jj f.p.jj.length
 ends:∀e∈f.p.jj,0≤e.rA/\e.rA<f.p.fq.length/\0≤e.To/\e.To<f.p.fq.length
 kinds:∀n∈f.p.fq,0<=n/\n<f.is.length/\∀t∈f.g.fq,0<=t/\t<(at' f.is n).length
 small:f.p.fq.length<=1000/\f.p.jj.length<=1000/\f.g.fq.length<=1000/\f.g.jj.length<=1000
def jR(f:AT)(i k:Int):Bool:=
 (decide (PL.at_ f.rd.jj i<0)||decide (PL.at_ f.rd.jj i=k))&&decide (at' f.g.jj k=⟨(at' f.p.jj i).rx,at' f.qz (at' f.p.jj i).rA,at' f.qz (at' f.p.jj i).To⟩)
def Jx(n:Nat):Fp:=(List.range n).map Int.ofNat
def lK(f:AT)(k:Int):Bool:=(decide (PL.at_ f.rd.fq f.qz.length<0)||decide (PL.at_ f.rd.fq f.qz.length=k))&&at' (at' f.is (at' f.p.fq f.qz.length)) (at' f.g.fq k)&&!(f.pc&&f.qz.any fun x=>decide (k=x))
def lJ(f:AT)(k:Int):Bool:=jR f f.rg.length k&&!(f.pc&&f.rg.any fun x=>decide (k=x))
def cu:Nat->AT->List gt
 |0,f=>[⟨f.qz,f.rg⟩]|n+1,f=>(Jx f.g.jj.length).flatMap fun k=>if lJ f k=true then cu n {f with rg:=f.rg++[k]}else[]
end Go.Sf.Sc
namespace Go.Sf.Sc
open Go Go.Sf
def dt(f:AT)(o:List gt):AT:={f with out:=o}
theorem ZU.out{f:AT}(h:ZU f)(o:List gt):ZU (dt f o):=⟨h.pn,h.pe,h.ends,h.kinds,h.small⟩
def KU(f:AT)(l:List gt):AT:=dt f ((f.out++l).take f.rJ.toNat)
structure lQ(f:AT):Prop where
 m0:0<=f.rJ
 m1:f.rJ<=10000
 out:(f.out.length:Int)<=f.rJ
end Go.Sf.Sc
namespace Go.Sf.Sc
open Go Go.Sf
end Go.Sf.Sc
namespace Go.Sf.Sc
open Go Go.Sf
theorem PH(n:Nat):(Jx n).length=n:=by simp[Jx]
variable{α:Type}
theorem Qb{n:Nat}[Inhabited α](F:Int->α){i:Int}(a:0<=i)(b:i<n):at' ((Jx n).map F) i=F i:=by
 unfold at' Jx
 grind
def eA(t:AB)(a:Int):ae:=(Jx t.fq.length).map fun k=>SL t k a
def Qa(t:AB):List ae:=(Jx t.fq.length).map (eA t)
end Go.Sf.Sc
namespace Go.Sf.Sc
open Go Go.Sf
def cv:Nat->AT->List gt
 |0,f=>cu f.p.jj.length f|n+1,f=>(Jx f.g.fq.length).flatMap fun k=>if lK f k=true then cv n {f with qz:=f.qz++[k]}else[]
end Go.Sf.Sc
namespace Go.Sf.Sc
open Go Go.Sf
end Go.Sf.Sc
namespace Go.Sf.Sc
open Go Go.Sf
end Go.Sf.Sc
namespace Go.Sf.Sc
open Go Go.Sf
end Go.Sf.Sc
namespace Go.Sf.Sc
open Go Go.Sf
def FF(t:AB)(p g:hT)(pa:gt)(inj:Bool):AT:=⟨p,g,Qa t,pa,inj,5001,[],[],[]⟩
def WG(t:AB)(p g:hT)(pa:gt)(inj:Bool):List gt:=(cv p.fq.length (FF t p g pa inj)).take 5001
end Go.Sf.Sc
namespace Go.Sf.Sc
open Go Go.Sf
def jz(n k:Int):Bool:=decide (k< -1)||decide (n<=k)
def RY(l:Fp)(n:Int):Int:=if l.any (jz n)=true then 6 else 0
end Go.Sf.Sc
namespace Go.Sf.Sc
open Go Go.Sf
def KT(t:AB)(p g:hT):Int:=if(B9 t).2≠0 then(B9 t).2 else if CT p≠0 then CT p else if CT g≠0 then CT g else if(Eb t p&&Eb t g)=true then 0 else 13
end Go.Sf.Sc
namespace Go.Sf.Sc
open Go Go.Sf
theorem Xu{t:AB}{p g:hT}{b:gt}{inj:Bool}(h:KT t p g=0)(j:b.fq.length=p.fq.length)(o:b.jj.length=p.jj.length):(B9 t).2=0/\ZU (FF t p g b inj):=by
 unfold KT at h;by_cases hv:(B9 t).2=0
 .rw[bk (by simp[hv])]at h;by_cases f:CT p=0
  .rw[bk (by simp[f])]at h;by_cases i:CT g=0
   .rw[bk (by simp[i])]at h;by_cases a:(Eb t p&&Eb t g)=true
    .rw[rt]at a;have op:=IE f;have d:=IE i;have tp:=H9 op a.1;have r:=H9 d a.2;have s:(Qa t).length=t.fq.length:=by unfold Qa;rw[fd,PH]
     refine ⟨hv,j,o,fun e he=>?_,fun n q=>?_,Nat.le_trans op.qz (by omega),Nat.le_trans op.rg (by omega),Nat.le_trans d.qz (by omega),Nat.le_trans d.rg (by omega)⟩
     .have:=op.fit e he;exact⟨this.2.1.1,this.2.1.2,this.2.2.1,this.2.2.2⟩
     .have:=tp.1 n q;refine⟨this.1,by show n<((Qa t).length:Int);rw[s];exact this.2,fun k c=>?_⟩;have c:=r.1 k c;refine⟨c.1,?_⟩;show k<((at' (Qa t) n).length:Int)
      grind [Qa,Qb,eA,fd,PH]
    grind
   grind
  grind
 grind
def kO(t:AB)(p g:hT)(pa:gt)(inj:Bool):List gt×Int:=
 if KT t p g≠0 then([],KT t p g)else if¬(pa.fq.length=p.fq.length/\pa.jj.length=p.jj.length)then([],20)else
 if RY pa.fq g.fq.length≠0 then([],RY pa.fq g.fq.length)else if RY pa.jj g.jj.length≠0 then([],RY pa.jj g.jj.length)else
 if 5000<(WG t p g pa inj).length then([],3)else(WG t p g pa inj,0)
end Go.Sf.Sc
