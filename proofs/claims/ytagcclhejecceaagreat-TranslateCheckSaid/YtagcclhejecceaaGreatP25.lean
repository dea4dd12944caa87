/- Plain lemmas: what the functions of the program and of the reference compute. -/
import Derived.Test.YtagcclhejecceaaGreatP1
import Derived.Test.YtagcclhejecceaaGreatEval
set_option linter.all false
set_option maxRecDepth 100000
namespace Go.Sf.Sc
open Go Go.Sf
variable{t:AC}
theorem mR(hf:Aw t)(p:d6){c:d5}(e:FU c):DJ t p c=some (Lr t p c):=by
 by_cases d:(A8 t).2=0
 .exact fQ hf d p e
 .unfold DJ Lr;rw[WJ hf,bs];refine DQ fun h=>?_;exfalso;unfold Hh at h;rw[a6 d]at h;exact d h
end Go.Sf.Sc
namespace Go.Sf.Sc
open Go Go.Sf
variable{α:Type}
theorem b9[Inhabited α](b:α->α->Bool){l m:List α}(e:∀x∈l,∀y∈m,(b x y=true↔x=y))(j:l.length=m.length):kx (fun i=>!b (AA l i) (AA m i)) 0 l.length=false↔l=m:=by
 rw [By];constructor
 .intro h;refine Ys j (fun i c d=>?_);have:=h i c d;rw[Bool.not_eq_false']at this;exact(e _ (AJ c d) _ (AJ c (by omega))).1 this
 .rintro rfl i c d;rw[Bool.not_eq_false'];exact(e _ (AJ c d) _ (AJ c d)).2 rfl
theorem bO[Inhabited α][DecidableEq α]{l m:List α}(q:l.length=m.length){k:Unit->K1}{e:Bool->K1}:ek (jj (ρ:=Bool) (fun(j:Int)(_:Unit)=>
 (idx l j).bind fun c=>
 (idx m j).bind fun d=>
 if (!decide (c=d))=true then
 some (.ret false)
 else
 some (.next ())) 0 (l.length:Int) ()) k e=if l=m then k ()else e false:=by
 rw [BJ (fun i=>!decide (AA l i=AA m i)) false]
 .have:=b9 (fun x y:α=>decide (x=y)) (l:=l) (m:=m) (fun _ _ _ _=>decide_eq_true_iff) q;by_cases h:l=m
  .rw[this.2 h,a6 h];rfl
  .rw[ae h];cases u:kx (fun i=>!decide (AA l i=AA m i)) 0 l.length
   .exact absurd (this.1 u) h
   .rfl
 .intro i o r _;rw[AD o r,bs,AD o (by omega),bs,Hf]
theorem Wp[Inhabited α][DecidableEq α](l m:List α):(if(!decide ((l.length:Int)=(m.length:Int)))=true then
 some false
 else
 ek (jj (ρ:=Bool) (fun(k:Int)(_:Unit)=>
 (idx l k).bind fun c=>
 (idx m k).bind fun d=>
 if (!decide (c=d))=true then
 some (.ret false)
 else
 some (.next ())) 0 (l.length:Int) ()) (fun _=>
 some true) (fun o=>some o))=some (decide (l=m)):=by
 by_cases j:l.length=m.length
 .rw[ae (by simp[j]),bO j];by_cases h:l=m
  .rw[a6 h,decide_eq_true h]
  .rw[ae h,decide_eq_false h]
 .rw[a6 (by simp;omega),decide_eq_false (fun e=>j (by rw[e]))]
theorem lG(l m:Fp):slices_Equal_int l m=some (decide (l=m)):=Wp l m
theorem mb(l m:Fp):Kw l m=some (decide (l=m)):=Wp l m
theorem mc(l m:Fp):Kx l m=some (decide (l=m)):=Wp l m
theorem mt(a b:c9):M2 a b=some (decide (a=b)):=by
 unfold M2;rw[mc,bs];obtain⟨a1,a2⟩:=a;obtain⟨k,d⟩:=b;by_cases h:a1=k
 .by_cases c:a2.length=d.length
  .rw[ae (by simp[h,c]),bO c];by_cases j:a2=d<;>simp[h,j]
  .rw[a6 (by simp;omega)];rw[decide_eq_false (fun e=>c (by cases e;rfl))]
 .simp[h]
end Go.Sf.Sc
namespace Go.Sf.Sc
open Go Go.Sf
mutual
def FY:d5->Nat
 |⟨_,kids,_,_⟩=>1+U0 kids
def U0:List d5->Nat
 |[]=>0|k::l=>FY k+U0 l
end
mutual
def vK:d5->Nat
 |⟨k,kids,_,_⟩=>(if k=5 then 1 else 0)+oV kids
def oV:List d5->Nat
 |[]=>0|k::l=>max (vK k) (oV l)
end
theorem Y1(c:d5):FY c=1+U0 c.gn:=by cases c;rfl
theorem Y0:∀{l:List d5}{k:d5},k∈l->FY k<=U0 l
 |x::l,k,h=>by
  rw [U0];rcases List.mem_cons.1 h with rfl|h
  .omega
  .have:=Y0 h;omega
end Go.Sf.Sc
namespace Go.Sf.Sc
open Go Go.Sf
class PL(α:Type)where
 at_:α->Int->Int
 ok:α->Nat->Prop
instance:PL Fp:=⟨AA,fun l n=>l.length=n⟩
instance:PL (Option Fp):=⟨fun o i=>match o with|none=>-1|some l=>AA l i,fun o n=>match o with|none=>True|some l=>l.length=n⟩
structure MD(f:AL):Prop where
 pn:PL.ok f.fq.ca f.p.ca.length
 pe:PL.ok f.fq.ci f.p.ci.length
 ends:∀e∈f.p.ci,0≤e.kg/\e.kg<f.p.ca.length/\0≤e.To/\e.To<f.p.ca.length
 kinds:∀n∈f.p.ca,0<=n/\n<f.is.length/\∀t∈f.g.ca,0<=t/\t<(AA f.is n).length
 small:f.p.ca.length<=1000/\f.p.ci.length<=1000/\f.g.ca.length<=1000/\f.g.ci.length<=1000
def KF(f:AL)(i k:Int):Bool:=
 (decide (PL.at_ f.fq.ci i<0)||decide (PL.at_ f.fq.ci i=k))&&decide (AA f.g.ci k=⟨(AA f.p.ci i).j4,AA f.d7 (AA f.p.ci i).kg,AA f.d7 (AA f.p.ci i).To⟩)
variable{α:Type}
theorem fK{l:List α}(h:l≠[]):VC l=some ():=by grind[VC]
variable{l:Fp}{i:Int}
theorem Vy(d:0<=i)(c:i<l.length):((VC l).bind fun _=>(idx l i).bind fun x=>some x)=some (AA l i):=by
 rw [fK (by intro h;subst h;simp at c;omega),bs,AD d c,bs]
variable{n:Nat}
theorem ZO:∀{l},PL.ok l n->0<=i->i<n->Kh l i=some (PL.at_ l i):=by
 intro l h c d
 first
  |(cases l with
    |none=>rfl|some l=>exact Vy c (by have:l.length=n:=h;omega))
  |exact Vy c (by have:l.length=n:=h;omega)
variable{f:AL}
theorem fY(hf:MD f){i k:Int}(c:0<=i)(d:i<f.p.ci.length)(e:0<=k)(h:k<f.g.ci.length)(j:(AA f.p.ci i).kg<f.d7.length)(hT:(AA f.p.ci i).To<f.d7.length):Dj f i k=some (KF f i k):=by
 have he:=hf.ends _ (AJ c d);unfold Dj KF;rw[AD c d,bs,ZO hf.pe c d,bs,AD e h,bs,AD he.1 j,bs,AD he.2.2.1 hT,bs]
 grind
def Nq(f:AL):Bool:=!kx (fun i=>decide (max (AA f.p.ci i).kg (AA f.p.ci i).To=(f.d7.length:Int)-1)&&!kx (fun k=>KF f i k) 0 f.g.ci.length) 0 f.p.ci.length
variable{b:Int}
theorem lq{f:Int->Bool->Option (Bx Bool Bool)}(p:Int->Bool)(h:∀i,0<=i->i<b->f i false=some (if p i=true then .brk true else .next false)):jj f 0 b false=some (.inl (kx p 0 b)):=by
 have key:∀(m:Nat)(i:Int),0<=i->i+m=b->wo f m i false=some (.inl (kx p i b)):=by
  intro m
  induction m with
  |zero=>
   intro i c hi;have:kx p i b=false:=by rw[By];intro j k o;omega
   rw [this];rfl
  |succ m r=>
   intro i c hi;rw[E9,h i c (by omega)];by_cases d:p i=true
   .have:kx p i b=true:=by rw[D9];exact⟨i,Int.le_refl _,by omega,d⟩
    rw [a6 d,this]
   .have e:kx p i b=kx p (i+1) b:=by
     rw [Bool.eq_iff_iff,D9,D9]
     grind
    grind
 unfold jj;by_cases q:0<=b
 .grind
 .have:kx p 0 b=false:=by rw[By];intro j k o;omega
  rw [this,show(b-0).toNat=0 by omega];rfl
theorem da(hf:MD f)(o:0<f.d7.length)(h:f.d7.length<=1000):CC f=some (Nq f):=by
 unfold CC Nq;rw[BJ (fun i=>decide (max (AA f.p.ci i).kg (AA f.p.ci i).To=(f.d7.length:Int)-1)&&!kx (fun k=>KF f i k) 0 f.g.ci.length) false]
 .generalize kx (fun i=>decide (max (AA f.p.ci i).kg (AA f.p.ci i).To=(f.d7.length:Int)-1)&&!kx (fun k=>KF f i k) 0 f.g.ci.length) 0 f.p.ci.length=b;cases b<;>rfl
 .intro i c d _;rw[AD c d,bs,At (n:=(f.d7.length:Int)-1) (by omega) (by omega)];by_cases e:max (AA f.p.ci i).kg (AA f.p.ci i).To=(f.d7.length:Int)-1
  .rw[ae (by simp[e]),lq (fun k=>KF f i k) (fun k j m=>by
    rw [fY hf c d j m (by omega) (by omega),bs,Hf])]
   generalize kx (fun k=>KF f i k) 0 f.g.ci.length=b;rw[decide_eq_true e];cases b<;>rfl
  grind
def A3(n:Nat):Fp:=(List.range n).map Int.ofNat
theorem T3(n:Nat):A3 (n+1)=A3 n++[(n:Int)]:=by grind[A3,List.range_succ]
def R0(f:AL)(k:Int):Bool:=(decide (PL.at_ f.fq.ca f.d7.length<0)||decide (PL.at_ f.fq.ca f.d7.length=k))&&AA (AA f.is (AA f.p.ca f.d7.length)) (AA f.g.ca k)&&!(f.em&&f.d7.any fun x=>decide (k=x))
def Rz(f:AL)(k:Int):Bool:=KF f f.ei.length k&&!(f.em&&f.ei.any fun x=>decide (k=x))
def EM:Nat->AL->List d3
 |0,f=>[⟨f.d7,f.ei⟩]|n+1,f=>(A3 f.g.ci.length).flatMap fun k=>if Rz f k=true then EM n {f with ei:=f.ei++[k]}else[]
def I7:Nat->AL->List d3
 |0,f=>EM f.p.ci.length f|n+1,f=>(A3 f.g.ca.length).flatMap fun k=>if(R0 f k&&Nq {f with d7:=f.d7++[k]})=true then I7 n {f with d7:=f.d7++[k]}else[]
theorem YA(a b:List α)(m:Nat):((a.take m)++b).take m=(a++b).take m:=by
 by_cases h:a.length<=m
 .rw[List.take_of_length_le h]
 grind
end Go.Sf.Sc
namespace Go.Sf.Sc
open Go Go.Sf
def RU(f:AL)(o:List d3):AL:={f with out:=o}
variable{f:AL}
theorem MD.out(h:MD f)(o:List d3):MD (RU f o):=⟨h.pn,h.pe,h.ends,h.kinds,h.small⟩
theorem PY:∀(n:Nat)(f:AL)(o:List d3),EM n (RU f o)=EM n f
 |0,_,_=>rfl|n+1,f,o=>by
  rw [EM,EM];refine congrArg (fun F=>(A3 f.g.ci.length).flatMap F) (funext fun k=>?_);have:=PY n {f with ei:=f.ei++[k]} o;show(if Rz f k=true then EM n (RU {f with ei:=f.ei++[k]} o)else[])=_;rw[this]
theorem Yo:∀(n:Nat)(f:AL)(o:List d3),I7 n (RU f o)=I7 n f
 |0,f,o=>PY _ f o|n+1,f,o=>by
  rw [I7,I7];refine congrArg (fun F=>(A3 f.g.ca.length).flatMap F) (funext fun k=>?_);have:=Yo n {f with d7:=f.d7++[k]} o;show(if(R0 f k&&Nq {f with d7:=f.d7++[k]})=true then I7 n (RU {f with d7:=f.d7++[k]} o)else[])=_;rw[this]
def BC(f:AL)(l:List d3):AL:=RU f ((f.out++l).take f.tc.toNat)
structure Wf(f:AL):Prop where
 m0:0<=f.tc
 m1:f.tc<=10000
 out:(f.out.length:Int)<=f.tc
theorem KL(h:Wf f):BC f []=f:=by
 unfold BC;rw[List.append_nil,List.take_of_length_le (by have:=h.out;have:=h.m0;omega)];rfl
theorem Xe(h:(f.out.length:Int)=f.tc)(l:List d3):BC f l=f:=by
 unfold BC;rw[List.take_append_of_le_length (by omega),List.take_of_length_le (by omega)];rfl
theorem Xg(h:Wf f)(l:List d3):Wf (BC f l):=by
 refine ⟨h.m0,h.m1,?_⟩;have:=h.m0;show(((f.out++l).take f.tc.toNat).length:Int)<=f.tc
 grind
theorem Xf(f:AL)(a b:List d3):BC (BC f a) b=BC f (a++b):=by
 show RU f ((((f.out++a).take f.tc.toNat)++b).take f.tc.toNat)=_;rw[YA,c8];rfl
theorem Vq:∀(n:Nat)(f:AL),MD f->Wf f->f.d7.length=f.p.ca.length->f.ei.length+n=f.p.ci.length->∀m,n+1<=m->Ay m f=some (BC f (EM n f))
 |n,f,hf,r,K,he,m,w=>by
  obtain ⟨m,rfl⟩:∃k,m=k+1:=⟨m-1,by omega⟩;have M:=hf.small;have N:=r.m0;have O:=r.m1;have P:=r.out;rw[Ay];by_cases d:(f.out.length:Int)=f.tc
  .grind[Xe]
  rw [ae (by simpa using d),ae (by simp;omega)]
  match n,he,w with
  |0,he,w=>
   rw [ae (by simp;omega)];unfold slices_Clone_int;rw[Bs (by unfold Aj;omega),bs,Bs (by unfold Aj;omega),bs,Aq (by simp;unfold Aj;omega),bs,bs];unfold BC;rw[List.take_of_length_le (by simp[EM];omega)];rfl
  |n+1,he,w=>
   rw [a6 (by simp;omega)];have F:∀k,Rz f k=true->MD {f with ei:=f.ei++[k]}:=fun k _=>⟨hf.pn,hf.pe,hf.ends,hf.kinds,hf.small⟩;rw[B0 (a:=0) (s:=f) (fun i=>BC f ((A3 i.toNat).flatMap fun k=>if Rz f k=true then EM n {f with ei:=f.ei++[k]}else[])) (by omega) (KL r)]
   .grind[Int.toNat_natCast,EM]
   .intro i B C;have D:A3 (i+1).toNat=A3 i.toNat++[i]:=by
     rw [show(i+1).toNat=i.toNat+1 by omega,T3];rw[show((i.toNat:Nat):Int)=i by omega]
    have E:∀l,BC f ((A3 (i+1).toNat).flatMap l)=BC (BC f ((A3 i.toNat).flatMap l)) (l i):=by
     intro l;rw[Xf,D,List.flatMap_append];simp
    rw [E];generalize (A3 i.toNat).flatMap (fun k=>if Rz f k=true then EM n {f with ei:=f.ei++[k]}else[])=L;have j:=Xg r L;have u:MD (BC f L):=hf.out _;have y:=hf.ends _ (AJ (l:=f.p.ci) (i:=(f.ei.length:Int)) (by omega) (by omega));rw[fY u (i:=(f.ei.length:Int)) (k:=i) (by omega) (by show _<(f.p.ci.length:Int);omega) B (by exact C) (by show(AA f.p.ci f.ei.length).kg<(f.d7.length:Int);omega) (by show(AA f.p.ci f.ei.length).To<(f.d7.length:Int);omega),bs];have G:slices_Contains_int (BC f L).ei i=some (f.ei.any fun x=>decide (i=x)):=LN f.ei i;rw[G];have o:KF (BC f L) f.ei.length i=KF f f.ei.length i:=rfl;have key:((Ai (BC f L).ei [i]).bind fun e=>
      (Ay m (AL.mk (BC f L).p (BC f L).g (BC f L).is (BC f L).fq (BC f L).em (BC f L).tc (BC f L).d7 e (BC f L).out)).bind fun c=>
      (xu c.ei 0 (f.ei.length:Int)).bind fun h=>
      some (AL.mk c.p c.g c.is c.fq c.em c.tc c.d7 h c.out))=some (BC (BC f L) (EM n {f with ei:=f.ei++[i]})):=by
     have H:Ai (BC f L).ei [i]=some (f.ei++[i]):=Aq (by show f.ei.length+1<=Aj;unfold Aj;omega);have z:=Vq n {BC f L with ei:=f.ei++[i]} ⟨hf.pn,hf.pe,hf.ends,hf.kinds,hf.small⟩ ⟨j.m0,j.m1,j.out⟩ K (by show(f.ei++[i]).length+n=f.p.ci.length;simp;omega) m (by omega);have I:EM n {BC f L with ei:=f.ei++[i]}=EM n {f with ei:=f.ei++[i]}:=PY n {f with ei:=f.ei++[i]} _;rw[I]at z;rw[H,bs];show(Ay m {BC f L with ei:=f.ei++[i]}).bind _=_;rw[z,bs];have J:xu (BC {BC f L with ei:=f.ei++[i]} (EM n {f with ei:=f.ei++[i]})).ei 0 (f.ei.length:Int)=some f.ei:=by
      show xu (f.ei++[i]) 0 (f.ei.length:Int)=_;rw[MB (by omega) (by rw[bk];omega),Int.toNat_natCast,List.take_left]
     rw [J];rfl
    rw [key,o];have v:Rz f i=(KF f f.ei.length i&&!(f.em&&f.ei.any fun x=>decide (i=x))):=rfl;have q:(BC f L).em=f.em:=rfl;rw[v,q];generalize Q:EM n {f with ei:=f.ei++[i]}=A;cases KF f f.ei.length i
    .simp only[Bool.false_and,Bool.false_eq_true,if_false,KL j];rfl
    .cases f.em
     .rfl
     .cases f.ei.any fun x=>decide (i=x)
      .rfl
      .simp only[Bool.and_self,Bool.not_true,Bool.and_false,Bool.false_eq_true,if_false,KL j];rfl
end Go.Sf.Sc
namespace Go.Sf.Sc
open Go Go.Sf
theorem Vr:∀(n:Nat)(f:AL),MD f->Wf f->f.ei=[]->f.d7.length+n=f.p.ca.length->∀m,n+f.p.ci.length+1<=m->Ay m f=some (BC f (I7 n f))
 |0,f,hf,q,he,Q,m,R=>by
  grind [I7,Vq]
 |n+1,f,hf,q,he,Q,m,R=>by
  obtain ⟨m,rfl⟩:∃k,m=k+1:=⟨m-1,by omega⟩;have S:=hf.small;have T:=q.m0;have U:=q.m1;have V:=q.out;rw[Ay];by_cases h:(f.out.length:Int)=f.tc
  .grind[Xe]
  rw [ae (by simpa using h),a6 (by simp;omega)];rw[B0 (a:=0) (s:=f) (fun i=>BC f ((A3 i.toNat).flatMap fun k=>if(R0 f k&&Nq {f with d7:=f.d7++[k]})=true then I7 n {f with d7:=f.d7++[k]}else[])) (by omega) (KL q)]
  .grind[Int.toNat_natCast,I7]
  .intro i z B;have E:A3 (i+1).toNat=A3 i.toNat++[i]:=by
    rw [show(i+1).toNat=i.toNat+1 by omega,T3];rw[show((i.toNat:Nat):Int)=i by omega]
   have F:∀l,BC f ((A3 (i+1).toNat).flatMap l)=BC (BC f ((A3 i.toNat).flatMap l)) (l i):=by
    intro l;rw[Xf,E,List.flatMap_append];simp
   rw [F];generalize (A3 i.toNat).flatMap (fun k=>if(R0 f k&&Nq {f with d7:=f.d7++[k]})=true then I7 n {f with d7:=f.d7++[k]}else[])=L;have j:=Xg q L;have u:(f.d7.length:Int)<(f.p.ca.length:Int):=by omega
   have o:=hf.kinds _ (AJ (l:=f.p.ca) (i:=(f.d7.length:Int)) (by omega) u);have v:=o.2.2 _ (AJ z B);have key:((Ai (BC f L).d7 [i]).bind fun d=>
     (CC (AL.mk (BC f L).p (BC f L).g (BC f L).is (BC f L).fq (BC f L).em (BC f L).tc d (BC f L).ei (BC f L).out)).bind fun r=>
     if r=true then
     (Ay m (AL.mk (BC f L).p (BC f L).g (BC f L).is (BC f L).fq (BC f L).em (BC f L).tc d (BC f L).ei (BC f L).out)).bind fun c=>
     (xu c.d7 0 (f.d7.length:Int)).bind fun e=>
     some (AL.mk c.p c.g c.is c.fq c.em c.tc e c.ei c.out)
     else
     (xu d 0 (f.d7.length:Int)).bind fun e=>
     some (AL.mk (BC f L).p (BC f L).g (BC f L).is (BC f L).fq (BC f L).em (BC f L).tc e (BC f L).ei (BC f L).out))=some (BC (BC f L) (if Nq {f with d7:=f.d7++[i]}=true then I7 n {f with d7:=f.d7++[i]}else[])):=by
    have G:Ai (BC f L).d7 [i]=some (f.d7++[i]):=Aq (by show f.d7.length+1<=Aj;unfold Aj;omega);have C:xu (f.d7++[i]) 0 (f.d7.length:Int)=some f.d7:=by
     rw [MB (by omega) (by rw[bk];omega),Int.toNat_natCast,List.take_left]
    have H:CC {BC f L with d7:=f.d7++[i]}=some (Nq {f with d7:=f.d7++[i]}):=da (f:={BC f L with d7:=f.d7++[i]}) ⟨hf.pn,hf.pe,hf.ends,hf.kinds,hf.small⟩ (by show 0<(f.d7++[i]).length;simp) (by show(f.d7++[i]).length<=1000;rw[bk];simp;omega);have D:=Vr n {BC f L with d7:=f.d7++[i]} ⟨hf.pn,hf.pe,hf.ends,hf.kinds,hf.small⟩ ⟨j.m0,j.m1,j.out⟩ he (by show(f.d7++[i]).length+n=f.p.ca.length;rw[bk];simp;omega) m (by show n+f.p.ci.length+1<=m;omega);have I:I7 n {BC f L with d7:=f.d7++[i]}=I7 n {f with d7:=f.d7++[i]}:=Yo n {f with d7:=f.d7++[i]} _;rw[I]at D;rw[G,bs];show(CC {BC f L with d7:=f.d7++[i]}).bind _=_;rw[H,bs];cases Nq {f with d7:=f.d7++[i]}
    .rw[ae (by decide),ae (by decide),C,KL j];rfl
    .rw[a6 rfl,a6 rfl];show(Ay m {BC f L with d7:=f.d7++[i]}).bind _=_;rw[D,bs];have J:xu (BC {BC f L with d7:=f.d7++[i]} (I7 n {f with d7:=f.d7++[i]})).d7 0 (f.d7.length:Int)=some f.d7:=C;rw[J];rfl
   have K:Kh (BC f L).fq.ca (f.d7.length:Int)=some (PL.at_ f.fq.ca f.d7.length):=ZO (n:=f.p.ca.length) hf.pn (by omega) (by omega);have M:idx (BC f L).p.ca (f.d7.length:Int)=some (AA f.p.ca f.d7.length):=AD (by omega) u;have hi:idx (BC f L).is (AA f.p.ca f.d7.length)=some (AA f.is (AA f.p.ca f.d7.length)):=AD o.1 o.2.1;have N:idx (AA f.is (AA f.p.ca f.d7.length)) (AA f.g.ca i)=some (AA (AA f.is (AA f.p.ca f.d7.length)) (AA f.g.ca i)):=AD v.1 v.2;have O:slices_Contains_int (BC f L).d7 i=some (f.d7.any fun x=>decide (i=x)):=LN f.d7 i;have w:(BC f L).em=f.em:=rfl;have y:R0 f i=((decide (PL.at_ f.fq.ca f.d7.length<0)||decide (PL.at_ f.fq.ca f.d7.length=i))&&AA (AA f.is (AA f.p.ca f.d7.length)) (AA f.g.ca i)&&!(f.em&&f.d7.any fun x=>decide (i=x))):=rfl;rw[AD z B,bs,K,bs,M,bs,hi,bs,N,bs,O,key,w,y];generalize AA (AA f.is (AA f.p.ca f.d7.length)) (AA f.g.ca i)=c2;have P:(decide (0<=PL.at_ f.fq.ca f.d7.length)&&!decide (PL.at_ f.fq.ca f.d7.length=i))=!(decide (PL.at_ f.fq.ca f.d7.length<0)||decide (PL.at_ f.fq.ca f.d7.length=i)):=by
    rw [Bool.not_or];congr 1;rw[<-decide_not];exact decide_eq_decide.2 (by omega)
   rw [P];generalize (decide (PL.at_ f.fq.ca f.d7.length<0)||decide (PL.at_ f.fq.ca f.d7.length=i))=c1;generalize Nq {f with d7:=f.d7++[i]}=c5;generalize I7 n {f with d7:=f.d7++[i]}=A;cases c1
   .simp only[Bool.false_and,Bool.false_eq_true,if_false,KL j];rfl
   .cases c2
    .simp only[Bool.and_false,Bool.false_and,Bool.false_eq_true,if_false,KL j];rfl
    .cases f.em
     .rfl
     .cases f.d7.any fun x=>decide (i=x)
      .rfl
      .simp only[Bool.and_self,Bool.not_true,Bool.and_false,Bool.false_and,Bool.false_eq_true,if_false,KL j];rfl
variable{f:AL}
theorem pE(hf:MD f)(c:Wf f)(he:f.ei=[])(d:f.d7=[]):GJ f=some (BC f (I7 f.p.ca.length f)):=
 Fa (f.p.ca.length+f.p.ci.length+1) fun m e=>Vr _ f hf c he (by rw[d];simp) m e
end Go.Sf.Sc
namespace Go.Sf.Sc
open Go Go.Sf
theorem BN(n:Nat):(A3 n).length=n:=by simp[A3]
variable{n:Nat}{i:Int}
theorem Eh:i∈A3 n↔0<=i/\i<n:=by
 unfold A3;rw[List.mem_map];constructor
 .grind
 .rintro⟨c,d⟩;exact⟨i.toNat,List.mem_range.2 (by omega),by show((i.toNat:Nat):Int)=i;omega⟩
variable{α:Type}
theorem I0[Inhabited α](F:Int->α)(c:0<=i)(d:i<n):AA ((A3 n).map F) i=F i:=by
 unfold AA A3
 grind
theorem F2(c:0<=i):A3 (i+1).toNat=A3 i.toNat++[i]:=by
 rw [show(i+1).toNat=i.toNat+1 by omega,T3,show((i.toNat:Nat):Int)=i by omega]
def NC(t:AC)(a:Int):a5:=(A3 t.ca.length).map fun k=>xe t k a
def JP(t:AC):List a5:=(A3 t.ca.length).map (NC t)
variable{t:AC}{a:Int}
theorem mO(hf:Aw t)(h:FL t)(hv:(A8 t).2=0)(a0:0<=a)(a1:a<t.ca.length):IS t a=some ((A3 t.ca.length).filter fun i=>xe t i a,0):=by
 have d:=h.d7;unfold IS;have c:J5 t a=true:=by simp[J5,a0,a1]
 rw [W4 hf,bs,ae (by simp[hv,c])];rw[B0 (fun i=>(A3 i.toNat).filter fun i=>xe t i a) (by omega) (by rfl),bs,Int.toNat_natCast]
 grind [im,F2,A3,xe,List.length_filter_le,BN,Aq,Aj]
variable{l:Fp}
theorem nE(q:∀x∈l,0<=x/\x<n):o4 (fun(r:Int)(s2:a5)=>
  (idx l r).bind fun c=>
  (idx s2 c).bind fun _=>
  some (BF s2 c true)) 0 (l.length:Int) (List.replicate n false)=some ((A3 n).map fun k=>l.any fun x=>decide (x=k)):=by
 rw [B0 (fun j=>(A3 n).map fun k=>(l.take j.toNat).any fun x=>decide (x=k)) (by omega) (by
  refine List.ext_getElem (by simp[BN]) (fun j h w=>by simp))]
 .rw[Int.toNat_natCast,List.take_length]
 .intro j m h;have o:=q _ (AJ m h);rw[AD m h,bs,AD o.1 (by rw[c7,BN];exact o.2),bs,DF m h];congr 1;unfold BF;refine List.ext_getElem (by simp) (fun k y u=>?_);have v:k<n:=by simpa[BN]using u
  rw [List.getElem_set];have e:(A3 n)[k]'(by rw[BN];exact v)=(k:Int):=by simp[A3]
  simp only[List.getElem_map,e,List.any_append,List.any_cons,List.any_nil,Bool.or_false];by_cases d:(AA l j).toNat=k
  .rw[a6 d,decide_eq_true (show AA l j=(k:Int)by omega),Bool.or_true]
  .rw[ae d,decide_eq_false (show¬AA l j=(k:Int)by omega),Bool.or_false]
theorem lF(hf:Aw t)(h:FL t)(hv:(A8 t).2=0):GB t=some (JP t):=by
 have v:=h.d7;unfold GB;rw[B0 (fun i=>(A3 i.toNat).map (NC t)) (by omega) (by rfl),bs,Int.toNat_natCast]
 .rfl
 .intro i m q;have u:GO (t.ca.length:Int) false=some (List.replicate t.ca.length false):=by
   unfold GO;rw[a6 (by omega),Int.toNat_natCast]
  rw [u,bs,mO hf h hv m q,bs];have:=nE (n:=t.ca.length) (l:=(A3 t.ca.length).filter fun k=>xe t k i) (fun x d=>Eh.1 (List.mem_filter.1 d).1);show(o4 (fun(o:Int)(s2:a5)=>
   (idx ((A3 t.ca.length).filter fun k=>xe t k i) o).bind fun c=>
   (idx s2 c).bind fun _=>
   some (BF s2 c true)) 0 (((A3 t.ca.length).filter fun k=>xe t k i).length:Int) (List.replicate t.ca.length false)).bind _=_
  rw [this,bs,Aq (by rw[c7,BN];simp;unfold Aj;omega),bs,F2 m,List.map_append];congr 2;simp only[List.map_cons,List.map_nil];congr 1;unfold NC;refine List.map_congr_left (fun k j=>?_);have j:=Eh.1 j;rw[Bool.eq_iff_iff,List.any_eq_true];constructor
  .rintro⟨x,d,e⟩;rw[wq]at e;subst e;exact(List.mem_filter.1 d).2
  .intro r;exact⟨k,List.mem_filter.2 ⟨Eh.2 j,r⟩,by simp⟩
end Go.Sf.Sc
namespace Go.Sf.Sc
open Go Go.Sf
def GT:Nat->AL->List d3
 |0,f=>EM f.p.ci.length f|n+1,f=>(A3 f.g.ca.length).flatMap fun k=>if R0 f k=true then GT n {f with d7:=f.d7++[k]}else[]
def cX(f:AL)(i:Int):Prop:=0<=i/\i<f.p.ci.length/\0<=(AA f.p.ci i).kg/\(AA f.p.ci i).kg<f.d7.length/\0<=(AA f.p.ci i).To/\(AA f.p.ci i).To<f.d7.length/\∀k:Int,0<=k->k<f.g.ci.length->KF f i k=false
theorem VS(f:AL)(i k:Int):KF f i k=((decide (PL.at_ f.fq.ci i<0)||decide (PL.at_ f.fq.ci i=k))&&decide (AA f.g.ci k=⟨(AA f.p.ci i).j4,AA f.d7 (AA f.p.ci i).kg,AA f.d7 (AA f.p.ci i).To⟩)):=rfl
variable{α:Type}{i:Int}
theorem Vh[Inhabited α](l:List α)(x:α)(c:0<=i)(d:i<l.length):AA (l++[x]) i=AA l i:=by
 unfold AA
 grind
theorem eu:∀(n:Nat)(f:AL)(i:Int),cX f i->(f.ei.length:Int)<=i->i<f.ei.length+n->EM n f=[]
 |0,f,i,_,d,e=>by omega|n+1,f,i,hd,d,e=>by
  rw [EM];refine List.flatMap_eq_nil_iff.2 (fun k c=>?_);have c:=Eh.1 c;by_cases he:(f.ei.length:Int)=i
  .have:Rz f k=false:=by
    unfold Rz;rw[he,hd.2.2.2.2.2.2 k c.1 c.2];rfl
   grind
  .split
   .exact eu n {f with ei:=f.ei++[k]} i hd (by show((f.ei++[k]).length:Int)<=i;rw[bk];simp;omega) (by show i<((f.ei++[k]).length:Int)+n;rw[bk];simp;omega)
   .rfl
theorem Y4:∀(n:Nat)(f:AL)(i:Int),f.ei=[]->cX f i->GT n f=[]
 |0,f,i,he,hd=>by
  rw [GT];exact eu _ f i hd (by rw[he];simpa using hd.1) (by rw[he];simpa using hd.2.1)
 |n+1,f,i,he,hd=>by
  rw [GT];refine List.flatMap_eq_nil_iff.2 (fun k m=>?_);split
  .refine Y4 n {f with d7:=f.d7++[k]} i he ?_;obtain⟨c,d,e,u,h,v,w⟩:=hd;have r:((f.d7++[k]).length:Int)=f.d7.length+1:=by rw[bk];simp
   refine ⟨c,d,e,?_,h,?_,fun j o q=>?_⟩
   .grind
   .grind
   grind [VS,AA,Vh]
  .rfl
variable{f:AL}
theorem iu(hf:MD f)(h:Nq f=false):∃i,cX f i:=by
 unfold Nq at h;rw[Bool.not_eq_false',D9]at h;obtain⟨i,c,d,h⟩:=h;rw[pr,wq,Bool.not_eq_true',By]at h;have he:=hf.ends _ (AJ c d);exact⟨i,c,d,he.1,by omega,he.2.2.1,by omega,h.2⟩
theorem eZ:∀(n:Nat)(f:AL),MD f->f.ei=[]->I7 n f=GT n f
 |0,_,_,_=>rfl|n+1,f,hf,he=>by
  rw [I7,GT];refine congrArg (fun F=>(A3 f.g.ca.length).flatMap F) (funext fun k=>?_);have c:MD {f with d7:=f.d7++[k]}:=⟨hf.pn,hf.pe,hf.ends,hf.kinds,hf.small⟩;cases R0 f k
  .rfl
  .cases d:Nq {f with d7:=f.d7++[k]}
   .obtain⟨i,hd⟩:=iu c d
    grind [Y4]
   .simp;exact eZ n _ c he
end Go.Sf.Sc
namespace Go.Sf.Sc
open Go Go.Sf
variable{a b:Int}
theorem Qx{σ ρ:Type}{f:σ×Int->Option (Bx (σ×Int) ρ)}(g:Int->σ){s:σ}(c:a<=b)(d:s=g a)(h:∀i,a<=i->i<b->f (g i,i)=some (.next (g (i+1),i+1)))(e:f (g b,b)=some (.brk (g b,b))):Gf f (s,a)=some (.inl (g b,b)):=by
 subst d;have key:∀(n:Nat)(i:Int),a<=i->i+n=b->NY f (g i,i) (.inl (g b,b)):=by
  intro n
  induction n with
  |zero=>
   intro i _ hi;have:i=b:=by omega
   subst this;exact .brk e
  |succ n k=>
   intro i j m;exact .next (h i j (by omega)) (k (i+1) (by omega) (by omega))
 exact (key (b-a).toNat a (Int.le_refl _) (by omega)).eq
def Hu(s:AZ)(d7 ei:Fp):AL:=⟨s.p,s.g,JP s.t,s.fq,s.em,s.tc+1,d7,ei,s.wW⟩
def CS(s:AZ)(l:List d3):AZ:={s with wW:=(s.wW++l).take (s.tc+1).toNat}
structure Vd(s:AZ):Prop where
 m0:0<=s.tc
 m1:s.tc<=9999
 out:(s.wW.length:Int)<=s.tc+1
variable{s:AZ}
theorem Oh(h:Vd s):CS s []=s:=by
 unfold CS;rw[List.append_nil,List.take_of_length_le (by have:=h.out;have:=h.m0;omega)]
theorem WX(h:(s.wW.length:Int)=s.tc+1)(l:List d3):CS s l=s:=by
 unfold CS;rw[List.take_append_of_le_length (by omega),List.take_of_length_le (by omega)]
theorem WY(h:Vd s)(l:List d3):Vd (CS s l):=by
 refine ⟨h.m0,h.m1,?_⟩;have:=h.m0;show(((s.wW++l).take (s.tc+1).toNat).length:Int)<=s.tc+1
 grind
theorem Ur(s:AZ)(a b:List d3):CS (CS s a) b=CS s (a++b):=by
 show ({s with wW:=(((s.wW++a).take (s.tc+1).toNat)++b).take (s.tc+1).toNat}:AZ)=_;rw[YA,c8];rfl
variable{l:Fp}
theorem fv(s:AZ)(h:l.length<=1000)(n:Int):Cu s l n=some (s.em&&l.any fun x=>decide (n=x)):=by
 unfold Cu;cases s.em
 .rw[UU (fun _=>false) true (a:=0) (b:=0) (Int.le_refl _) (fun i d c=>by omega) (by rw[ae (by simp)])];rfl
 .rw[UU (fun i=>decide (AA l i=n)) true (a:=0) (b:=l.length) (by omega) (fun i d c=>by
   rw [a6 (by simp;exact c),AD d c,bs,At (by omega) (by omega),Hf]) (by rw[ae (by simp)])]
  have e:kx (fun i=>decide (AA l i=n)) 0 l.length=l.any fun x=>decide (n=x):=by
   rw [Bool.eq_iff_iff,D9,List.any_eq_true]
   grind [AJ,Be]
  rw [e,Bool.true_and];cases l.any fun x=>decide (n=x)<;>rfl
theorem Xz:∀(n:Nat)(s:AZ)(d7 l:Fp),MD (Hu s [] [])->Vd s->d7.length=s.p.ca.length->l.length+n=s.p.ci.length->∀m,n+1<=m->CL m s d7 l=some (CS s (EM n (Hu s d7 l)))
 |n,s,d7,l,hf,r,z,he,m,B=>by
  obtain ⟨m,rfl⟩:∃k,m=k+1:=⟨m-1,by omega⟩;have u:=hf.small;have R:s.p.ca.length<=1000:=u.1;have s2:s.p.ci.length<=1000:=u.2.1;have S:s.g.ca.length<=1000:=u.2.2.1;have T:s.g.ci.length<=1000:=u.2.2.2;have U:=r.m0;have V:=r.m1;have W:=r.out;rw[CL];by_cases v:(s.wW.length:Int)=s.tc+1
  .grind[WX]
  rw [ae (by simp;omega)]
  match n,he,B with
  |0,he,B=>
   rw [a6 (by simp;omega),Bs (by unfold Aj;omega),bs,Bs (by unfold Aj;omega),bs,Aq (by simp;unfold Aj;omega),bs];unfold CS;rw[List.take_of_length_le (by simp[EM];omega)];rfl
  |n+1,he,B=>
   have e:(0:Int)<=l.length:=by omega
   have q:(l.length:Int)<s.p.ci.length:=by omega
   have d:=hf.ends _ (AJ (l:=s.p.ci) e q);have H:(AA s.p.ci l.length).kg<d7.length:=by rw[z];exact d.2.1
   have I:(AA s.p.ci l.length).To<d7.length:=by rw[z];exact d.2.2.2
   have w:(l.length:Int)<s.fq.ci.length:=by
    have:s.fq.ci.length=s.p.ci.length:=hf.pe;omega
   rw [ae (by simp;omega),AD e q,bs];rw[Qx (fun i=>CS s ((A3 i.toNat).flatMap fun k=>if Rz (Hu s d7 l) k=true then EM n (Hu s d7 (l++[k]))else[])) (a:=0) (b:=(s.g.ci.length:Int)) (s:=s) (by omega) (Oh r).symm (fun i C D=>by
    have J:∀F,CS s ((A3 (i+1).toNat).flatMap F)=CS (CS s ((A3 i.toNat).flatMap F)) (F i):=by
     intro F;rw[Ur,F2 C,List.flatMap_append];simp
    rw [J];generalize (A3 i.toNat).flatMap (fun k=>if Rz (Hu s d7 l) k=true then EM n (Hu s d7 (l++[k]))else[])=L;have E:=WY r L;rw[a6 (by rw[wq];exact D)];have K:idx (CS s L).g.ci i=some (AA s.g.ci i):=AD C D;have M:idx (CS s L).fq.ci (l.length:Int)=some (AA s.fq.ci l.length):=AD e w;have N:Cu (CS s L) l i=some (s.em&&l.any fun x=>decide (i=x)):=fv (CS s L) (by omega) i;have key:((Ai [] l).bind fun h=>
      (Ai h [i]).bind fun j=>
      (CL m (CS s L) d7 j).bind fun o=>
      some (.next (o,AY (i+1)):Bx (AZ×Int) AZ))=some (.next (CS (CS s L) (EM n (Hu s d7 (l++[i]))),i+1)):=by
     have G:=Xz n (CS s L) d7 (l++[i]) ⟨hf.pn,hf.pe,hf.ends,hf.kinds,hf.small⟩ E z (by show(l++[i]).length+n=s.p.ci.length;rw[bk];simp;omega) m (by omega);have O:EM n (Hu (CS s L) d7 (l++[i]))=EM n (Hu s d7 (l++[i])):=PY n (Hu s d7 (l++[i])) _;rw[O]at G;rw[Bs (by unfold Aj;omega),bs,Aq (by simp;unfold Aj;omega),bs,G,bs,At (by omega) (by omega)]
    rw [K,bs,M,bs,N,key];simp only[bs];rw[AD d.1 H,AD d.2.2.1 I,At (n:=i+1) (by omega) (by omega)];simp only[bs];have y:Rz (Hu s d7 l) i=(((decide (AA s.fq.ci l.length<0)||decide (AA s.fq.ci l.length=i))&&decide (AA s.g.ci i=⟨(AA s.p.ci l.length).j4,AA d7 (AA s.p.ci l.length).kg,AA d7 (AA s.p.ci l.length).To⟩))&&!(s.em&&l.any fun x=>decide (i=x))):=rfl;have P:decide (AA s.g.ci i=⟨(AA s.p.ci l.length).j4,AA d7 (AA s.p.ci l.length).kg,AA d7 (AA s.p.ci l.length).To⟩)=(decide ((AA s.p.ci l.length).j4=(AA s.g.ci i).j4)&&decide ((AA s.g.ci i).kg=AA d7 (AA s.p.ci l.length).kg)&&decide ((AA s.g.ci i).To=AA d7 (AA s.p.ci l.length).To)):=by
     rw [Bool.eq_iff_iff];simp[wq];generalize AA s.g.ci i=x;obtain⟨x1,X,Y⟩:=x;simp;constructor
     .rintro⟨a,b,c⟩;exact⟨⟨a.symm,b⟩,c⟩
     .rintro⟨⟨a,b⟩,c⟩;exact⟨a.symm,b,c⟩
    have Q:(decide (AA s.fq.ci l.length<0)||decide (AA s.fq.ci l.length=i))=!(decide (0<=AA s.fq.ci l.length)&&!decide (AA s.fq.ci l.length=i)):=by
     rw [Bool.not_and,Bool.not_not];congr 1;rw[<-decide_not];exact decide_eq_decide.2 (by omega)
    rw [y,P,Q];generalize EM n (Hu s d7 (l++[i]))=A;generalize decide (0<=AA s.fq.ci l.length)=c1;generalize decide (AA s.fq.ci l.length=i)=c2;generalize decide ((AA s.p.ci l.length).j4=(AA s.g.ci i).j4)=c3;generalize decide ((AA s.g.ci i).kg=AA d7 (AA s.p.ci l.length).kg)=c4;generalize decide ((AA s.g.ci i).To=AA d7 (AA s.p.ci l.length).To)=c5;generalize (s.em&&l.any fun x=>decide (i=x))=c6;cases c1<;>cases c2<;>cases c3<;>cases c4<;>cases c5<;>cases c6<;>first|rfl|(simp[Oh E];try rfl)) (by rw[ae (by simp[CS])]),CX,Int.toNat_natCast,EM]
   rfl
end Go.Sf.Sc
namespace Go.Sf.Sc
open Go Go.Sf
def Rd(s:AZ)(l:Fp)(i k:Int):Bool:=decide (AA s.g.ci k=⟨(AA s.p.ci i).j4,AA l (AA s.p.ci i).kg,AA l (AA s.p.ci i).To⟩)
def RC(s:AZ)(l:Fp)(i:Int):Bool:=(decide ((AA s.p.ci i).kg<l.length)&&decide ((AA s.p.ci i).To<l.length))&&!(A3 s.g.ci.length).any (Rd s l i)
variable{s:AZ}{l:Fp}
theorem ph(hf:MD (Hu s [] [])):E3 s l=some (!kx (RC s l) 0 s.p.ci.length):=by
 unfold E3;rw[BJ (RC s l) false]
 .cases kx (RC s l) 0 s.p.ci.length<;>rfl
 .intro i d e _;have he:=hf.ends _ (AJ (l:=s.p.ci) d e);rw[AD d e,bs];unfold RC;by_cases j:(AA s.p.ci i).kg<l.length
  .by_cases hT:(AA s.p.ci i).To<l.length
   .rw[ae (by simp;omega),B0 (fun k=>(A3 k.toNat).any (Rd s l i)) (by omega) (by rfl),bs,Int.toNat_natCast,decide_eq_true j,decide_eq_true hT]
    .grind
    .intro k h m;rw[AD h m,bs,F2 h,List.any_append];have o:Rd s l i k=(decide ((AA s.p.ci i).j4=(AA s.g.ci k).j4)&&decide ((AA s.g.ci k).kg=AA l (AA s.p.ci i).kg)&&decide ((AA s.g.ci k).To=AA l (AA s.p.ci i).To)):=by
      unfold Rd;rw[Bool.eq_iff_iff];simp[wq];generalize AA s.g.ci k=x;obtain⟨x1,q,r⟩:=x;simp;constructor
      .rintro⟨a,b,c⟩;exact⟨⟨a.symm,b⟩,c⟩
      .rintro⟨⟨a,b⟩,c⟩;exact⟨a.symm,b,c⟩
     rw [AD he.1 j,AD he.2.2.1 hT];simp only[List.any_cons,List.any_nil,Bool.or_false,bs];rw[o];generalize (A3 k.toNat).any (Rd s l i)=c1;generalize decide ((AA s.p.ci i).j4=(AA s.g.ci k).j4)=c3;generalize decide ((AA s.g.ci k).kg=AA l (AA s.p.ci i).kg)=c4;generalize decide ((AA s.g.ci k).To=AA l (AA s.p.ci i).To)=c5;cases c1<;>cases c3<;>cases c4<;>cases c5<;>rfl
   grind
  grind
theorem pY(hf:MD (Hu s [] []))(h:kx (RC s l) 0 s.p.ci.length=true):∃i,cX (Hu s l []) i:=by
 rw [D9]at h;obtain⟨i,c,d,h⟩:=h;unfold RC at h;rw[pr,pr,wq,wq,Bool.not_eq_true',List.any_eq_false]at h;have he:=hf.ends _ (AJ (l:=s.p.ci) c d);refine⟨i,c,d,he.1,h.1.1,he.2.2.1,h.1.2,fun k j m=>?_⟩;have:=h.2 k (Eh.2 ⟨j,m⟩);have e:Rd s l i k=false:=by rw[<-Bool.not_eq_true];exact this
 rw [VS];show((decide (AA s.fq.ci i<0)||decide (AA s.fq.ci i=k))&&Rd s l i k)=false;rw[e,Bool.and_false]
end Go.Sf.Sc
namespace Go.Sf.Sc
open Go Go.Sf
theorem Yp:∀(n:Nat)(f:AL)(o:List d3),GT n (RU f o)=GT n f
 |0,f,o=>PY _ f o|n+1,f,o=>by
  rw [GT,GT];refine congrArg (fun F=>(A3 f.g.ca.length).flatMap F) (funext fun k=>?_);have:=Yp n {f with d7:=f.d7++[k]} o
  grind [R0,GT,RU]
theorem X0:∀(n:Nat)(s:AZ)(l:Fp),FL s.t->MD (Hu s [] [])->Vd s->l.length+n=s.p.ca.length->∀m,n+1<=m->CM m s l=some (CS s (GT n (Hu s l [])))
 |n,s,l,O,hf,q,J,m,y=>by
  obtain ⟨m,rfl⟩:∃k,m=k+1:=⟨m-1,by omega⟩;have K:=hf.small;have Y:s.p.ca.length<=1000:=K.1;have Z:s.g.ca.length<=1000:=K.2.2.1;have h0:=q.m0;have h1:=q.m1;have h2:=q.out;rw[CM];by_cases D:(s.wW.length:Int)=s.tc+1
  .grind[WX]
  rw [ae (by simp;omega),ph hf];cases hd:kx (RC s l) 0 s.p.ci.length
  case true=>
   grind [pY,Y4,Hu,Oh]
  simp only[bs,Bool.not_false,Bool.not_true,Bool.false_eq_true,if_false]
  match n,J,y with
  |0,J,y=>
   rw [a6 (by simp;omega),Option.bind_fun_some,GT];exact Fa (s.p.ci.length+1) fun m y=>Xz s.p.ci.length s l [] hf q (by omega) (by simp) m (by omega)
  |n+1,J,y=>
   have v:(l.length:Int)<s.p.ca.length:=by omega
   have j:(0:Int)<=l.length:=by omega
   have E:(l.length:Int)<s.fq.ca.length:=by
    have:s.fq.ca.length=s.p.ca.length:=hf.pn;omega
   have P:(JP s.t).length=s.t.ca.length:=by unfold JP;rw[c7,BN]
   have c:=hf.kinds _ (AJ (l:=s.p.ca) j v);have G:AA s.p.ca l.length<s.t.ca.length:=by rw[<-P];exact c.2.1
   have d:AA (JP s.t) (AA s.p.ca l.length)=NC s.t (AA s.p.ca l.length):=I0 (NC s.t) c.1 G;rw[ae (by simp;omega)];rw[Qx (fun i=>CS s ((A3 i.toNat).flatMap fun k=>if R0 (Hu s l []) k=true then GT n (Hu s (l++[k]) [])else[])) (a:=0) (b:=(s.g.ca.length:Int)) (s:=s) (by omega) (Oh q).symm (fun i z B=>by
    have Q:∀F,CS s ((A3 (i+1).toNat).flatMap F)=CS (CS s ((A3 i.toNat).flatMap F)) (F i):=by
     intro F;rw[Ur,F2 z,List.flatMap_append];simp
    rw [Q];generalize (A3 i.toNat).flatMap (fun k=>if R0 (Hu s l []) k=true then GT n (Hu s (l++[k]) [])else[])=L;have M:=WY q L;rw[a6 (by rw[wq];exact B)];have o:=c.2.2 _ (AJ (l:=s.g.ca) z B);have w:AA s.g.ca i<s.t.ca.length:=by
     have h:=o.2;have e:AA (Hu s [] []).is (AA s.p.ca l.length)=NC s.t (AA s.p.ca l.length):=d;rw[e]at h;unfold NC at h
     rwa [c7,BN]at h
    have H:FC (CS s L).t (AA s.g.ca i) (AA s.p.ca l.length)=some (xe s.t (AA s.g.ca i) (AA s.p.ca l.length)):=UO O o.1 w c.1;have R:idx (CS s L).g.ca i=some (AA s.g.ca i):=AD z B;have S:idx (CS s L).fq.ca (l.length:Int)=some (AA s.fq.ca l.length):=AD j E;have T:Cu (CS s L) l i=some (s.em&&l.any fun x=>decide (i=x)):=fv (CS s L) (by omega) i;have U:idx (CS s L).p.ca (l.length:Int)=some (AA s.p.ca l.length):=AD j v;have key:((Ai [] l).bind fun C=>
      (Ai C [i]).bind fun r=>
      (CM m (CS s L) r).bind fun u=>
      some (.next (u,AY (i+1)):Bx (AZ×Int) AZ))=some (.next (CS (CS s L) (GT n (Hu s (l++[i]) [])),i+1)):=by
     have N:=X0 n (CS s L) (l++[i]) O ⟨hf.pn,hf.pe,hf.ends,hf.kinds,hf.small⟩ M (by show(l++[i]).length+n=s.p.ca.length;rw[bk];simp;omega) m (by omega);have V:GT n (Hu (CS s L) (l++[i]) [])=GT n (Hu s (l++[i]) []):=Yp n (Hu s (l++[i]) []) _;rw[V]at N;rw[Bs (by unfold Aj;omega),bs,Aq (by simp;unfold Aj;omega),bs,N,bs,At (by omega) (by omega)]
    rw [S,bs,T,R,U,key];simp only[bs];rw[H,At (n:=i+1) (by omega) (by omega)];simp only[bs];have I:R0 (Hu s l []) i=((decide (AA s.fq.ca l.length<0)||decide (AA s.fq.ca l.length=i))&&AA (AA (JP s.t) (AA s.p.ca l.length)) (AA s.g.ca i)&&!(s.em&&l.any fun x=>decide (i=x))):=rfl;have W:AA (AA (JP s.t) (AA s.p.ca l.length)) (AA s.g.ca i)=xe s.t (AA s.g.ca i) (AA s.p.ca l.length):=by
     rw [d];exact I0 (fun k=>xe s.t k (AA s.p.ca l.length)) o.1 w
    have X:(decide (AA s.fq.ca l.length<0)||decide (AA s.fq.ca l.length=i))=!(decide (0<=AA s.fq.ca l.length)&&!decide (AA s.fq.ca l.length=i)):=by
     rw [Bool.not_and,Bool.not_not];congr 1;rw[<-decide_not];exact decide_eq_decide.2 (by omega)
    rw [I,W,X];generalize GT n (Hu s (l++[i]) [])=A;generalize decide (0<=AA s.fq.ca l.length)=c1;generalize decide (AA s.fq.ca l.length=i)=c2;generalize xe s.t (AA s.g.ca i) (AA s.p.ca l.length)=c3;generalize (s.em&&l.any fun x=>decide (i=x))=c6;cases c1<;>cases c2<;>cases c3<;>cases c6<;>first|rfl|(simp[Oh M];try rfl)) (by rw[ae (by simp[CS])]),CX,Int.toNat_natCast,GT]
   rfl
end Go.Sf.Sc
namespace Go.Sf.Sc
open Go Go.Sf
def FF(t:AC)(p g:c9)(pa:d3)(inj:Bool):AL:=⟨p,g,JP t,pa,inj,5001,[],[],[]⟩
def OT(t:AC)(p g:c9)(pa:d3)(inj:Bool):List d3:=(GT p.ca.length (FF t p g pa inj)).take 5001
variable{t:AC}{p g:c9}{pa:d3}{inj:Bool}
theorem mS(d:Aw t)(hv:(A8 t).2=0)(c:MD (FF t p g pa inj)):HQ t p g pa inj 5001=some (OT t p g pa inj):=by
 unfold HQ;rw[lF d (Cs hv) hv,bs];have h:=pE (f:=FF t p g pa inj) c ⟨by show(0:Int)<=5001;omega,by show(5001:Int)<=10000;omega,by show((0:Nat):Int)<=5001;omega⟩ rfl rfl;rw[eZ _ _ c rfl]at h;have e:AL.mk p g (JP t) pa inj 5001 [] [] []=FF t p g pa inj:=rfl;rw[e,h];rfl
theorem tN(hv:(A8 t).2=0)(c:MD (FF t p g pa inj)):Od t p g pa inj 5000=some (OT t p g pa inj):=by
 unfold Od;have h:Ie ⟨t,p,g,pa,inj,5000,[]⟩ []=some (CS ⟨t,p,g,pa,inj,5000,[]⟩ (GT p.ca.length (FF t p g pa inj))):=
  Fa (p.ca.length+1) fun m d=>X0 p.ca.length ⟨t,p,g,pa,inj,5000,[]⟩ [] (Cs hv) c ⟨by show(0:Int)<=5000;omega,by show(5000:Int)<=9999;omega,by show((0:Nat):Int)<=5000+1;omega⟩ (by show 0+p.ca.length=p.ca.length;omega) m d
 rw [h];rfl
end Go.Sf.Sc
namespace Go.Sf.Sc
open Go Go.Sf
def Ux(n k:Int):Bool:=decide (k< -1)||decide (n<=k)
def QB(l:Fp)(n:Int):Int:=if l.any (Ux n)=true then 6 else 0
theorem fV(l:Fp)(n:Int):Gy l n=some (QB l n):=by grind[Gy,QB,Lz,Ux,SM]
variable{l:Fp}
theorem Zx{c:Int}(n:Int)(h:(l.length:Int)=c):It l c n=some (QB l n):=by
 unfold It QB;rw[ae (by simp[h]),BJ (fun i=>Ux n (AA l i)) 6]
 .have e:kx (fun i=>Ux n (AA l i)) 0 l.length=l.any (Ux n):=by
   rw [Bool.eq_iff_iff,D9,List.any_eq_true]
   grind [AJ,Be]
  rw [e];cases l.any (Ux n)<;>rfl
 grind [AD,Ux,AA]
end Go.Sf.Sc
namespace Go.Sf.Sc
open Go Go.Sf
theorem Zq(t:AC)(g:c9):FR t g=some (Cw t g):=by grind[FR,Cw,KD,SM,KE,bG]
def F9(t:AC)(p g:c9):Int:=if(A8 t).2≠0 then(A8 t).2 else if B4 p≠0 then B4 p else if B4 g≠0 then B4 g else if(Cw t p&&Cw t g)=true then 0 else 13
variable{t:AC}
theorem W5(hf:Aw t)(p g:c9):EW t p g=some (F9 t p g):=by
 unfold EW F9;rw[Np hf,bs];refine DQ fun _=>?_;have k:jj (ρ:=Int) (fun(j:Int)(_:Unit)=>
   (idx [p,g] j).bind fun h=>
   (DK h).bind fun e=>
   if (!decide (e=0))=true then
   some (.ret e)
   else
   some (.next ())) 0 ([p,g].length:Int) ()=some (if B4 p≠0 then .inr (B4 p)else if B4 g≠0 then .inr (B4 g)else .inl ()):=by
  show wo _ 2 0 ()=_;rw[E9,show idx [p,g] 0=some p from rfl,bs,MO,bs];by_cases c:B4 p=0
  .rw[ae (by simp[c]),ae (by simp[c])];show wo _ 1 (0+1) ()=_;rw[E9,show idx [p,g] (0+1)=some g from rfl,bs,MO,bs];by_cases d:B4 g=0
   .rw[ae (by simp[d]),ae (by simp[d])];rfl
   .rw[a6 (by simp[d]),a6 d]
  .rw[a6 (by simp[c]),a6 c]
 rw [k];by_cases c:B4 p=0
 .by_cases d:B4 g=0
  .simp[c,d,CX];rw[Zq,Zq,bs];cases Cw t p<;>cases Cw t g<;>rfl
  .simp[c,d,not_false_eq_true,QM]
 .simp[c,not_false_eq_true,QM]
theorem Zz(hf:Aw t)(p g:c9):Jq t p g=some (F9 t p g):=by
 unfold Jq F9;rw[PO hf,bs];refine DQ fun _=>?_;rw[MP,bs];refine DQ fun c=>?_;rw[MP,bs];refine DQ fun d=>?_
 grind [W8,DX,Cw]
end Go.Sf.Sc
namespace Go.Sf.Sc
open Go Go.Sf
variable{t:AC}{p g:c9}{pa:d3}{inj:Bool}
theorem ZC(h:F9 t p g=0)(q:pa.ca.length=p.ca.length)(r:pa.ci.length=p.ci.length):(A8 t).2=0/\MD (FF t p g pa inj):=by
 unfold F9 at h;by_cases hv:(A8 t).2=0
 .rw[ae (by simp[hv])]at h;by_cases m:B4 p=0
  .rw[ae (by simp[m])]at h;by_cases o:B4 g=0
   .rw[ae (by simp[o])]at h;by_cases c:(Cw t p&&Cw t g)=true
    .rw[pr]at c;have op:=DX m;have j:=DX o;have tp:=Hb op c.1;have v:=Hb j c.2;have w:(JP t).length=t.ca.length:=by unfold JP;rw[c7,BN]
     refine ⟨hv,q,r,fun e he=>?_,fun n u=>?_,Nat.le_trans op.d7 (by omega),Nat.le_trans op.ei (by omega),Nat.le_trans j.d7 (by omega),Nat.le_trans j.ei (by omega)⟩
     .have:=op.fit e he;exact⟨this.2.1.1,this.2.1.2,this.2.2.1,this.2.2.2⟩
     .have:=tp.1 n u;refine⟨this.1,by show n<((JP t).length:Int);rw[w];exact this.2,fun k d=>?_⟩;have d:=v.1 k d;refine⟨d.1,?_⟩;show k<((AA (JP t) n).length:Int)
      grind [JP,I0,NC,c7,BN]
    grind
   grind
  grind
 grind
def RE(t:AC)(p g:c9)(pa:d3)(inj:Bool):List d3×Int:=
 if F9 t p g≠0 then([],F9 t p g)else if¬(pa.ca.length=p.ca.length/\pa.ci.length=p.ci.length)then([],20)else
 if QB pa.ca g.ca.length≠0 then([],QB pa.ca g.ca.length)else if QB pa.ci g.ci.length≠0 then([],QB pa.ci g.ci.length)else
 if 5000<(OT t p g pa inj).length then([],3)else(OT t p g pa inj,0)
theorem il(hf:Aw t)(p g:c9)(pa:d3)(inj:Bool):GY t p g pa inj=some (RE t p g pa inj):=by
 unfold GY RE;rw[W5 hf,bs];refine D1 fun d=>?_;refine OP (by simp[Bool.not_eq_true',decide_eq_false_iff_not];omega) fun c=>?_;have c:=Classical.not_not.1 c;rw[fV,bs];refine D1 fun e=>?_;rw[fV,bs];refine D1 fun h=>?_
 grind [ZC,JL,mS,OT]
theorem iw(hf:Aw t)(p g:c9)(pa:d3)(inj:Bool):KW t p g pa inj=some (RE t p g pa inj):=by
 unfold KW RE;rw[Zz hf,bs];refine D1 fun d=>?_;refine OP (by simp[Bool.not_eq_true',decide_eq_false_iff_not];omega) fun c=>?_;have c:=Classical.not_not.1 c;rw[Zx _ (by omega),bs];refine D1 fun e=>?_;rw[Zx _ (by omega),bs];refine D1 fun h=>?_
 grind [ZC,tN,OT]
end Go.Sf.Sc
