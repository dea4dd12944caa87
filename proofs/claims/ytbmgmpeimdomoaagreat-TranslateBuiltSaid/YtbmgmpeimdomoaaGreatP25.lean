/- Plain lemmas: what the functions of the program and of the reference compute. -/
import Derived.Test.YtbmgmpeimdomoaaGreatP1
import Derived.Test.YtbmgmpeimdomoaaGreatEval
set_option linter.all false
set_option maxRecDepth 100000
open Option renaming some->Y
open Bool renaming true->X,false->T
open Bool renaming not_eq_false'->w!,eq_iff_iff->w?,false_and->x_,false_eq_true->x!,and_self->x?,not_true->y_,and_false->y!,or_false->y?,not_eq_true'->z_
open Int renaming le_refl->z!,toNat_natCast->z?
open List renaming take_of_length_le->A_,append_nil->A',take_append_of_le_length->A!,flatMap_append->A?,take_left->B_,replicate->B',ext_getElem->B!,any_append->B?,any_cons->C_,any_nil->C',mem_filter->C!,any_eq_true->C?,flatMap_eq_nil_iff->D_
namespace Go.Sf.Sc
open Go Go.Sf
variable{t:AC}
theorem sG(hf:Ap t)(p:cE){c:bq}(e:Fv c):Dc t p c=Y (NM t p c):=by
 by_cases d:(Az t).2=0
 .exact lQ hf d p e
 .unfold Dc NM;rw[YC hf,bs];refine Dp λh=>?_;exfalso;unfold Hk at h;rw[Ne d]at h;exact d h
end Go.Sf.Sc
namespace Go.Sf.Sc
open Go Go.Sf
variable{α:Type}
theorem gV[Inhabited α](b:α->α->Bool){l m:List α}(e:∀x∈l,∀y∈m,(b x y=X↔x=y))(j:l.length=m.length):fu (λi=>!b (AA l i) (AA m i)) 0 l.length=T↔l=m:=by
 rw [Bg];constructor
 .intro h;refine bQ j (λi c d=>?_);have:=h i c d;rw[w!]at this;exact(e _ (AG c d) _ (AG c U)).1 this
 .rintro rfl i c d;rw[w!];exact(e _ (AG c d) _ (AG c d)).2 rfl
theorem fQ[Inhabited α][DecidableEq α]{l m:List α}(q:l.length=m.length){k:Unit->I1}{e:Bool->I1}:d6 (eE (ρ:=Bool) (λ(j:Int)(_:Unit)=>
 (idx l j).bind λc=>
 (idx m j).bind λd=>
 if (!decide (c=d))=X then
 Y (.ret T)
 else
 Y (.next ())) 0 (l.length:Int) ()) k e=if l=m then k ()else e T:=by
 rw [BN (λi=>!decide (AA l i=AA m i)) T]
 .have:=gV (λx y:α=>decide (x=y)) (l:=l) (m:=m) (λ_ _ _ _=>decide_eq_true_iff) q;by_cases h:l=m
  .rw[this.2 h,Ne h];rfl
  .rw[QQ h];cases u:fu (λi=>!decide (AA l i=AA m i)) 0 l.length
   .exact absurd (this.1 u) h
   .rfl
 .intro i o r _;rw[AD o r,bs,AD o U,bs,Ib]
theorem Yh[Inhabited α][DecidableEq α](l m:List α):(if(!decide ((l.length:Int)=(m.length:Int)))=X then
 Y T
 else
 d6 (eE (ρ:=Bool) (λ(k:Int)(_:Unit)=>
 (idx l k).bind λc=>
 (idx m k).bind λd=>
 if (!decide (c=d))=X then
 Y (.ret T)
 else
 Y (.next ())) 0 (l.length:Int) ()) (λ_=>
 Y X) (λo=>Y o))=Y (decide (l=m)):=by
 by_cases j:l.length=m.length
 .rw[QQ j_,fQ j];by_cases h:l=m
  .rw[Ne h,decide_eq_true h]
  .rw[QQ h,decide_eq_false h]
 .rw[Ne an,decide_eq_false (λe=>j (by rw[e]))]
theorem qj(l m:Fp):slices_Equal_int l m=Y (decide (l=m)):=Yh l m
theorem sU(l m:Fp):MS l m=Y (decide (l=m)):=Yh l m
theorem sV(l m:Fp):MT l m=Y (decide (l=m)):=Yh l m
theorem sj(a b:bi):Oc a b=Y (decide (a=b)):=by
 unfold Oc;rw[sV,bs];obtain⟨a1,a2⟩:=a;obtain⟨k,d⟩:=b;by_cases h:a1=k
 .by_cases c:a2.length=d.length
  .rw[QQ (by simp[h,c]),fQ c];by_cases j:a2=d<;>simp[h,j]
  .rw[Ne an];rw[decide_eq_false (λe=>c (by cases e;rfl))]
 .simp[h]
end Go.Sf.Sc
namespace Go.Sf.Sc
open Go Go.Sf
mutual
def F2:bq->Nat
 |⟨_,kids,_,_⟩=>1+WZ kids
def WZ:List bq->Nat
 |[]=>0|k::l=>F2 k+WZ l
end
mutual
def dep:bq->Nat
 |⟨k,kids,_,_⟩=>(if k=5 then 1 else 0)+uZ kids
def uZ:List bq->Nat
 |[]=>0|k::l=>max (dep k) (uZ l)
end
theorem bZ(c:bq):F2 c=1+WZ c.eo:=by cases c;rfl
theorem bY:∀{l:List bq}{k:bq},k∈l->F2 k<=WZ l
 |x::l,k,h=>by
  rw [WZ];rcases List.mem_cons.1 h with rfl|h
  .omega
  .have:=bY h;omega
end Go.Sf.Sc
namespace Go.Sf.Sc
open Go Go.Sf
class PL(α:Type)where
 at_:α->Int->Int
 ok:α->Nat->Prop
instance:PL Fp:=⟨AA,λl n=>l.length=n⟩
instance:PL (Option Fp):=⟨λo i=>match o with|none=>-1|some l=>AA l i,λo n=>match o with|none=>True|some l=>l.length=n⟩
structure Mm(f:AL):Prop where
 pn:PL.ok f.ed.az f.p.az.length
 pe:PL.ok f.ed.be f.p.be.length
 ends:∀e∈f.p.be,0≤e.fb/\e.fb<f.p.az.length/\0≤e.To/\e.To<f.p.az.length
 kinds:∀n∈f.p.az,0<=n/\n<f.is.length/\∀t∈f.g.az,0<=t/\t<(AA f.is n).length
 small:f.p.az.length<=1000/\f.p.be.length<=1000/\f.g.az.length<=1000/\f.g.be.length<=1000
def Jk(f:AL)(i k:Int):Bool:=
 (decide (PL.at_ f.ed.be i<0)||decide (PL.at_ f.ed.be i=k))&&decide (AA f.g.be k=⟨(AA f.p.be i).em,AA f.ci (AA f.p.be i).fb,AA f.ci (AA f.p.be i).To⟩)
variable{α:Type}
theorem lH{l:List α}(h:l≠[]):Wr l=Y ():=by grind[Wr]
variable{l:Fp}{i:Int}
theorem Xn(d:0<=i)(c:i<l.length):((Wr l).bind λ_=>(idx l i).bind λx=>Y x)=Y (AA l i):=by
 rw [lH (by intro h;subst h;simp at c;omega),bs,AD d c,bs]
variable{n:Nat}
theorem cG:∀{l},PL.ok l n->0<=i->i<n->L6 l i=Y (PL.at_ l i):=by
 intro l h c d
 first
  |(cases l with
    |none=>rfl|some l=>exact Xn c (by have:l.length=n:=h;omega))
  |exact Xn c (by have:l.length=n:=h;omega)
variable{f:AL}
theorem li(hf:Mm f){i k:Int}(c:0<=i)(d:i<f.p.be.length)(e:0<=k)(h:k<f.g.be.length)(j:(AA f.p.be i).fb<f.ci.length)(hT:(AA f.p.be i).To<f.ci.length):D7 f i k=Y (Jk f i k):=by
 have he:=hf.ends _ (AG c d);unfold D7 Jk;rw[AD c d,bs,cG hf.pe c d,bs,AD e h,bs,AD he.1 j,bs,AD he.2.2.1 hT,bs]
 grind
def PP(f:AL):Bool:=!fu (λi=>decide (max (AA f.p.be i).fb (AA f.p.be i).To=(f.ci.length:Int)-1)&&!fu (λk=>Jk f i k) 0 f.g.be.length) 0 f.p.be.length
variable{b:Int}
theorem rN{f:Int->Bool->Option (B2 Bool Bool)}(p:Int->Bool)(h:∀i,0<=i->i<b->f i T=Y (if p i=X then .brk X else .next T)):eE f 0 b T=Y (.inl (fu p 0 b)):=by
 have key:∀(m:Nat)(i:Int),0<=i->i+m=b->tc f m i T=Y (.inl (fu p i b)):=by
  intro m
  induction m with
  |zero=>
   intro i c hi;have:fu p i b=T:=by rw[Bg];intro j k o;omega
   rw [this];rfl
  |succ m r=>
   intro i c hi;rw[FH,h i c U];by_cases d:p i=X
   .have:fu p i b=X:=by rw[Dn];exact⟨i,z! _,U,d⟩
    rw [Ne d,this]
   .have e:fu p i b=fu p (i+1) b:=by
     rw [w?,Dn,Dn]
     grind
    grind
 unfold eE;by_cases q:0<=b
 .grind
 .have:fu p 0 b=T:=by rw[Bg];intro j k o;omega
  rw [this,show(b-0).toNat=0 by omega];rfl
theorem jN(hf:Mm f)(o:0<f.ci.length)(h:f.ci.length<=1000):CR f=Y (PP f):=by
 unfold CR PP;rw[BN (λi=>decide (max (AA f.p.be i).fb (AA f.p.be i).To=(f.ci.length:Int)-1)&&!fu (λk=>Jk f i k) 0 f.g.be.length) T]
 .generalize fu (λi=>decide (max (AA f.p.be i).fb (AA f.p.be i).To=(f.ci.length:Int)-1)&&!fu (λk=>Jk f i k) 0 f.g.be.length) 0 f.p.be.length=b;cases b<;>rfl
 .intro i c d _;rw[AD c d,bs,Ao (n:=(f.ci.length:Int)-1) U U];by_cases e:max (AA f.p.be i).fb (AA f.p.be i).To=(f.ci.length:Int)-1
  .rw[QQ d_,rN (λk=>Jk f i k) (λk j m=>by
    rw [li hf c d j m U U,bs,Ib])]
   generalize fu (λk=>Jk f i k) 0 f.g.be.length=b;rw[decide_eq_true e];cases b<;>rfl
  grind
def AZ(n:Nat):Fp:=(List.range n).map Int.ofNat
theorem SB(n:Nat):AZ (n+1)=AZ n++[(n:Int)]:=by grind[AZ,List.range_succ]
def QA(f:AL)(k:Int):Bool:=(decide (PL.at_ f.ed.az f.ci.length<0)||decide (PL.at_ f.ed.az f.ci.length=k))&&AA (AA f.is (AA f.p.az f.ci.length)) (AA f.g.az k)&&!(f.eb&&f.ci.any λx=>decide (k=x))
def P8(f:AL)(k:Int):Bool:=Jk f f.c8.length k&&!(f.eb&&f.c8.any λx=>decide (k=x))
def Dh:Nat->AL->List bk
 |0,f=>[⟨f.ci,f.c8⟩]|n+1,f=>(AZ f.g.be.length).flatMap λk=>if P8 f k=X then Dh n {f with c8:=f.c8++[k]}else[]
def KE:Nat->AL->List bk
 |0,f=>Dh f.p.be.length f|n+1,f=>(AZ f.g.az.length).flatMap λk=>if(QA f k&&PP {f with ci:=f.ci++[k]})=X then KE n {f with ci:=f.ci++[k]}else[]
theorem aC(a b:List α)(m:Nat):((a.take m)++b).take m=(a++b).take m:=by
 by_cases h:a.length<=m
 .rw[A_ h]
 grind
end Go.Sf.Sc
namespace Go.Sf.Sc
open Go Go.Sf
def TY(f:AL)(o:List bk):AL:={f with out:=o}
variable{f:AL}
theorem Mm.out(h:Mm f)(o:List bk):Mm (TY f o):=⟨h.pn,h.pe,h.ends,h.kinds,h.small⟩
theorem RB:∀(n:Nat)(f:AL)(o:List bk),Dh n (TY f o)=Dh n f
 |0,_,_=>rfl|n+1,f,o=>by
  rw [Dh,Dh];refine congrArg (λF=>(AZ f.g.be.length).flatMap F) (funext λk=>?_);have:=RB n {f with c8:=f.c8++[k]} o;show(if P8 f k=X then Dh n (TY {f with c8:=f.c8++[k]} o)else[])=_;rw[this]
theorem bF:∀(n:Nat)(f:AL)(o:List bk),KE n (TY f o)=KE n f
 |0,f,o=>RB _ f o|n+1,f,o=>by
  rw [KE,KE];refine congrArg (λF=>(AZ f.g.az.length).flatMap F) (funext λk=>?_);have:=bF n {f with ci:=f.ci++[k]} o;show(if(QA f k&&PP {f with ci:=f.ci++[k]})=X then KE n (TY {f with ci:=f.ci++[k]} o)else[])=_;rw[this]
def BH(f:AL)(l:List bk):AL:=TY f ((f.out++l).take f.mo.toNat)
structure YW(f:AL):Prop where
 m0:0<=f.mo
 m1:f.mo<=10000
 out:(f.out.length:Int)<=f.mo
theorem La(h:YW f):BH f []=f:=by
 unfold BH;rw[A',A_ (by have:=h.out;have:=h.m0;omega)];rfl
theorem ZY(h:(f.out.length:Int)=f.mo)(l:List bk):BH f l=f:=by
 unfold BH;rw[A! U,A_ U];rfl
theorem Za(h:YW f)(l:List bk):YW (BH f l):=by
 refine ⟨h.m0,h.m1,?_⟩;have:=h.m0;show(((f.out++l).take f.mo.toNat).length:Int)<=f.mo
 grind
theorem ZZ(f:AL)(a b:List bk):BH (BH f a) b=BH f (a++b):=by
 show TY f ((((f.out++a).take f.mo.toNat)++b).take f.mo.toNat)=_;rw[aC,ae];rfl
theorem Xe:∀(n:Nat)(f:AL),Mm f->YW f->f.ci.length=f.p.az.length->f.c8.length+n=f.p.be.length->∀m,n+1<=m->A4 m f=Y (BH f (Dh n f))
 |n,f,hf,r,K,he,m,w=>by
  obtain ⟨m,rfl⟩:∃k,m=k+1:=⟨m-1,U⟩;have M:=hf.small;have N:=r.m0;have O:=r.m1;have P:=r.out;rw[A4];by_cases d:(f.out.length:Int)=f.mo
  .grind[ZY]
  rw [QQ b?,QQ an]
  match n,he,w with
  |0,he,w=>
   rw [QQ an];unfold slices_Clone_int;rw[BM a?,bs,BM a?,bs,AV a!,bs,bs];unfold BH;rw[A_ (by simp[Dh];omega)];rfl
  |n+1,he,w=>
   rw [Ne an];have F:∀k,P8 f k=X->Mm {f with c8:=f.c8++[k]}:=λk _=>⟨hf.pn,hf.pe,hf.ends,hf.kinds,hf.small⟩;rw[BZ (a:=0) (s:=f) (λi=>BH f ((AZ i.toNat).flatMap λk=>if P8 f k=X then Dh n {f with c8:=f.c8++[k]}else[])) U (La r)]
   .grind[z?,Dh]
   .intro i B C;have D:AZ (i+1).toNat=AZ i.toNat++[i]:=by
     rw [show(i+1).toNat=i.toNat+1 by omega,SB];rw[show((i.toNat:Nat):Int)=i by omega]
    have E:∀l,BH f ((AZ (i+1).toNat).flatMap l)=BH (BH f ((AZ i.toNat).flatMap l)) (l i):=by
     intro l;rw[ZZ,D,A?];simp
    rw [E];generalize (AZ i.toNat).flatMap (λk=>if P8 f k=X then Dh n {f with c8:=f.c8++[k]}else[])=L;have j:=Za r L;have u:Mm (BH f L):=hf.out _;have y:=hf.ends _ (AG (l:=f.p.be) (i:=(f.c8.length:Int)) U U);rw[li u (i:=(f.c8.length:Int)) (k:=i) U (by show _<(f.p.be.length:Int);omega) B (by exact C) (by show(AA f.p.be f.c8.length).fb<(f.ci.length:Int);omega) (by show(AA f.p.be f.c8.length).To<(f.ci.length:Int);omega),bs];have G:slices_Contains_int (BH f L).c8 i=Y (f.c8.any λx=>decide (i=x)):=LY f.c8 i;rw[G];have o:Jk (BH f L) f.c8.length i=Jk f f.c8.length i:=rfl;have key:((Ak (BH f L).c8 [i]).bind λe=>
      (A4 m (AL.mk (BH f L).p (BH f L).g (BH f L).is (BH f L).ed (BH f L).eb (BH f L).mo (BH f L).ci e (BH f L).out)).bind λc=>
      (slc c.c8 0 (f.c8.length:Int)).bind λh=>
      Y (AL.mk c.p c.g c.is c.ed c.eb c.mo c.ci h c.out))=Y (BH (BH f L) (Dh n {f with c8:=f.c8++[i]})):=by
     have H:Ak (BH f L).c8 [i]=Y (f.c8++[i]):=AV (by show f.c8.length+1<=AX;unfold AX;omega);have z:=Xe n {BH f L with c8:=f.c8++[i]} ⟨hf.pn,hf.pe,hf.ends,hf.kinds,hf.small⟩ ⟨j.m0,j.m1,j.out⟩ K (by show(f.c8++[i]).length+n=f.p.be.length;simp;omega) m U;have I:Dh n {BH f L with c8:=f.c8++[i]}=Dh n {f with c8:=f.c8++[i]}:=RB n {f with c8:=f.c8++[i]} _;rw[I]at z;rw[H,bs];show(A4 m {BH f L with c8:=f.c8++[i]}).bind _=_;rw[z,bs];have J:slc (BH {BH f L with c8:=f.c8++[i]} (Dh n {f with c8:=f.c8++[i]})).c8 0 (f.c8.length:Int)=Y f.c8:=by
      show slc (f.c8++[i]) 0 (f.c8.length:Int)=_;rw[L7 U s?,z?,B_]
     rw [J];rfl
    rw [key,o];have v:P8 f i=(Jk f f.c8.length i&&!(f.eb&&f.c8.any λx=>decide (i=x))):=rfl;have q:(BH f L).eb=f.eb:=rfl;rw[v,q];generalize Q:Dh n {f with c8:=f.c8++[i]}=A;cases Jk f f.c8.length i
    .simp only[x_,x!,if_false,La j];rfl
    .cases f.eb
     .rfl
     .cases f.c8.any λx=>decide (i=x)
      .rfl
      .simp only[x?,y_,y!,x!,if_false,La j];rfl
end Go.Sf.Sc
namespace Go.Sf.Sc
open Go Go.Sf
theorem Xf:∀(n:Nat)(f:AL),Mm f->YW f->f.c8=[]->f.ci.length+n=f.p.az.length->∀m,n+f.p.be.length+1<=m->A4 m f=Y (BH f (KE n f))
 |0,f,hf,q,he,P,m,Q=>by
  grind [KE,Xe]
 |n+1,f,hf,q,he,P,m,Q=>by
  obtain ⟨m,rfl⟩:∃k,m=k+1:=⟨m-1,U⟩;have R:=hf.small;have S:=q.m0;have θ:=q.m1;have ε:=q.out;rw[A4];by_cases h:(f.out.length:Int)=f.mo
  .grind[ZY]
  rw [QQ c_,Ne an];rw[BZ (a:=0) (s:=f) (λi=>BH f ((AZ i.toNat).flatMap λk=>if(QA f k&&PP {f with ci:=f.ci++[k]})=X then KE n {f with ci:=f.ci++[k]}else[])) U (La q)]
  .grind[z?,KE]
  .intro i z B;have D:AZ (i+1).toNat=AZ i.toNat++[i]:=by
    rw [show(i+1).toNat=i.toNat+1 by omega,SB];rw[show((i.toNat:Nat):Int)=i by omega]
   have E:∀l,BH f ((AZ (i+1).toNat).flatMap l)=BH (BH f ((AZ i.toNat).flatMap l)) (l i):=by
    intro l;rw[ZZ,D,A?];simp
   rw [E];generalize (AZ i.toNat).flatMap (λk=>if(QA f k&&PP {f with ci:=f.ci++[k]})=X then KE n {f with ci:=f.ci++[k]}else[])=L;have j:=Za q L;have u:(f.ci.length:Int)<(f.p.az.length:Int):=U
   have o:=hf.kinds _ (AG (l:=f.p.az) (i:=(f.ci.length:Int)) U u);have v:=o.2.2 _ (AG z B);have key:((Ak (BH f L).ci [i]).bind λd=>
     (CR (AL.mk (BH f L).p (BH f L).g (BH f L).is (BH f L).ed (BH f L).eb (BH f L).mo d (BH f L).c8 (BH f L).out)).bind λr=>
     if r=X then
     (A4 m (AL.mk (BH f L).p (BH f L).g (BH f L).is (BH f L).ed (BH f L).eb (BH f L).mo d (BH f L).c8 (BH f L).out)).bind λc=>
     (slc c.ci 0 (f.ci.length:Int)).bind λe=>
     Y (AL.mk c.p c.g c.is c.ed c.eb c.mo e c.c8 c.out)
     else
     (slc d 0 (f.ci.length:Int)).bind λe=>
     Y (AL.mk (BH f L).p (BH f L).g (BH f L).is (BH f L).ed (BH f L).eb (BH f L).mo e (BH f L).c8 (BH f L).out))=Y (BH (BH f L) (if PP {f with ci:=f.ci++[i]}=X then KE n {f with ci:=f.ci++[i]}else[])):=by
    have F:Ak (BH f L).ci [i]=Y (f.ci++[i]):=AV (by show f.ci.length+1<=AX;unfold AX;omega);have e0:slc (f.ci++[i]) 0 (f.ci.length:Int)=Y f.ci:=by
     rw [L7 U s?,z?,B_]
    have G:CR {BH f L with ci:=f.ci++[i]}=Y (PP {f with ci:=f.ci++[i]}):=jN (f:={BH f L with ci:=f.ci++[i]}) ⟨hf.pn,hf.pe,hf.ends,hf.kinds,hf.small⟩ (by show 0<(f.ci++[i]).length;simp) (by show(f.ci++[i]).length<=1000;rw[aE];simp;omega);have C:=Xf n {BH f L with ci:=f.ci++[i]} ⟨hf.pn,hf.pe,hf.ends,hf.kinds,hf.small⟩ ⟨j.m0,j.m1,j.out⟩ he (by show(f.ci++[i]).length+n=f.p.az.length;rw[aE];simp;omega) m (by show n+f.p.be.length+1<=m;omega);have H:KE n {BH f L with ci:=f.ci++[i]}=KE n {f with ci:=f.ci++[i]}:=bF n {f with ci:=f.ci++[i]} _;rw[H]at C;rw[F,bs];show(CR {BH f L with ci:=f.ci++[i]}).bind _=_;rw[G,bs];cases PP {f with ci:=f.ci++[i]}
    .rw[QQ a_,QQ a_,e0,La j];rfl
    .rw[Ne rfl,Ne rfl];show(A4 m {BH f L with ci:=f.ci++[i]}).bind _=_;rw[C,bs];have I:slc (BH {BH f L with ci:=f.ci++[i]} (KE n {f with ci:=f.ci++[i]})).ci 0 (f.ci.length:Int)=Y f.ci:=e0;rw[I];rfl
   have J:L6 (BH f L).ed.az (f.ci.length:Int)=Y (PL.at_ f.ed.az f.ci.length):=cG (n:=f.p.az.length) hf.pn U U;have K:idx (BH f L).p.az (f.ci.length:Int)=Y (AA f.p.az f.ci.length):=AD U u;have hi:idx (BH f L).is (AA f.p.az f.ci.length)=Y (AA f.is (AA f.p.az f.ci.length)):=AD o.1 o.2.1;have M:idx (AA f.is (AA f.p.az f.ci.length)) (AA f.g.az i)=Y (AA (AA f.is (AA f.p.az f.ci.length)) (AA f.g.az i)):=AD v.1 v.2;have N:slices_Contains_int (BH f L).ci i=Y (f.ci.any λx=>decide (i=x)):=LY f.ci i;have w:(BH f L).eb=f.eb:=rfl;have y:QA f i=((decide (PL.at_ f.ed.az f.ci.length<0)||decide (PL.at_ f.ed.az f.ci.length=i))&&AA (AA f.is (AA f.p.az f.ci.length)) (AA f.g.az i)&&!(f.eb&&f.ci.any λx=>decide (i=x))):=rfl;rw[AD z B,bs,J,bs,K,bs,hi,bs,M,bs,N,key,w,y];generalize AA (AA f.is (AA f.p.az f.ci.length)) (AA f.g.az i)=c2;have O:(decide (0<=PL.at_ f.ed.az f.ci.length)&&!decide (PL.at_ f.ed.az f.ci.length=i))=!(decide (PL.at_ f.ed.az f.ci.length<0)||decide (PL.at_ f.ed.az f.ci.length=i)):=by
    rw [Bool.not_or];congr 1;rw[<-decide_not];exact decide_eq_decide.2 U
   rw [O];generalize (decide (PL.at_ f.ed.az f.ci.length<0)||decide (PL.at_ f.ed.az f.ci.length=i))=c1;generalize PP {f with ci:=f.ci++[i]}=c5;generalize KE n {f with ci:=f.ci++[i]}=A;cases c1
   .simp only[x_,x!,if_false,La j];rfl
   .cases c2
    .simp only[y!,x_,x!,if_false,La j];rfl
    .cases f.eb
     .rfl
     .cases f.ci.any λx=>decide (i=x)
      .rfl
      .simp only[x?,y_,y!,x_,x!,if_false,La j];rfl
variable{f:AL}
theorem lV(hf:Mm f)(c:YW f)(he:f.c8=[])(d:f.ci=[]):HD f=Y (BH f (KE f.p.az.length f)):=
 GZ (f.p.az.length+f.p.be.length+1) λm e=>Xf _ f hf c he (by rw[d];simp) m e
end Go.Sf.Sc
namespace Go.Sf.Sc
open Go Go.Sf
theorem Am(n:Nat):(AZ n).length=n:=by simp[AZ]
variable{n:Nat}{i:Int}
theorem By:i∈AZ n↔0<=i/\i<n:=by
 unfold AZ;rw[List.mem_map];constructor
 .grind
 .rintro⟨c,d⟩;exact⟨i.toNat,List.mem_range.2 U,by show((i.toNat:Nat):Int)=i;omega⟩
variable{α:Type}
theorem E5[Inhabited α](F:Int->α)(c:0<=i)(d:i<n):AA ((AZ n).map F) i=F i:=by
 unfold AA AZ
 grind
theorem Gx(c:0<=i):AZ (i+1).toNat=AZ i.toNat++[i]:=by
 rw [show(i+1).toNat=i.toNat+1 by omega,SB,show((i.toNat:Nat):Int)=i by omega]
def Nf(t:AC)(a:Int):MV:=(AZ t.az.length).map λk=>isB t k a
def Ho(t:AC):List MV:=(AZ t.az.length).map (Nf t)
variable{t:AC}{a:Int}
theorem sB(hf:Ap t)(h:ET t)(hv:(Az t).2=0)(a0:0<=a)(a1:a<t.az.length):Jc t a=Y ((AZ t.az.length).filter λi=>isB t i a,0):=by
 have d:=h.ci;unfold Jc;have c:LF t a=X:=by simp[LF,a0,a1]
 rw [Yt hf,bs,QQ (by simp[hv,c])];rw[BZ (λi=>(AZ i.toNat).filter λi=>isB t i a) U r_,bs,z?]
 grind [oU,Gx,AZ,isB,List.length_filter_le,Am,AV,AX]
variable{l:Fp}
theorem tG(q:∀x∈l,0<=x/\x<n):gp (λ(r:Int)(s2:MV)=>
  (idx l r).bind λc=>
  (idx s2 c).bind λ_=>
  Y (BB s2 c X)) 0 (l.length:Int) (B' n T)=Y ((AZ n).map λk=>l.any λx=>decide (x=k)):=by
 rw [BZ (λj=>(AZ n).map λk=>(l.take j.toNat).any λx=>decide (x=k)) U (by
  refine B! (by simp[Am]) (λj h w=>V))]
 .rw[z?,List.take_length]
 .intro j m h;have o:=q _ (AG m h);rw[AD m h,bs,AD o.1 (by rw[a6,Am];exact o.2),bs,CP m h];congr 1;unfold BB;refine B! V (λk y u=>?_);have v:k<n:=by simpa[Am]using u
  rw [List.getElem_set];have e:(AZ n)[k]'(by rw[Am];exact v)=(k:Int):=by simp[AZ]
  simp only[List.getElem_map,e,B?,C_,C',y?];by_cases d:(AA l j).toNat=k
  .rw[Ne d,decide_eq_true (show AA l j=(k:Int)by omega),Bool.or_true]
  .rw[QQ d,decide_eq_false (show¬AA l j=(k:Int)by omega),y?]
theorem jP(hf:Ap t)(h:ET t)(hv:(Az t).2=0):G5 t=Y (Ho t):=by
 have v:=h.ci;unfold G5;rw[BZ (λi=>(AZ i.toNat).map (Nf t)) U r_,bs,z?]
 .rfl
 .intro i m q;have u:Eu (t.az.length:Int) T=Y (B' t.az.length T):=by
   unfold Eu;rw[Ne U,z?]
  rw [u,bs,sB hf h hv m q,bs];have:=tG (n:=t.az.length) (l:=(AZ t.az.length).filter λk=>isB t k i) (λx d=>By.1 (C!.1 d).1);show(gp (λ(o:Int)(s2:MV)=>
   (idx ((AZ t.az.length).filter λk=>isB t k i) o).bind λc=>
   (idx s2 c).bind λ_=>
   Y (BB s2 c X)) 0 (((AZ t.az.length).filter λk=>isB t k i).length:Int) (B' t.az.length T)).bind _=_
  rw [this,bs,AV (by rw[a6,Am];simp;unfold AX;omega),bs,Gx m,List.map_append];congr 2;simp only[List.map_cons,List.map_nil];congr 1;unfold Nf;refine List.map_congr_left (λk j=>?_);have j:=By.1 j;rw[w?,C?];constructor
  .rintro⟨x,d,e⟩;rw[pE]at e;subst e;exact(C!.1 d).2
  .intro r;exact⟨k,C!.2 ⟨By.2 j,r⟩,V⟩
end Go.Sf.Sc
namespace Go.Sf.Sc
open Go Go.Sf
def EU:Nat->AL->List bk
 |0,f=>Dh f.p.be.length f|n+1,f=>(AZ f.g.az.length).flatMap λk=>if QA f k=X then EU n {f with ci:=f.ci++[k]}else[]
def iE(f:AL)(i:Int):Prop:=0<=i/\i<f.p.be.length/\0<=(AA f.p.be i).fb/\(AA f.p.be i).fb<f.ci.length/\0<=(AA f.p.be i).To/\(AA f.p.be i).To<f.ci.length/\∀k:Int,0<=k->k<f.g.be.length->Jk f i k=T
theorem XC(f:AL)(i k:Int):Jk f i k=((decide (PL.at_ f.ed.be i<0)||decide (PL.at_ f.ed.be i=k))&&decide (AA f.g.be k=⟨(AA f.p.be i).em,AA f.ci (AA f.p.be i).fb,AA f.ci (AA f.p.be i).To⟩)):=rfl
variable{α:Type}{i:Int}
theorem bP[Inhabited α](l:List α)(x:α)(c:0<=i)(d:i<l.length):AA (l++[x]) i=AA l i:=by
 unfold AA
 grind
theorem kL:∀(n:Nat)(f:AL)(i:Int),iE f i->(f.c8.length:Int)<=i->i<f.c8.length+n->Dh n f=[]
 |0,f,i,_,d,e=>by omega|n+1,f,i,hd,d,e=>by
  rw [Dh];refine D_.2 (λk c=>?_);have c:=By.1 c;by_cases he:(f.c8.length:Int)=i
  .have:P8 f k=T:=by
    unfold P8;rw[he,hd.2.2.2.2.2.2 k c.1 c.2];rfl
   grind
  .split
   .exact kL n {f with c8:=f.c8++[k]} i hd (by show((f.c8++[k]).length:Int)<=i;rw[aE];simp;omega) (by show i<((f.c8++[k]).length:Int)+n;rw[aE];simp;omega)
   .rfl
theorem bh:∀(n:Nat)(f:AL)(i:Int),f.c8=[]->iE f i->EU n f=[]
 |0,f,i,he,hd=>by
  rw [EU];exact kL _ f i hd (by rw[he];simpa using hd.1) (by rw[he];simpa using hd.2.1)
 |n+1,f,i,he,hd=>by
  rw [EU];refine D_.2 (λk m=>?_);split
  .refine bh n {f with ci:=f.ci++[k]} i he ?_;obtain⟨c,d,e,u,h,v,w⟩:=hd;have r:((f.ci++[k]).length:Int)=f.ci.length+1:=by rw[aE];simp
   refine ⟨c,d,e,?_,h,?_,λj o q=>?_⟩
   .grind
   .grind
   grind [XC,AA,bP]
  .rfl
variable{f:AL}
theorem oa(hf:Mm f)(h:PP f=T):∃i,iE f i:=by
 unfold PP at h;rw[w!,Dn]at h;obtain⟨i,c,d,h⟩:=h;rw[gN,pE,z_,Bg]at h;have he:=hf.ends _ (AG c d);exact⟨i,c,d,he.1,U,he.2.2.1,U,h.2⟩
theorem bE:∀(n:Nat)(f:AL),Mm f->f.c8=[]->KE n f=EU n f
 |0,_,_,_=>rfl|n+1,f,hf,he=>by
  rw [KE,EU];refine congrArg (λF=>(AZ f.g.az.length).flatMap F) (funext λk=>?_);have c:Mm {f with ci:=f.ci++[k]}:=⟨hf.pn,hf.pe,hf.ends,hf.kinds,hf.small⟩;cases QA f k
  .rfl
  .cases d:PP {f with ci:=f.ci++[k]}
   .obtain⟨i,hd⟩:=oa c d
    grind [bh]
   .simp;exact bE n _ c he
end Go.Sf.Sc
namespace Go.Sf.Sc
open Go Go.Sf
variable{a b:Int}
theorem QS{σ ρ:Type}{f:σ×Int->Option (B2 (σ×Int) ρ)}(g:Int->σ){s:σ}(c:a<=b)(d:s=g a)(h:∀i,a<=i->i<b->f (g i,i)=Y (.next (g (i+1),i+1)))(e:f (g b,b)=Y (.brk (g b,b))):FK f (s,a)=Y (.inl (g b,b)):=by
 subst d;have key:∀(n:Nat)(i:Int),a<=i->i+n=b->LV f (g i,i) (.inl (g b,b)):=by
  intro n
  induction n with
  |zero=>
   intro i _ hi;have:i=b:=U
   subst this;exact .brk e
  |succ n k=>
   intro i j m;exact .next (h i j U) (k (i+1) U U)
 exact (key (b-a).toNat a (z! _) U).eq
def Is(s:Al)(ci c8:Fp):AL:=⟨s.p,s.g,Ho s.t,s.ed,s.eb,s.mo+1,ci,c8,s.Aaj⟩
def Cm(s:Al)(l:List bk):Al:={s with Aaj:=(s.Aaj++l).take (s.mo+1).toNat}
structure XM(s:Al):Prop where
 m0:0<=s.mo
 m1:s.mo<=9999
 out:(s.Aaj.length:Int)<=s.mo+1
variable{s:Al}
theorem QN(h:XM s):Cm s []=s:=by
 unfold Cm;rw[A',A_ (by have:=h.out;have:=h.m0;omega)]
theorem YM(h:(s.Aaj.length:Int)=s.mo+1)(l:List bk):Cm s l=s:=by
 unfold Cm;rw[A! U,A_ U]
theorem YN(h:XM s)(l:List bk):XM (Cm s l):=by
 refine ⟨h.m0,h.m1,?_⟩;have:=h.m0;show(((s.Aaj++l).take (s.mo+1).toNat).length:Int)<=s.mo+1
 grind
theorem WN(s:Al)(a b:List bk):Cm (Cm s a) b=Cm s (a++b):=by
 show ({s with Aaj:=(((s.Aaj++a).take (s.mo+1).toNat)++b).take (s.mo+1).toNat}:Al)=_;rw[aC,ae];rfl
variable{l:Fp}
theorem mG(s:Al)(h:l.length<=1000)(n:Int):DB s l n=Y (s.eb&&l.any λx=>decide (n=x)):=by
 unfold DB;cases s.eb
 .rw[V0 (λ_=>T) X (a:=0) (b:=0) (z! _) (λi d c=>U) (by rw[QQ V])];rfl
 .rw[V0 (λi=>decide (AA l i=n)) X (a:=0) (b:=l.length) U (λi d c=>by
   rw [Ne (by simp;exact c),AD d c,bs,Ao U U,Ib]) (by rw[QQ V])]
  have e:fu (λi=>decide (AA l i=n)) 0 l.length=l.any λx=>decide (n=x):=by
   rw [w?,Dn,C?]
   grind [AG,BC]
  rw [e,Bool.true_and];cases l.any λx=>decide (n=x)<;>rfl
theorem Zz:∀(n:Nat)(s:Al)(ci l:Fp),Mm (Is s [] [])->XM s->ci.length=s.p.az.length->l.length+n=s.p.be.length->∀m,n+1<=m->Cd m s ci l=Y (Cm s (Dh n (Is s ci l)))
 |n,s,ci,l,hf,r,z,he,m,B=>by
  obtain ⟨m,rfl⟩:∃k,m=k+1:=⟨m-1,U⟩;have u:=hf.small;have R:s.p.az.length<=1000:=u.1;have s2:s.p.be.length<=1000:=u.2.1;have S:s.g.az.length<=1000:=u.2.2.1;have θ:s.g.be.length<=1000:=u.2.2.2;have ε:=r.m0;have κ:=r.m1;have η:=r.out;rw[Cd];by_cases v:(s.Aaj.length:Int)=s.mo+1
  .grind[YM]
  rw [QQ an]
  match n,he,B with
  |0,he,B=>
   rw [Ne an,BM a?,bs,BM a?,bs,AV a!,bs];unfold Cm;rw[A_ (by simp[Dh];omega)];rfl
  |n+1,he,B=>
   have e:(0:Int)<=l.length:=U
   have q:(l.length:Int)<s.p.be.length:=U
   have d:=hf.ends _ (AG (l:=s.p.be) e q);have H:(AA s.p.be l.length).fb<ci.length:=by rw[z];exact d.2.1
   have I:(AA s.p.be l.length).To<ci.length:=by rw[z];exact d.2.2.2
   have w:(l.length:Int)<s.ed.be.length:=by
    have:s.ed.be.length=s.p.be.length:=hf.pe;omega
   rw [QQ an,AD e q,bs];rw[QS (λi=>Cm s ((AZ i.toNat).flatMap λk=>if P8 (Is s ci l) k=X then Dh n (Is s ci (l++[k]))else[])) (a:=0) (b:=(s.g.be.length:Int)) (s:=s) U (QN r).symm (λi C D=>by
    have J:∀F,Cm s ((AZ (i+1).toNat).flatMap F)=Cm (Cm s ((AZ i.toNat).flatMap F)) (F i):=by
     intro F;rw[WN,Gx C,List.flatMap_append];simp
    rw [J];generalize (AZ i.toNat).flatMap (λk=>if P8 (Is s ci l) k=true then Dh n (Is s ci (l++[k]))else[])=L;have E:=YN r L;rw[Ne (by rw[pE];exact D)];have K:idx (Cm s L).g.be i=some (AA s.g.be i):=AD C D;have M:idx (Cm s L).ed.be (l.length:Int)=some (AA s.ed.be l.length):=AD e w;have N:DB (Cm s L) l i=some (s.eb&&l.any λx=>decide (i=x)):=mG (Cm s L) U i;have key:((Ak [] l).bind λh=>
      (Ak h [i]).bind λj=>
      (Cd m (Cm s L) ci j).bind λo=>
      some (.next (o,AW (i+1)):B2 (Al×Int) Al))=some (.next (Cm (Cm s L) (Dh n (Is s ci (l++[i]))),i+1)):=by
     have G:=Zz n (Cm s L) ci (l++[i]) ⟨hf.pn,hf.pe,hf.ends,hf.kinds,hf.small⟩ E z (by show(l++[i]).length+n=s.p.be.length;rw[aE];simp;omega) m U;have O:Dh n (Is (Cm s L) ci (l++[i]))=Dh n (Is s ci (l++[i])):=RB n (Is s ci (l++[i])) _;rw[O]at G;rw[BM a?,bs,AV a!,bs,G,bs,Ao U U]
    rw [K,bs,M,bs,N,key];simp only[bs];rw[AD d.1 H,AD d.2.2.1 I,Ao (n:=i+1) U U];simp only[bs];have y:P8 (Is s ci l) i=(((decide (AA s.ed.be l.length<0)||decide (AA s.ed.be l.length=i))&&decide (AA s.g.be i=⟨(AA s.p.be l.length).em,AA ci (AA s.p.be l.length).fb,AA ci (AA s.p.be l.length).To⟩))&&!(s.eb&&l.any λx=>decide (i=x))):=rfl;have P:decide (AA s.g.be i=⟨(AA s.p.be l.length).em,AA ci (AA s.p.be l.length).fb,AA ci (AA s.p.be l.length).To⟩)=(decide ((AA s.p.be l.length).em=(AA s.g.be i).em)&&decide ((AA s.g.be i).fb=AA ci (AA s.p.be l.length).fb)&&decide ((AA s.g.be i).To=AA ci (AA s.p.be l.length).To)):=by
     rw [Bool.eq_iff_iff];simp[pE];generalize AA s.g.be i=x;obtain⟨x1,ζ,δ⟩:=x;simp;constructor
     .rintro⟨a,b,c⟩;exact⟨⟨a.symm,b⟩,c⟩
     .rintro⟨⟨a,b⟩,c⟩;exact⟨a.symm,b,c⟩
    have Q:(decide (AA s.ed.be l.length<0)||decide (AA s.ed.be l.length=i))=!(decide (0<=AA s.ed.be l.length)&&!decide (AA s.ed.be l.length=i)):=by
     rw [Bool.not_and,Bool.not_not];congr 1;rw[<-decide_not];exact decide_eq_decide.2 U
    rw [y,P,Q];generalize Dh n (Is s ci (l++[i]))=A;generalize decide (0<=AA s.ed.be l.length)=c1;generalize decide (AA s.ed.be l.length=i)=c2;generalize decide ((AA s.p.be l.length).em=(AA s.g.be i).em)=c3;generalize decide ((AA s.g.be i).fb=AA ci (AA s.p.be l.length).fb)=c4;generalize decide ((AA s.g.be i).To=AA ci (AA s.p.be l.length).To)=c5;generalize (s.eb&&l.any λx=>decide (i=x))=c6;cases c1<;>cases c2<;>cases c3<;>cases c4<;>cases c5<;>cases c6<;>first|rfl|(simp[QN E];try rfl)) (by rw[QQ (by simp[Cm])]),B0,z?,Dh]
   rfl
end Go.Sf.Sc
namespace Go.Sf.Sc
open Go Go.Sf
def Tg(s:Al)(l:Fp)(i k:Int):Bool:=decide (AA s.g.be k=⟨(AA s.p.be i).em,AA l (AA s.p.be i).fb,AA l (AA s.p.be i).To⟩)
def TE(s:Al)(l:Fp)(i:Int):Bool:=(decide ((AA s.p.be i).fb<l.length)&&decide ((AA s.p.be i).To<l.length))&&!(AZ s.g.be.length).any (Tg s l i)
variable{s:Al}{l:Fp}
theorem vf(hf:Mm (Is s [] [])):Fx s l=Y (!fu (TE s l) 0 s.p.be.length):=by
 unfold Fx;rw[BN (TE s l) T]
 .cases fu (TE s l) 0 s.p.be.length<;>rfl
 .intro i d e _;have he:=hf.ends _ (AG (l:=s.p.be) d e);rw[AD d e,bs];unfold TE;by_cases j:(AA s.p.be i).fb<l.length
  .by_cases hT:(AA s.p.be i).To<l.length
   .rw[QQ an,BZ (λk=>(AZ k.toNat).any (Tg s l i)) U r_,bs,z?,decide_eq_true j,decide_eq_true hT]
    .grind
    .intro k h m;rw[AD h m,bs,Gx h,B?];have o:Tg s l i k=(decide ((AA s.p.be i).em=(AA s.g.be k).em)&&decide ((AA s.g.be k).fb=AA l (AA s.p.be i).fb)&&decide ((AA s.g.be k).To=AA l (AA s.p.be i).To)):=by
      unfold Tg;rw[w?];simp[pE];generalize AA s.g.be k=x;obtain⟨x1,q,r⟩:=x;simp;constructor
      .rintro⟨a,b,c⟩;exact⟨⟨a.symm,b⟩,c⟩
      .rintro⟨⟨a,b⟩,c⟩;exact⟨a.symm,b,c⟩
     rw [AD he.1 j,AD he.2.2.1 hT];simp only[C_,C',y?,bs];rw[o];generalize (AZ k.toNat).any (Tg s l i)=c1;generalize decide ((AA s.p.be i).em=(AA s.g.be k).em)=c3;generalize decide ((AA s.g.be k).fb=AA l (AA s.p.be i).fb)=c4;generalize decide ((AA s.g.be k).To=AA l (AA s.p.be i).To)=c5;cases c1<;>cases c3<;>cases c4<;>cases c5<;>rfl
   grind
  grind
theorem vc(hf:Mm (Is s [] []))(h:fu (TE s l) 0 s.p.be.length=X):∃i,iE (Is s l []) i:=by
 rw [Dn]at h;obtain⟨i,c,d,h⟩:=h;unfold TE at h;rw[gN,gN,pE,pE,z_,List.any_eq_false]at h;have he:=hf.ends _ (AG (l:=s.p.be) c d);refine⟨i,c,d,he.1,h.1.1,he.2.2.1,h.1.2,λk j m=>?_⟩;have:=h.2 k (By.2 ⟨j,m⟩);have e:Tg s l i k=T:=by rw[<-Bool.not_eq_true];exact this
 rw [XC];show((decide (AA s.ed.be i<0)||decide (AA s.ed.be i=k))&&Tg s l i k)=T;rw[e,y!]
end Go.Sf.Sc
namespace Go.Sf.Sc
open Go Go.Sf
theorem bH:∀(n:Nat)(f:AL)(o:List bk),EU n (TY f o)=EU n f
 |0,f,o=>RB _ f o|n+1,f,o=>by
  rw [EU,EU];refine congrArg (λF=>(AZ f.g.az.length).flatMap F) (funext λk=>?_);have:=bH n {f with ci:=f.ci++[k]} o
  grind [QA,EU,TY]
theorem Z0:∀(n:Nat)(s:Al)(l:Fp),ET s.t->Mm (Is s [] [])->XM s->l.length+n=s.p.az.length->∀m,n+1<=m->Ce m s l=Y (Cm s (EU n (Is s l [])))
 |n,s,l,O,hf,q,J,m,y=>by
  obtain ⟨m,rfl⟩:∃k,m=k+1:=⟨m-1,U⟩;have K:=hf.small;have δ:s.p.az.length<=1000:=K.1;have Z:s.g.az.length<=1000:=K.2.2.1;have h0:=q.m0;have h1:=q.m1;have h2:=q.out;rw[Ce];by_cases D:(s.Aaj.length:Int)=s.mo+1
  .grind[YM]
  rw [QQ an,vf hf];cases hd:fu (TE s l) 0 s.p.be.length
  case true=>
   grind [vc,bh,Is,QN]
  simp only[bs,Bool.not_false,y_,x!,if_false]
  match n,J,y with
  |0,J,y=>
   rw [Ne an,Option.bind_fun_some,EU];exact GZ (s.p.be.length+1) λm y=>Zz s.p.be.length s l [] hf q U V m U
  |n+1,J,y=>
   have v:(l.length:Int)<s.p.az.length:=U
   have j:(0:Int)<=l.length:=U
   have E:(l.length:Int)<s.ed.az.length:=by
    have:s.ed.az.length=s.p.az.length:=hf.pn;omega
   have P:(Ho s.t).length=s.t.az.length:=by unfold Ho;rw[a6,Am]
   have c:=hf.kinds _ (AG (l:=s.p.az) j v);have G:AA s.p.az l.length<s.t.az.length:=by rw[<-P];exact c.2.1
   have d:AA (Ho s.t) (AA s.p.az l.length)=Nf s.t (AA s.p.az l.length):=E5 (Nf s.t) c.1 G;rw[QQ an];rw[QS (λi=>Cm s ((AZ i.toNat).flatMap λk=>if QA (Is s l []) k=X then EU n (Is s (l++[k]) [])else[])) (a:=0) (b:=(s.g.az.length:Int)) (s:=s) U (QN q).symm (λi z B=>by
    have Q:∀F,Cm s ((AZ (i+1).toNat).flatMap F)=Cm (Cm s ((AZ i.toNat).flatMap F)) (F i):=by
     intro F;rw[WN,Gx z,List.flatMap_append];simp
    rw [Q];generalize (AZ i.toNat).flatMap (λk=>if QA (Is s l []) k=true then EU n (Is s (l++[k]) [])else[])=L;have M:=YN q L;rw[Ne (by rw[pE];exact B)];have o:=c.2.2 _ (AG (l:=s.g.az) z B);have w:AA s.g.az i<s.t.az.length:=by
     have h:=o.2;have e:AA (Is s [] []).is (AA s.p.az l.length)=Nf s.t (AA s.p.az l.length):=d;rw[e]at h;unfold Nf at h
     rwa [a6,Am]at h
    have H:G3 (Cm s L).t (AA s.g.az i) (AA s.p.az l.length)=some (isB s.t (AA s.g.az i) (AA s.p.az l.length)):=Vv O o.1 w c.1;have R:idx (Cm s L).g.az i=some (AA s.g.az i):=AD z B;have S:idx (Cm s L).ed.az (l.length:Int)=some (AA s.ed.az l.length):=AD j E;have θ:DB (Cm s L) l i=some (s.eb&&l.any λx=>decide (i=x)):=mG (Cm s L) U i;have ε:idx (Cm s L).p.az (l.length:Int)=some (AA s.p.az l.length):=AD j v;have key:((Ak [] l).bind λC=>
      (Ak C [i]).bind λr=>
      (Ce m (Cm s L) r).bind λu=>
      some (.next (u,AW (i+1)):B2 (Al×Int) Al))=some (.next (Cm (Cm s L) (EU n (Is s (l++[i]) [])),i+1)):=by
     have N:=Z0 n (Cm s L) (l++[i]) O ⟨hf.pn,hf.pe,hf.ends,hf.kinds,hf.small⟩ M (by show(l++[i]).length+n=s.p.az.length;rw[aE];simp;omega) m U;have κ:EU n (Is (Cm s L) (l++[i]) [])=EU n (Is s (l++[i]) []):=bH n (Is s (l++[i]) []) _;rw[κ]at N;rw[BM a?,bs,AV a!,bs,N,bs,Ao U U]
    rw [S,bs,θ,R,ε,key];simp only[bs];rw[H,Ao (n:=i+1) U U];simp only[bs];have I:QA (Is s l []) i=((decide (AA s.ed.az l.length<0)||decide (AA s.ed.az l.length=i))&&AA (AA (Ho s.t) (AA s.p.az l.length)) (AA s.g.az i)&&!(s.eb&&l.any λx=>decide (i=x))):=rfl;have η:AA (AA (Ho s.t) (AA s.p.az l.length)) (AA s.g.az i)=isB s.t (AA s.g.az i) (AA s.p.az l.length):=by
     rw [d];exact E5 (λk=>isB s.t k (AA s.p.az l.length)) o.1 w
    have ζ:(decide (AA s.ed.az l.length<0)||decide (AA s.ed.az l.length=i))=!(decide (0<=AA s.ed.az l.length)&&!decide (AA s.ed.az l.length=i)):=by
     rw [Bool.not_and,Bool.not_not];congr 1;rw[<-decide_not];exact decide_eq_decide.2 U
    rw [I,η,ζ];generalize EU n (Is s (l++[i]) [])=A;generalize decide (0<=AA s.ed.az l.length)=c1;generalize decide (AA s.ed.az l.length=i)=c2;generalize isB s.t (AA s.g.az i) (AA s.p.az l.length)=c3;generalize (s.eb&&l.any λx=>decide (i=x))=c6;cases c1<;>cases c2<;>cases c3<;>cases c6<;>first|rfl|(simp[QN M];try rfl)) (by rw[QQ (by simp[Cm])]),B0,z?,EU]
   rfl
end Go.Sf.Sc
namespace Go.Sf.Sc
open Go Go.Sf
def FF(t:AC)(p g:bi)(pa:bk)(inj:Bool):AL:=⟨p,g,Ho t,pa,inj,5001,[],[],[]⟩
def GW(t:AC)(p g:bi)(pa:bk)(inj:Bool):List bk:=(EU p.az.length (FF t p g pa inj)).take 5001
variable{t:AC}{p g:bi}
theorem sH{pa:bk}{inj:Bool}(d:Ap t)(hv:(Az t).2=0)(c:Mm (FF t p g pa inj)):GI t p g pa inj 5001=Y (GW t p g pa inj):=by
 unfold GI;rw[jP d (Cg hv) hv,bs];have h:=lV (f:=FF t p g pa inj) c ⟨by show(0:Int)<=5001;omega,by show(5001:Int)<=10000;omega,by show((0:Nat):Int)<=5001;omega⟩ rfl rfl;rw[bE _ _ c rfl]at h;have e:AL.mk p g (Ho t) pa inj 5001 [] [] []=FF t p g pa inj:=rfl;rw[e,h];rfl
theorem qp{pa:bk}{inj:Bool}(hv:(Az t).2=0)(c:Mm (FF t p g pa inj)):Ny t p g pa inj 5000=Y (GW t p g pa inj):=by
 unfold Ny;have h:Jq ⟨t,p,g,pa,inj,5000,[]⟩ []=Y (Cm ⟨t,p,g,pa,inj,5000,[]⟩ (EU p.az.length (FF t p g pa inj))):=
  GZ (p.az.length+1) λm d=>Z0 p.az.length ⟨t,p,g,pa,inj,5000,[]⟩ [] (Cg hv) c ⟨by show(0:Int)<=5000;omega,by show(5000:Int)<=9999;omega,by show((0:Nat):Int)<=5000+1;omega⟩ q? m d
 rw [h];rfl
end Go.Sf.Sc
namespace Go.Sf.Sc
open Go Go.Sf
def WW(n k:Int):Bool:=decide (k< -1)||decide (n<=k)
def Rw(l:Fp)(n:Int):Int:=if l.any (WW n)=X then 6 else 0
theorem lf(l:Fp)(n:Int):Hz l n=Y (Rw l n):=by grind[Hz,Rw,NS,WW,SY]
variable{l:Fp}
theorem dG{c:Int}(n:Int)(h:(l.length:Int)=c):J2 l c n=Y (Rw l n):=by
 unfold J2 Rw;rw[QQ to,BN (λi=>WW n (AA l i)) 6]
 .have e:fu (λi=>WW n (AA l i)) 0 l.length=l.any (WW n):=by
   rw [w?,Dn,C?]
   grind [AG,BC]
  rw [e];cases l.any (WW n)<;>rfl
 grind [AD,WW,AA]
end Go.Sf.Sc
namespace Go.Sf.Sc
open Go Go.Sf
theorem cr(t:AC)(g:bi):GO t g=Y (CQ t g):=by grind[GO,CQ,LP,SY,LQ,Yc]
def Dl(t:AC)(p g:bi):Int:=if(Az t).2≠0 then(Az t).2 else if Bz p≠0 then Bz p else if Bz g≠0 then Bz g else if(CQ t p&&CQ t g)=X then 0 else 13
variable{t:AC}
theorem Vt(hf:Ap t)(p g:bi):FD t p g=Y (Dl t p g):=by
 unfold FD Dl;rw[PO hf,bs];refine Dp λ_=>?_;have k:eE (ρ:=Int) (λ(j:Int)(_:Unit)=>
   (idx [p,g] j).bind λh=>
   (Dd h).bind λe=>
   if (!decide (e=0))=X then
   Y (.ret e)
   else
   Y (.next ())) 0 ([p,g].length:Int) ()=Y (if Bz p≠0 then .inr (Bz p)else if Bz g≠0 then .inr (Bz g)else .inl ()):=by
  show tc _ 2 0 ()=_;rw[FH,show idx [p,g] 0=Y p from rfl,bs,Nv,bs];by_cases c:Bz p=0
  .rw[QQ (by simp[c]),QQ (by simp[c])];show tc _ 1 (0+1) ()=_;rw[FH,show idx [p,g] (0+1)=Y g from rfl,bs,Nv,bs];by_cases d:Bz g=0
   .rw[QQ (by simp[d]),QQ (by simp[d])];rfl
   .rw[Ne (by simp[d]),Ne d]
  .rw[Ne (by simp[c]),Ne c]
 rw [k];by_cases c:Bz p=0
 .by_cases d:Bz g=0
  .simp[c,d,B0];rw[cr,cr,bs];cases CQ t p<;>cases CQ t g<;>rfl
  .simp[c,d,not_false_eq_true,SA]
 .simp[c,not_false_eq_true,SA]
theorem Wz(hf:Ap t)(p g:bi):JX t p g=Y (Dl t p g):=by
 unfold JX Dl;rw[Q1 hf,bs];refine Dp λ_=>?_;rw[Nx,bs];refine Dp λc=>?_;rw[Nx,bs];refine Dp λd=>?_
 grind [Yw,Dm,CQ]
end Go.Sf.Sc
namespace Go.Sf.Sc
open Go Go.Sf
variable{t:AC}{p g:bi}
theorem Wd{pa:bk}{inj:Bool}(h:Dl t p g=0)(q:pa.az.length=p.az.length)(r:pa.be.length=p.be.length):(Az t).2=0/\Mm (FF t p g pa inj):=by
 unfold Dl at h;by_cases hv:(Az t).2=0
 .rw[QQ t_]at h;by_cases m:Bz p=0
  .rw[QQ (by simp[m])]at h;by_cases o:Bz g=0
   .rw[QQ l']at h;by_cases c:(CQ t p&&CQ t g)=X
    .rw[gN]at c;have op:=Dm m;have j:=Dm o;have tp:=Cu op c.1;have v:=Cu j c.2;have w:(Ho t).length=t.az.length:=by unfold Ho;rw[a6,Am]
     refine ⟨hv,q,r,λe he=>?_,λn u=>?_,Nat.le_trans op.ci U,Nat.le_trans op.c8 U,Nat.le_trans j.ci U,Nat.le_trans j.c8 U⟩
     .have:=op.fit e he;exact⟨this.2.1.1,this.2.1.2,this.2.2.1,this.2.2.2⟩
     .have:=tp.1 n u;refine⟨this.1,by show n<((Ho t).length:Int);rw[w];exact this.2,λk d=>?_⟩;have d:=v.1 k d;refine⟨d.1,?_⟩;show k<((AA (Ho t) n).length:Int)
      grind [Ho,E5,Nf,a6,Am]
    grind
   grind
  grind
 grind
def TH(t:AC)(p g:bi)(pa:bk)(inj:Bool):List bk×Int:=
 if Dl t p g≠0 then([],Dl t p g)else if¬(pa.az.length=p.az.length/\pa.be.length=p.be.length)then([],20)else
 if Rw pa.az g.az.length≠0 then([],Rw pa.az g.az.length)else if Rw pa.be g.be.length≠0 then([],Rw pa.be g.be.length)else
 if 5000<(GW t p g pa inj).length then([],3)else(GW t p g pa inj,0)
theorem oS(hf:Ap t)(p g:bi)(pa:bk)(inj:Bool):HP t p g pa inj=Y (TH t p g pa inj):=by
 unfold HP TH;rw[Vt hf,bs];refine DV λd=>?_;refine Pz (by simp[z_,decide_eq_false_iff_not];omega) λc=>?_;have c:=Classical.not_not.1 c;rw[lf,bs];refine DV λe=>?_;rw[lf,bs];refine DV λh=>?_
 grind [Wd,JG,sH,GW]
theorem oh(hf:Ap t)(p g:bi)(pa:bk)(inj:Bool):Ls t p g pa inj=Y (TH t p g pa inj):=by
 unfold Ls TH;rw[Wz hf,bs];refine DV λd=>?_;refine Pz (by simp[z_,decide_eq_false_iff_not];omega) λc=>?_;have c:=Classical.not_not.1 c;rw[dG _ U,bs];refine DV λe=>?_;rw[dG _ U,bs];refine DV λh=>?_
 grind [Wd,qp,GW]
def I8(p:bi):bk:=⟨B' p.az.length (-1),B' p.be.length (-1)⟩
variable{n:Nat}{i:Int}
theorem dZ(c:0<=i)(d:i<n):BB (B' i.toNat (-1:Int)++B' (n-i.toNat) 0) i (-1)=B' (i+1).toNat (-1)++B' (n-(i+1).toNat) 0:=by
 unfold BB;rw[List.set_append_right _ _ V,show n-i.toNat=(n-(i+1).toNat)+1 by omega,List.replicate_succ,List.length_replicate,Nat.sub_self,List.set_cons_zero,show(i+1).toNat=i.toNat+1 by omega,List.replicate_succ',ae];rfl
theorem ol(h:p.az.length<=100)(j:p.be.length<=100):Of p=Y (I8 p):=by
 unfold Of;have m1:Eu (p.az.length:Int) (0:Int)=Y (B' p.az.length 0):=by unfold Eu;rw[Ne U,z?]
 have e:Eu (p.be.length:Int) (0:Int)=Y (B' p.be.length 0):=by unfold Eu;rw[Ne U,z?]
 rw [m1,bs,e,bs];rw[QS (λi=>(⟨B' i.toNat (-1)++B' (p.az.length-i.toNat) 0,B' p.be.length 0⟩:bk)) (a:=0) (b:=p.az.length) U V,B0]
 .dsimp only;rw[QS (λi=>(⟨B' p.az.length (-1),B' i.toNat (-1)++B' (p.be.length-i.toNat) 0⟩:bk)) (a:=0) (b:=p.be.length) U V,B0]
  .simp[I8]
  .intro i c d;dsimp only;rw[Ne an,AD c an,bs,dZ c d,Ao (n:=i+1) U U]
  .dsimp only;rw[QQ V]
 .intro i c d;dsimp only;rw[Ne an,AD c an,bs,dZ c d,Ao (n:=i+1) U U]
 .dsimp only;rw[QQ V]
end Go.Sf.Sc
