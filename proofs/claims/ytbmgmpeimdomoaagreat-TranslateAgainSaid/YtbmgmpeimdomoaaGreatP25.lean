/- Plain lemmas: what the functions of the program and of the reference compute. -/
import Derived.Test.YtbmgmpeimdomoaaGreatP1
import Derived.Test.YtbmgmpeimdomoaaGreatEval
set_option linter.all false
set_option maxRecDepth 100000
open Option renaming some->Y
open Bool renaming true->X,false->T
open Bool renaming not_eq_false'->w_,eq_iff_iff->w!,false_and->w?,false_eq_true->x_,and_self->x!,not_true->x?,and_false->y_,or_false->y!,not_eq_true'->y?
open Int renaming le_refl->z_,toNat_natCast->z!
open List renaming take_of_length_le->z?,append_nil->A_,take_append_of_le_length->A',flatMap_append->A!,take_left->A?,replicate->B_,ext_getElem->B',any_append->B!,any_cons->B?,any_nil->C_,mem_filter->C',any_eq_true->C!,flatMap_eq_nil_iff->C?
namespace Go.Sf.Sc
open Go Go.Sf
variable{t:AC}
theorem uC(hf:Ao t)(p:c7){c:ca}(e:GB c):Dj t p c=Y (Ni t p c):=by
 by_cases d:(A0 t).2=0
 .exact m7 hf d p e
 .unfold Dj Ni;rw[ZB hf,bs];refine Dy λh=>?_;exfalso;unfold H7 at h;rw[Ne d]at h;exact d h
end Go.Sf.Sc
namespace Go.Sf.Sc
open Go Go.Sf
variable{α:Type}
theorem ur[Inhabited α](b:α->α->Bool){l m:List α}(e:∀x∈l,∀y∈m,(b x y=X↔x=y))(j:l.length=m.length):fq (λi=>!b (AA l i) (AA m i)) 0 l.length=T↔l=m:=by
 rw [BV];constructor
 .intro h;refine lu j (λi c d=>?_);have:=h i c d;rw[w_]at this;exact(e _ (AG c d) _ (AG c U)).1 this
 .rintro rfl i c d;rw[w_];exact(e _ (AG c d) _ (AG c d)).2 rfl
theorem tR[Inhabited α][DecidableEq α]{l m:List α}(q:l.length=m.length){k:Unit->I1}{e:Bool->I1}:eb (eE (ρ:=Bool) (λ(j:Int)(_:Unit)=>
 (idx l j).bind λc=>
 (idx m j).bind λd=>
 if (!decide (c=d))=X then
 Y (.ret T)
 else
 Y (.next ())) 0 (l.length:Int) ()) k e=if l=m then k ()else e T:=by
 rw [BO (λi=>!decide (AA l i=AA m i)) T]
 .have:=ur (λx y:α=>decide (x=y)) (l:=l) (m:=m) (λ_ _ _ _=>decide_eq_true_iff) q;by_cases h:l=m
  .rw[this.2 h,Ne h];rfl
  .rw[QQ h];cases u:fq (λi=>!decide (AA l i=AA m i)) 0 l.length
   .exact absurd (this.1 u) h
   .rfl
 .intro i o r _;rw[AD o r,bs,AD o U,bs,Iw]
theorem iG[Inhabited α][DecidableEq α](l m:List α):(if(!decide ((l.length:Int)=(m.length:Int)))=X then
 Y T
 else
 eb (eE (ρ:=Bool) (λ(k:Int)(_:Unit)=>
 (idx l k).bind λc=>
 (idx m k).bind λd=>
 if (!decide (c=d))=X then
 Y (.ret T)
 else
 Y (.next ())) 0 (l.length:Int) ()) (λ_=>
 Y X) (λo=>Y o))=Y (decide (l=m)):=by
 by_cases j:l.length=m.length
 .rw[QQ j!,tR j];by_cases h:l=m
  .rw[Ne h,decide_eq_true h]
  .rw[QQ h,decide_eq_false h]
 .rw[Ne an,decide_eq_false (λe=>j (by rw[e]))]
theorem sU(l m:Fp):slices_Equal_int l m=Y (decide (l=m)):=iG l m
theorem uP(l m:Fp):Mq l m=Y (decide (l=m)):=iG l m
end Go.Sf.Sc
namespace Go.Sf.Sc
open Go Go.Sf
mutual
def GH:ca->Nat
 |⟨_,kids,_,_⟩=>1+Xf kids
def Xf:List ca->Nat
 |[]=>0|k::l=>GH k+Xf l
end
mutual
def dep:ca->Nat
 |⟨k,kids,_,_⟩=>(if k=5 then 1 else 0)+v8 kids
def v8:List ca->Nat
 |[]=>0|k::l=>max (dep k) (v8 l)
end
theorem dK(c:ca):GH c=1+Xf c.ew:=by cases c;rfl
theorem dJ:∀{l:List ca}{k:ca},k∈l->GH k<=Xf l
 |x::l,k,h=>by
  rw [Xf];rcases List.mem_cons.1 h with rfl|h
  .omega
  .have:=dJ h;omega
end Go.Sf.Sc
namespace Go.Sf.Sc
open Go Go.Sf
class PL(α:Type)where
 at_:α->Int->Int
 ok:α->Nat->Prop
instance:PL Fp:=⟨AA,λl n=>l.length=n⟩
instance:PL (Option Fp):=⟨λo i=>match o with|none=>-1|some l=>AA l i,λo n=>match o with|none=>True|some l=>l.length=n⟩
structure M6(f:AL):Prop where
 pn:PL.ok f.eg.az f.p.az.length
 pe:PL.ok f.eg.bi f.p.bi.length
 ends:∀e∈f.p.bi,0≤e.fb/\e.fb<f.p.az.length/\0≤e.To/\e.To<f.p.az.length
 kinds:∀n∈f.p.az,0<=n/\n<f.is.length/\∀t∈f.g.az,0<=t/\t<(AA f.is n).length
 small:f.p.az.length<=1000/\f.p.bi.length<=1000/\f.g.az.length<=1000/\f.g.bi.length<=1000
def J4(f:AL)(i k:Int):Bool:=
 (decide (PL.at_ f.eg.bi i<0)||decide (PL.at_ f.eg.bi i=k))&&decide (AA f.g.bi k=⟨(AA f.p.bi i).em,AA f.cE (AA f.p.bi i).fb,AA f.cE (AA f.p.bi i).To⟩)
variable{α:Type}
theorem mq{l:List α}(h:l≠[]):Xx l=Y ():=by grind[Xx]
variable{l:Fp}{i:Int}
theorem Yo(d:0<=i)(c:i<l.length):((Xx l).bind λ_=>(idx l i).bind λx=>Y x)=Y (AA l i):=by
 rw [mq (by intro h;subst h;simp at c;omega),bs,AD d c,bs]
variable{n:Nat}
theorem dh:∀{l},PL.ok l n->0<=i->i<n->MR l i=Y (PL.at_ l i):=by
 intro l h c d
 first
  |(cases l with
    |none=>rfl|some l=>exact Yo c (by have:l.length=n:=h;omega))
  |exact Yo c (by have:l.length=n:=h;omega)
variable{f:AL}
theorem nK(hf:M6 f){i k:Int}(c:0<=i)(d:i<f.p.bi.length)(e:0<=k)(h:k<f.g.bi.length)(j:(AA f.p.bi i).fb<f.cE.length)(hT:(AA f.p.bi i).To<f.cE.length):EI f i k=Y (J4 f i k):=by
 have he:=hf.ends _ (AG c d);unfold EI J4;rw[AD c d,bs,dh hf.pe c d,bs,AD e h,bs,AD he.1 j,bs,AD he.2.2.1 hT,bs]
 grind
def Pc(f:AL):Bool:=!fq (λi=>decide (max (AA f.p.bi i).fb (AA f.p.bi i).To=(f.cE.length:Int)-1)&&!fq (λk=>J4 f i k) 0 f.g.bi.length) 0 f.p.bi.length
variable{b:Int}
theorem tD{f:Int->Bool->Option (B3 Bool Bool)}(p:Int->Bool)(h:∀i,0<=i->i<b->f i T=Y (if p i=X then .brk X else .next T)):eE f 0 b T=Y (.inl (fq p 0 b)):=by
 have key:∀(m:Nat)(i:Int),0<=i->i+m=b->sr f m i T=Y (.inl (fq p i b)):=by
  intro m
  induction m with
  |zero=>
   intro i c hi;have:fq p i b=T:=by rw[BV];intro j k o;omega
   rw [this];rfl
  |succ m r=>
   intro i c hi;rw[FW,h i c U];by_cases d:p i=X
   .have:fq p i b=X:=by rw[Dv];exact⟨i,z_ _,U,d⟩
    rw [Ne d,this]
   .have e:fq p i b=fq p (i+1) b:=by
     rw [w!,Dv,Dv]
     grind
    grind
 unfold eE;by_cases q:0<=b
 .grind
 .have:fq p 0 b=T:=by rw[BV];intro j k o;omega
  rw [this,show(b-0).toNat=0 by omega];rfl
theorem kc(hf:M6 f)(o:0<f.cE.length)(h:f.cE.length<=1000):CX f=Y (Pc f):=by
 unfold CX Pc;rw[BO (λi=>decide (max (AA f.p.bi i).fb (AA f.p.bi i).To=(f.cE.length:Int)-1)&&!fq (λk=>J4 f i k) 0 f.g.bi.length) T]
 .generalize fq (λi=>decide (max (AA f.p.bi i).fb (AA f.p.bi i).To=(f.cE.length:Int)-1)&&!fq (λk=>J4 f i k) 0 f.g.bi.length) 0 f.p.bi.length=b;cases b<;>rfl
 .intro i c d _;rw[AD c d,bs,Ap (n:=(f.cE.length:Int)-1) U U];by_cases e:max (AA f.p.bi i).fb (AA f.p.bi i).To=(f.cE.length:Int)-1
  .rw[QQ d!,tD (λk=>J4 f i k) (λk j m=>by
    rw [nK hf c d j m U U,bs,Iw])]
   generalize fq (λk=>J4 f i k) 0 f.g.bi.length=b;rw[decide_eq_true e];cases b<;>rfl
  grind
def AY(n:Nat):Fp:=(List.range n).map Int.ofNat
theorem SS(n:Nat):AY (n+1)=AY n++[(n:Int)]:=by grind[AY,List.range_succ]
def QM(f:AL)(k:Int):Bool:=(decide (PL.at_ f.eg.az f.cE.length<0)||decide (PL.at_ f.eg.az f.cE.length=k))&&AA (AA f.is (AA f.p.az f.cE.length)) (AA f.g.az k)&&!(f.ec&&f.cE.any λx=>decide (k=x))
def QK(f:AL)(k:Int):Bool:=J4 f f.c9.length k&&!(f.ec&&f.c9.any λx=>decide (k=x))
def Do:Nat->AL->List bn
 |0,f=>[⟨f.cE,f.c9⟩]|n+1,f=>(AY f.g.bi.length).flatMap λk=>if QK f k=X then Do n {f with c9:=f.c9++[k]}else[]
def Ka:Nat->AL->List bn
 |0,f=>Do f.p.bi.length f|n+1,f=>(AY f.g.az.length).flatMap λk=>if(QM f k&&Pc {f with cE:=f.cE++[k]})=X then Ka n {f with cE:=f.cE++[k]}else[]
theorem bh(a b:List α)(m:Nat):((a.take m)++b).take m=(a++b).take m:=by
 by_cases h:a.length<=m
 .rw[z? h]
 grind
end Go.Sf.Sc
namespace Go.Sf.Sc
open Go Go.Sf
def Tv(f:AL)(o:List bn):AL:={f with out:=o}
variable{f:AL}
theorem M6.out(h:M6 f)(o:List bn):M6 (Tv f o):=⟨h.pn,h.pe,h.ends,h.kinds,h.small⟩
theorem RN:∀(n:Nat)(f:AL)(o:List bn),Do n (Tv f o)=Do n f
 |0,_,_=>rfl|n+1,f,o=>by
  rw [Do,Do];refine congrArg (λF=>(AY f.g.bi.length).flatMap F) (funext λk=>?_);have:=RN n {f with c9:=f.c9++[k]} o;show(if QK f k=X then Do n (Tv {f with c9:=f.c9++[k]} o)else[])=_;rw[this]
theorem cm:∀(n:Nat)(f:AL)(o:List bn),Ka n (Tv f o)=Ka n f
 |0,f,o=>RN _ f o|n+1,f,o=>by
  rw [Ka,Ka];refine congrArg (λF=>(AY f.g.az.length).flatMap F) (funext λk=>?_);have:=cm n {f with cE:=f.cE++[k]} o;show(if(QM f k&&Pc {f with cE:=f.cE++[k]})=X then Ka n (Tv {f with cE:=f.cE++[k]} o)else[])=_;rw[this]
def BI(f:AL)(l:List bn):AL:=Tv f ((f.out++l).take f.mo.toNat)
structure ZX(f:AL):Prop where
 m0:0<=f.mo
 m1:f.mo<=10000
 out:(f.out.length:Int)<=f.mo
theorem Lx(h:ZX f):BI f []=f:=by
 unfold BI;rw[A_,z? (by have:=h.out;have:=h.m0;omega)];rfl
theorem ai(h:(f.out.length:Int)=f.mo)(l:List bn):BI f l=f:=by
 unfold BI;rw[A' U,z? U];rfl
theorem ak(h:ZX f)(l:List bn):ZX (BI f l):=by
 refine ⟨h.m0,h.m1,?_⟩;have:=h.m0;show(((f.out++l).take f.mo.toNat).length:Int)<=f.mo
 grind
theorem aj(f:AL)(a b:List bn):BI (BI f a) b=BI f (a++b):=by
 show Tv f ((((f.out++a).take f.mo.toNat)++b).take f.mo.toNat)=_;rw[bh,ae];rfl
theorem Yf:∀(n:Nat)(f:AL),M6 f->ZX f->f.cE.length=f.p.az.length->f.c9.length+n=f.p.bi.length->∀m,n+1<=m->A6 m f=Y (BI f (Do n f))
 |n,f,hf,r,K,he,m,w=>by
  obtain ⟨m,rfl⟩:∃k,m=k+1:=⟨m-1,U⟩;have M:=hf.small;have N:=r.m0;have O:=r.m1;have P:=r.out;rw[A6];by_cases d:(f.out.length:Int)=f.mo
  .grind[ai]
  rw [QQ c_,QQ an]
  match n,he,w with
  |0,he,w=>
   rw [QQ an];unfold slices_Clone_int;rw[BL b_,bs,BL b_,bs,AS a?,bs,bs];unfold BI;rw[z? (by simp[Do];omega)];rfl
  |n+1,he,w=>
   rw [Ne an];have F:∀k,QK f k=X->M6 {f with c9:=f.c9++[k]}:=λk _=>⟨hf.pn,hf.pe,hf.ends,hf.kinds,hf.small⟩;rw[BQ (a:=0) (s:=f) (λi=>BI f ((AY i.toNat).flatMap λk=>if QK f k=X then Do n {f with c9:=f.c9++[k]}else[])) U (Lx r)]
   .grind[z!,Do]
   .intro i B C;have D:AY (i+1).toNat=AY i.toNat++[i]:=by
     rw [show(i+1).toNat=i.toNat+1 by omega,SS];rw[show((i.toNat:Nat):Int)=i by omega]
    have E:∀l,BI f ((AY (i+1).toNat).flatMap l)=BI (BI f ((AY i.toNat).flatMap l)) (l i):=by
     intro l;rw[aj,D,A!];simp
    rw [E];generalize (AY i.toNat).flatMap (λk=>if QK f k=X then Do n {f with c9:=f.c9++[k]}else[])=L;have j:=ak r L;have u:M6 (BI f L):=hf.out _;have y:=hf.ends _ (AG (l:=f.p.bi) (i:=(f.c9.length:Int)) U U);rw[nK u (i:=(f.c9.length:Int)) (k:=i) U (by show _<(f.p.bi.length:Int);omega) B (by exact C) (by show(AA f.p.bi f.c9.length).fb<(f.cE.length:Int);omega) (by show(AA f.p.bi f.c9.length).To<(f.cE.length:Int);omega),bs];have G:slices_Contains_int (BI f L).c9 i=Y (f.c9.any λx=>decide (i=x)):=Lv f.c9 i;rw[G];have o:J4 (BI f L) f.c9.length i=J4 f f.c9.length i:=rfl;have key:((Al (BI f L).c9 [i]).bind λe=>
      (A6 m (AL.mk (BI f L).p (BI f L).g (BI f L).is (BI f L).eg (BI f L).ec (BI f L).mo (BI f L).cE e (BI f L).out)).bind λc=>
      (slc c.c9 0 (f.c9.length:Int)).bind λh=>
      Y (AL.mk c.p c.g c.is c.eg c.ec c.mo c.cE h c.out))=Y (BI (BI f L) (Do n {f with c9:=f.c9++[i]})):=by
     have H:Al (BI f L).c9 [i]=Y (f.c9++[i]):=AS (by show f.c9.length+1<=AW;unfold AW;omega);have z:=Yf n {BI f L with c9:=f.c9++[i]} ⟨hf.pn,hf.pe,hf.ends,hf.kinds,hf.small⟩ ⟨j.m0,j.m1,j.out⟩ K (by show(f.c9++[i]).length+n=f.p.bi.length;simp;omega) m U;have I:Do n {BI f L with c9:=f.c9++[i]}=Do n {f with c9:=f.c9++[i]}:=RN n {f with c9:=f.c9++[i]} _;rw[I]at z;rw[H,bs];show(A6 m {BI f L with c9:=f.c9++[i]}).bind _=_;rw[z,bs];have J:slc (BI {BI f L with c9:=f.c9++[i]} (Do n {f with c9:=f.c9++[i]})).c9 0 (f.c9.length:Int)=Y f.c9:=by
      show slc (f.c9++[i]) 0 (f.c9.length:Int)=_;rw[MS U to,z!,A?]
     rw [J];rfl
    rw [key,o];have v:QK f i=(J4 f f.c9.length i&&!(f.ec&&f.c9.any λx=>decide (i=x))):=rfl;have q:(BI f L).ec=f.ec:=rfl;rw[v,q];generalize Q:Do n {f with c9:=f.c9++[i]}=A;cases J4 f f.c9.length i
    .simp only[w?,x_,if_false,Lx j];rfl
    .cases f.ec
     .rfl
     .cases f.c9.any λx=>decide (i=x)
      .rfl
      .simp only[x!,x?,y_,x_,if_false,Lx j];rfl
end Go.Sf.Sc
namespace Go.Sf.Sc
open Go Go.Sf
theorem Yg:∀(n:Nat)(f:AL),M6 f->ZX f->f.c9=[]->f.cE.length+n=f.p.az.length->∀m,n+f.p.bi.length+1<=m->A6 m f=Y (BI f (Ka n f))
 |0,f,hf,q,he,P,m,Q=>by
  grind [Ka,Yf]
 |n+1,f,hf,q,he,P,m,Q=>by
  obtain ⟨m,rfl⟩:∃k,m=k+1:=⟨m-1,U⟩;have R:=hf.small;have S:=q.m0;have θ:=q.m1;have ε:=q.out;rw[A6];by_cases h:(f.out.length:Int)=f.mo
  .grind[ai]
  rw [QQ c!,Ne an];rw[BQ (a:=0) (s:=f) (λi=>BI f ((AY i.toNat).flatMap λk=>if(QM f k&&Pc {f with cE:=f.cE++[k]})=X then Ka n {f with cE:=f.cE++[k]}else[])) U (Lx q)]
  .grind[z!,Ka]
  .intro i z B;have D:AY (i+1).toNat=AY i.toNat++[i]:=by
    rw [show(i+1).toNat=i.toNat+1 by omega,SS];rw[show((i.toNat:Nat):Int)=i by omega]
   have E:∀l,BI f ((AY (i+1).toNat).flatMap l)=BI (BI f ((AY i.toNat).flatMap l)) (l i):=by
    intro l;rw[aj,D,A!];simp
   rw [E];generalize (AY i.toNat).flatMap (λk=>if(QM f k&&Pc {f with cE:=f.cE++[k]})=X then Ka n {f with cE:=f.cE++[k]}else[])=L;have j:=ak q L;have u:(f.cE.length:Int)<(f.p.az.length:Int):=U
   have o:=hf.kinds _ (AG (l:=f.p.az) (i:=(f.cE.length:Int)) U u);have v:=o.2.2 _ (AG z B);have key:((Al (BI f L).cE [i]).bind λd=>
     (CX (AL.mk (BI f L).p (BI f L).g (BI f L).is (BI f L).eg (BI f L).ec (BI f L).mo d (BI f L).c9 (BI f L).out)).bind λr=>
     if r=X then
     (A6 m (AL.mk (BI f L).p (BI f L).g (BI f L).is (BI f L).eg (BI f L).ec (BI f L).mo d (BI f L).c9 (BI f L).out)).bind λc=>
     (slc c.cE 0 (f.cE.length:Int)).bind λe=>
     Y (AL.mk c.p c.g c.is c.eg c.ec c.mo e c.c9 c.out)
     else
     (slc d 0 (f.cE.length:Int)).bind λe=>
     Y (AL.mk (BI f L).p (BI f L).g (BI f L).is (BI f L).eg (BI f L).ec (BI f L).mo e (BI f L).c9 (BI f L).out))=Y (BI (BI f L) (if Pc {f with cE:=f.cE++[i]}=X then Ka n {f with cE:=f.cE++[i]}else[])):=by
    have F:Al (BI f L).cE [i]=Y (f.cE++[i]):=AS (by show f.cE.length+1<=AW;unfold AW;omega);have e0:slc (f.cE++[i]) 0 (f.cE.length:Int)=Y f.cE:=by
     rw [MS U to,z!,A?]
    have G:CX {BI f L with cE:=f.cE++[i]}=Y (Pc {f with cE:=f.cE++[i]}):=kc (f:={BI f L with cE:=f.cE++[i]}) ⟨hf.pn,hf.pe,hf.ends,hf.kinds,hf.small⟩ (by show 0<(f.cE++[i]).length;simp) (by show(f.cE++[i]).length<=1000;rw[aE];simp;omega);have C:=Yg n {BI f L with cE:=f.cE++[i]} ⟨hf.pn,hf.pe,hf.ends,hf.kinds,hf.small⟩ ⟨j.m0,j.m1,j.out⟩ he (by show(f.cE++[i]).length+n=f.p.az.length;rw[aE];simp;omega) m (by show n+f.p.bi.length+1<=m;omega);have H:Ka n {BI f L with cE:=f.cE++[i]}=Ka n {f with cE:=f.cE++[i]}:=cm n {f with cE:=f.cE++[i]} _;rw[H]at C;rw[F,bs];show(CX {BI f L with cE:=f.cE++[i]}).bind _=_;rw[G,bs];cases Pc {f with cE:=f.cE++[i]}
    .rw[QQ a_,QQ a_,e0,Lx j];rfl
    .rw[Ne rfl,Ne rfl];show(A6 m {BI f L with cE:=f.cE++[i]}).bind _=_;rw[C,bs];have I:slc (BI {BI f L with cE:=f.cE++[i]} (Ka n {f with cE:=f.cE++[i]})).cE 0 (f.cE.length:Int)=Y f.cE:=e0;rw[I];rfl
   have J:MR (BI f L).eg.az (f.cE.length:Int)=Y (PL.at_ f.eg.az f.cE.length):=dh (n:=f.p.az.length) hf.pn U U;have K:idx (BI f L).p.az (f.cE.length:Int)=Y (AA f.p.az f.cE.length):=AD U u;have hi:idx (BI f L).is (AA f.p.az f.cE.length)=Y (AA f.is (AA f.p.az f.cE.length)):=AD o.1 o.2.1;have M:idx (AA f.is (AA f.p.az f.cE.length)) (AA f.g.az i)=Y (AA (AA f.is (AA f.p.az f.cE.length)) (AA f.g.az i)):=AD v.1 v.2;have N:slices_Contains_int (BI f L).cE i=Y (f.cE.any λx=>decide (i=x)):=Lv f.cE i;have w:(BI f L).ec=f.ec:=rfl;have y:QM f i=((decide (PL.at_ f.eg.az f.cE.length<0)||decide (PL.at_ f.eg.az f.cE.length=i))&&AA (AA f.is (AA f.p.az f.cE.length)) (AA f.g.az i)&&!(f.ec&&f.cE.any λx=>decide (i=x))):=rfl;rw[AD z B,bs,J,bs,K,bs,hi,bs,M,bs,N,key,w,y];generalize AA (AA f.is (AA f.p.az f.cE.length)) (AA f.g.az i)=c2;have O:(decide (0<=PL.at_ f.eg.az f.cE.length)&&!decide (PL.at_ f.eg.az f.cE.length=i))=!(decide (PL.at_ f.eg.az f.cE.length<0)||decide (PL.at_ f.eg.az f.cE.length=i)):=by
    rw [Bool.not_or];congr 1;rw[<-decide_not];exact decide_eq_decide.2 U
   rw [O];generalize (decide (PL.at_ f.eg.az f.cE.length<0)||decide (PL.at_ f.eg.az f.cE.length=i))=c1;generalize Pc {f with cE:=f.cE++[i]}=c5;generalize Ka n {f with cE:=f.cE++[i]}=A;cases c1
   .simp only[w?,x_,if_false,Lx j];rfl
   .cases c2
    .simp only[y_,w?,x_,if_false,Lx j];rfl
    .cases f.ec
     .rfl
     .cases f.cE.any λx=>decide (i=x)
      .rfl
      .simp only[x!,x?,y_,w?,x_,if_false,Lx j];rfl
variable{f:AL}
theorem nA(hf:M6 f)(c:ZX f)(he:f.c9=[])(d:f.cE=[]):He f=Y (BI f (Ka f.p.az.length f)):=
 Gp (f.p.az.length+f.p.bi.length+1) λm e=>Yg _ f hf c he (by rw[d];simp) m e
end Go.Sf.Sc
namespace Go.Sf.Sc
open Go Go.Sf
theorem Am(n:Nat):(AY n).length=n:=by simp[AY]
variable{n:Nat}{i:Int}
theorem Bs:i∈AY n↔0<=i/\i<n:=by
 unfold AY;rw[List.mem_map];constructor
 .grind
 .rintro⟨c,d⟩;exact⟨i.toNat,List.mem_range.2 U,by show((i.toNat:Nat):Int)=i;omega⟩
variable{α:Type}
theorem FH[Inhabited α](F:Int->α)(c:0<=i)(d:i<n):AA ((AY n).map F) i=F i:=by
 unfold AA AY
 grind
theorem HL(c:0<=i):AY (i+1).toNat=AY i.toNat++[i]:=by
 rw [show(i+1).toNat=i.toNat+1 by omega,SS,show((i.toNat:Nat):Int)=i by omega]
def N3(t:AC)(a:Int):MV:=(AY t.az.length).map λk=>isB t k a
def IB(t:AC):List MV:=(AY t.az.length).map (N3 t)
variable{t:AC}{a:Int}
theorem t8(hf:Ao t)(h:Eh t)(hv:(A0 t).2=0)(a0:0<=a)(a1:a<t.az.length):Jw t a=Y ((AY t.az.length).filter λi=>isB t i a,0):=by
 have d:=h.cE;unfold Jw;have c:La t a=X:=by simp[La,a0,a1]
 rw [Zv hf,bs,QQ (by simp[hv,c])];rw[BQ (λi=>(AY i.toNat).filter λi=>isB t i a) U o?,bs,z!]
 grind [p9,HL,AY,isB,List.length_filter_le,Am,AS,AW]
variable{l:Fp}
theorem ut(q:∀x∈l,0<=x/\x<n):gp (λ(r:Int)(s2:MV)=>
  (idx l r).bind λc=>
  (idx s2 c).bind λ_=>
  Y (BB s2 c X)) 0 (l.length:Int) (B_ n T)=Y ((AY n).map λk=>l.any λx=>decide (x=k)):=by
 rw [BQ (λj=>(AY n).map λk=>(l.take j.toNat).any λx=>decide (x=k)) U (by
  refine B' (by simp[Am]) (λj h w=>V))]
 .rw[z!,List.take_length]
 .intro j m h;have o:=q _ (AG m h);rw[AD m h,bs,AD o.1 (by rw[a6,Am];exact o.2),bs,CU m h];congr 1;unfold BB;refine B' V (λk y u=>?_);have v:k<n:=by simpa[Am]using u
  rw [List.getElem_set];have e:(AY n)[k]'(by rw[Am];exact v)=(k:Int):=by simp[AY]
  simp only[List.getElem_map,e,B!,B?,C_,y!];by_cases d:(AA l j).toNat=k
  .rw[Ne d,decide_eq_true (show AA l j=(k:Int)by omega),Bool.or_true]
  .rw[QQ d,decide_eq_false (show¬AA l j=(k:Int)by omega),y!]
theorem kh(hf:Ao t)(h:Eh t)(hv:(A0 t).2=0):HU t=Y (IB t):=by
 have v:=h.cE;unfold HU;rw[BQ (λi=>(AY i.toNat).map (N3 t)) U o?,bs,z!]
 .rfl
 .intro i m q;have u:FA (t.az.length:Int) T=Y (B_ t.az.length T):=by
   unfold FA;rw[Ne U,z!]
  rw [u,bs,t8 hf h hv m q,bs];have:=ut (n:=t.az.length) (l:=(AY t.az.length).filter λk=>isB t k i) (λx d=>Bs.1 (C'.1 d).1);show(gp (λ(o:Int)(s2:MV)=>
   (idx ((AY t.az.length).filter λk=>isB t k i) o).bind λc=>
   (idx s2 c).bind λ_=>
   Y (BB s2 c X)) 0 (((AY t.az.length).filter λk=>isB t k i).length:Int) (B_ t.az.length T)).bind _=_
  rw [this,bs,AS (by rw[a6,Am];simp;unfold AW;omega),bs,HL m,List.map_append];congr 2;simp only[List.map_cons,List.map_nil];congr 1;unfold N3;refine List.map_congr_left (λk j=>?_);have j:=Bs.1 j;rw[w!,C!];constructor
  .rintro⟨x,d,e⟩;rw[o4]at e;subst e;exact(C'.1 d).2
  .intro r;exact⟨k,C'.2 ⟨Bs.2 j,r⟩,V⟩
end Go.Sf.Sc
namespace Go.Sf.Sc
open Go Go.Sf
def Ei:Nat->AL->List bn
 |0,f=>Do f.p.bi.length f|n+1,f=>(AY f.g.az.length).flatMap λk=>if QM f k=X then Ei n {f with cE:=f.cE++[k]}else[]
def jc(f:AL)(i:Int):Prop:=0<=i/\i<f.p.bi.length/\0<=(AA f.p.bi i).fb/\(AA f.p.bi i).fb<f.cE.length/\0<=(AA f.p.bi i).To/\(AA f.p.bi i).To<f.cE.length/\∀k:Int,0<=k->k<f.g.bi.length->J4 f i k=T
theorem YF(f:AL)(i k:Int):J4 f i k=((decide (PL.at_ f.eg.bi i<0)||decide (PL.at_ f.eg.bi i=k))&&decide (AA f.g.bi k=⟨(AA f.p.bi i).em,AA f.cE (AA f.p.bi i).fb,AA f.cE (AA f.p.bi i).To⟩)):=rfl
variable{α:Type}{i:Int}
theorem cz[Inhabited α](l:List α)(x:α)(c:0<=i)(d:i<l.length):AA (l++[x]) i=AA l i:=by
 unfold AA
 grind
theorem mA:∀(n:Nat)(f:AL)(i:Int),jc f i->(f.c9.length:Int)<=i->i<f.c9.length+n->Do n f=[]
 |0,f,i,_,d,e=>by omega|n+1,f,i,hd,d,e=>by
  rw [Do];refine C?.2 (λk c=>?_);have c:=Bs.1 c;by_cases he:(f.c9.length:Int)=i
  .have:QK f k=T:=by
    unfold QK;rw[he,hd.2.2.2.2.2.2 k c.1 c.2];rfl
   grind
  .split
   .exact mA n {f with c9:=f.c9++[k]} i hd (by show((f.c9++[k]).length:Int)<=i;rw[aE];simp;omega) (by show i<((f.c9++[k]).length:Int)+n;rw[aE];simp;omega)
   .rfl
theorem dP:∀(n:Nat)(f:AL)(i:Int),f.c9=[]->jc f i->Ei n f=[]
 |0,f,i,he,hd=>by
  rw [Ei];exact mA _ f i hd (by rw[he];simpa using hd.1) (by rw[he];simpa using hd.2.1)
 |n+1,f,i,he,hd=>by
  rw [Ei];refine C?.2 (λk m=>?_);split
  .refine dP n {f with cE:=f.cE++[k]} i he ?_;obtain⟨c,d,e,u,h,v,w⟩:=hd;have r:((f.cE++[k]).length:Int)=f.cE.length+1:=by rw[aE];simp
   refine ⟨c,d,e,?_,h,?_,λj o q=>?_⟩
   .grind
   .grind
   grind [YF,AA,cz]
  .rfl
variable{f:AL}
theorem qI(hf:M6 f)(h:Pc f=T):∃i,jc f i:=by
 unfold Pc at h;rw[w_,Dv]at h;obtain⟨i,c,d,h⟩:=h;rw[gR,o4,y?,BV]at h;have he:=hf.ends _ (AG c d);exact⟨i,c,d,he.1,U,he.2.2.1,U,h.2⟩
theorem cl:∀(n:Nat)(f:AL),M6 f->f.c9=[]->Ka n f=Ei n f
 |0,_,_,_=>rfl|n+1,f,hf,he=>by
  rw [Ka,Ei];refine congrArg (λF=>(AY f.g.az.length).flatMap F) (funext λk=>?_);have c:M6 {f with cE:=f.cE++[k]}:=⟨hf.pn,hf.pe,hf.ends,hf.kinds,hf.small⟩;cases QM f k
  .rfl
  .cases d:Pc {f with cE:=f.cE++[k]}
   .obtain⟨i,hd⟩:=qI c d
    grind [dP]
   .simp;exact cl n _ c he
end Go.Sf.Sc
namespace Go.Sf.Sc
open Go Go.Sf
variable{a b:Int}
theorem Qe{σ ρ:Type}{f:σ×Int->Option (B3 (σ×Int) ρ)}(g:Int->σ){s:σ}(c:a<=b)(d:s=g a)(h:∀i,a<=i->i<b->f (g i,i)=Y (.next (g (i+1),i+1)))(e:f (g b,b)=Y (.brk (g b,b))):Fx f (s,a)=Y (.inl (g b,b)):=by
 subst d;have key:∀(n:Nat)(i:Int),a<=i->i+n=b->Ls f (g i,i) (.inl (g b,b)):=by
  intro n
  induction n with
  |zero=>
   intro i _ hi;have:i=b:=U
   subst this;exact .brk e
  |succ n k=>
   intro i j m;exact .next (h i j U) (k (i+1) U U)
 exact (key (b-a).toNat a (z_ _) U).eq
def JF(s:An)(cE c9:Fp):AL:=⟨s.p,s.g,IB s.t,s.eg,s.ec,s.mo+1,cE,c9,s.Aaj⟩
def Cr(s:An)(l:List bn):An:={s with Aaj:=(s.Aaj++l).take (s.mo+1).toNat}
structure YO(s:An):Prop where
 m0:0<=s.mo
 m1:s.mo<=9999
 out:(s.Aaj.length:Int)<=s.mo+1
variable{s:An}
theorem Qa(h:YO s):Cr s []=s:=by
 unfold Cr;rw[A_,z? (by have:=h.out;have:=h.m0;omega)]
theorem ZN(h:(s.Aaj.length:Int)=s.mo+1)(l:List bn):Cr s l=s:=by
 unfold Cr;rw[A' U,z? U]
theorem ZO(h:YO s)(l:List bn):YO (Cr s l):=by
 refine ⟨h.m0,h.m1,?_⟩;have:=h.m0;show(((s.Aaj++l).take (s.mo+1).toNat).length:Int)<=s.mo+1
 grind
theorem XU(s:An)(a b:List bn):Cr (Cr s a) b=Cr s (a++b):=by
 show ({s with Aaj:=(((s.Aaj++a).take (s.mo+1).toNat)++b).take (s.mo+1).toNat}:An)=_;rw[bh,ae];rfl
variable{l:Fp}
theorem nc(s:An)(h:l.length<=1000)(n:Int):DJ s l n=Y (s.ec&&l.any λx=>decide (n=x)):=by
 unfold DJ;cases s.ec
 .rw[W7 (λ_=>T) X (a:=0) (b:=0) (z_ _) (λi d c=>U) (by rw[QQ V])];rfl
 .rw[W7 (λi=>decide (AA l i=n)) X (a:=0) (b:=l.length) U (λi d c=>by
   rw [Ne (by simp;exact c),AD d c,bs,Ap U U,Iw]) (by rw[QQ V])]
  have e:fq (λi=>decide (AA l i=n)) 0 l.length=l.any λx=>decide (n=x):=by
   rw [w!,Dv,C!]
   grind [AG,Ay]
  rw [e,Bool.true_and];cases l.any λx=>decide (n=x)<;>rfl
theorem bR:∀(n:Nat)(s:An)(cE l:Fp),M6 (JF s [] [])->YO s->cE.length=s.p.az.length->l.length+n=s.p.bi.length->∀m,n+1<=m->Ch m s cE l=Y (Cr s (Do n (JF s cE l)))
 |n,s,cE,l,hf,r,z,he,m,B=>by
  obtain ⟨m,rfl⟩:∃k,m=k+1:=⟨m-1,U⟩;have u:=hf.small;have R:s.p.az.length<=1000:=u.1;have s2:s.p.bi.length<=1000:=u.2.1;have S:s.g.az.length<=1000:=u.2.2.1;have θ:s.g.bi.length<=1000:=u.2.2.2;have ε:=r.m0;have κ:=r.m1;have η:=r.out;rw[Ch];by_cases v:(s.Aaj.length:Int)=s.mo+1
  .grind[ZN]
  rw [QQ an]
  match n,he,B with
  |0,he,B=>
   rw [Ne an,BL b_,bs,BL b_,bs,AS a?,bs];unfold Cr;rw[z? (by simp[Do];omega)];rfl
  |n+1,he,B=>
   have e:(0:Int)<=l.length:=U
   have q:(l.length:Int)<s.p.bi.length:=U
   have d:=hf.ends _ (AG (l:=s.p.bi) e q);have H:(AA s.p.bi l.length).fb<cE.length:=by rw[z];exact d.2.1
   have I:(AA s.p.bi l.length).To<cE.length:=by rw[z];exact d.2.2.2
   have w:(l.length:Int)<s.eg.bi.length:=by
    have:s.eg.bi.length=s.p.bi.length:=hf.pe;omega
   rw [QQ an,AD e q,bs];rw[Qe (λi=>Cr s ((AY i.toNat).flatMap λk=>if QK (JF s cE l) k=X then Do n (JF s cE (l++[k]))else[])) (a:=0) (b:=(s.g.bi.length:Int)) (s:=s) U (Qa r).symm (λi C D=>by
    have J:∀F,Cr s ((AY (i+1).toNat).flatMap F)=Cr (Cr s ((AY i.toNat).flatMap F)) (F i):=by
     intro F;rw[XU,HL C,List.flatMap_append];simp
    rw [J];generalize (AY i.toNat).flatMap (λk=>if QK (JF s cE l) k=true then Do n (JF s cE (l++[k]))else[])=L;have E:=ZO r L;rw[Ne (by rw[o4];exact D)];have K:idx (Cr s L).g.bi i=some (AA s.g.bi i):=AD C D;have M:idx (Cr s L).eg.bi (l.length:Int)=some (AA s.eg.bi l.length):=AD e w;have N:DJ (Cr s L) l i=some (s.ec&&l.any λx=>decide (i=x)):=nc (Cr s L) U i;have key:((Al [] l).bind λh=>
      (Al h [i]).bind λj=>
      (Ch m (Cr s L) cE j).bind λo=>
      some (.next (o,AZ (i+1)):B3 (An×Int) An))=some (.next (Cr (Cr s L) (Do n (JF s cE (l++[i]))),i+1)):=by
     have G:=bR n (Cr s L) cE (l++[i]) ⟨hf.pn,hf.pe,hf.ends,hf.kinds,hf.small⟩ E z (by show(l++[i]).length+n=s.p.bi.length;rw[aE];simp;omega) m U;have O:Do n (JF (Cr s L) cE (l++[i]))=Do n (JF s cE (l++[i])):=RN n (JF s cE (l++[i])) _;rw[O]at G;rw[BL b_,bs,AS a?,bs,G,bs,Ap U U]
    rw [K,bs,M,bs,N,key];simp only[bs];rw[AD d.1 H,AD d.2.2.1 I,Ap (n:=i+1) U U];simp only[bs];have y:QK (JF s cE l) i=(((decide (AA s.eg.bi l.length<0)||decide (AA s.eg.bi l.length=i))&&decide (AA s.g.bi i=⟨(AA s.p.bi l.length).em,AA cE (AA s.p.bi l.length).fb,AA cE (AA s.p.bi l.length).To⟩))&&!(s.ec&&l.any λx=>decide (i=x))):=rfl;have P:decide (AA s.g.bi i=⟨(AA s.p.bi l.length).em,AA cE (AA s.p.bi l.length).fb,AA cE (AA s.p.bi l.length).To⟩)=(decide ((AA s.p.bi l.length).em=(AA s.g.bi i).em)&&decide ((AA s.g.bi i).fb=AA cE (AA s.p.bi l.length).fb)&&decide ((AA s.g.bi i).To=AA cE (AA s.p.bi l.length).To)):=by
     rw [Bool.eq_iff_iff];simp[o4];generalize AA s.g.bi i=x;obtain⟨x1,ζ,δ⟩:=x;simp;constructor
     .rintro⟨a,b,c⟩;exact⟨⟨a.symm,b⟩,c⟩
     .rintro⟨⟨a,b⟩,c⟩;exact⟨a.symm,b,c⟩
    have Q:(decide (AA s.eg.bi l.length<0)||decide (AA s.eg.bi l.length=i))=!(decide (0<=AA s.eg.bi l.length)&&!decide (AA s.eg.bi l.length=i)):=by
     rw [Bool.not_and,Bool.not_not];congr 1;rw[<-decide_not];exact decide_eq_decide.2 U
    rw [y,P,Q];generalize Do n (JF s cE (l++[i]))=A;generalize decide (0<=AA s.eg.bi l.length)=c1;generalize decide (AA s.eg.bi l.length=i)=c2;generalize decide ((AA s.p.bi l.length).em=(AA s.g.bi i).em)=c3;generalize decide ((AA s.g.bi i).fb=AA cE (AA s.p.bi l.length).fb)=c4;generalize decide ((AA s.g.bi i).To=AA cE (AA s.p.bi l.length).To)=c5;generalize (s.ec&&l.any λx=>decide (i=x))=c6;cases c1<;>cases c2<;>cases c3<;>cases c4<;>cases c5<;>cases c6<;>first|rfl|(simp[Qa E];try rfl)) (by rw[QQ (by simp[Cr])]),CB,z!,Do]
   rfl
end Go.Sf.Sc
namespace Go.Sf.Sc
open Go Go.Sf
def T6(s:An)(l:Fp)(i k:Int):Bool:=decide (AA s.g.bi k=⟨(AA s.p.bi i).em,AA l (AA s.p.bi i).fb,AA l (AA s.p.bi i).To⟩)
def Tb(s:An)(l:Fp)(i:Int):Bool:=(decide ((AA s.p.bi i).fb<l.length)&&decide ((AA s.p.bi i).To<l.length))&&!(AY s.g.bi.length).any (T6 s l i)
variable{s:An}{l:Fp}
theorem xB(hf:M6 (JF s [] [])):GE s l=Y (!fq (Tb s l) 0 s.p.bi.length):=by
 unfold GE;rw[BO (Tb s l) T]
 .cases fq (Tb s l) 0 s.p.bi.length<;>rfl
 .intro i d e _;have he:=hf.ends _ (AG (l:=s.p.bi) d e);rw[AD d e,bs];unfold Tb;by_cases j:(AA s.p.bi i).fb<l.length
  .by_cases hT:(AA s.p.bi i).To<l.length
   .rw[QQ an,BQ (λk=>(AY k.toNat).any (T6 s l i)) U o?,bs,z!,decide_eq_true j,decide_eq_true hT]
    .grind
    .intro k h m;rw[AD h m,bs,HL h,B!];have o:T6 s l i k=(decide ((AA s.p.bi i).em=(AA s.g.bi k).em)&&decide ((AA s.g.bi k).fb=AA l (AA s.p.bi i).fb)&&decide ((AA s.g.bi k).To=AA l (AA s.p.bi i).To)):=by
      unfold T6;rw[w!];simp[o4];generalize AA s.g.bi k=x;obtain⟨x1,q,r⟩:=x;simp;constructor
      .rintro⟨a,b,c⟩;exact⟨⟨a.symm,b⟩,c⟩
      .rintro⟨⟨a,b⟩,c⟩;exact⟨a.symm,b,c⟩
     rw [AD he.1 j,AD he.2.2.1 hT];simp only[B?,C_,y!,bs];rw[o];generalize (AY k.toNat).any (T6 s l i)=c1;generalize decide ((AA s.p.bi i).em=(AA s.g.bi k).em)=c3;generalize decide ((AA s.g.bi k).fb=AA l (AA s.p.bi i).fb)=c4;generalize decide ((AA s.g.bi k).To=AA l (AA s.p.bi i).To)=c5;cases c1<;>cases c3<;>cases c4<;>cases c5<;>rfl
   grind
  grind
theorem w8(hf:M6 (JF s [] []))(h:fq (Tb s l) 0 s.p.bi.length=X):∃i,jc (JF s l []) i:=by
 rw [Dv]at h;obtain⟨i,c,d,h⟩:=h;unfold Tb at h;rw[gR,gR,o4,o4,y?,List.any_eq_false]at h;have he:=hf.ends _ (AG (l:=s.p.bi) c d);refine⟨i,c,d,he.1,h.1.1,he.2.2.1,h.1.2,λk j m=>?_⟩;have:=h.2 k (Bs.2 ⟨j,m⟩);have e:T6 s l i k=T:=by rw[<-Bool.not_eq_true];exact this
 rw [YF];show((decide (AA s.eg.bi i<0)||decide (AA s.eg.bi i=k))&&T6 s l i k)=T;rw[e,y_]
end Go.Sf.Sc
namespace Go.Sf.Sc
open Go Go.Sf
theorem cq:∀(n:Nat)(f:AL)(o:List bn),Ei n (Tv f o)=Ei n f
 |0,f,o=>RN _ f o|n+1,f,o=>by
  rw [Ei,Ei];refine congrArg (λF=>(AY f.g.az.length).flatMap F) (funext λk=>?_);have:=cq n {f with cE:=f.cE++[k]} o
  grind [QM,Ei,Tv]
theorem bS:∀(n:Nat)(s:An)(l:Fp),Eh s.t->M6 (JF s [] [])->YO s->l.length+n=s.p.az.length->∀m,n+1<=m->Ci m s l=Y (Cr s (Ei n (JF s l [])))
 |n,s,l,O,hf,q,J,m,y=>by
  obtain ⟨m,rfl⟩:∃k,m=k+1:=⟨m-1,U⟩;have K:=hf.small;have δ:s.p.az.length<=1000:=K.1;have Z:s.g.az.length<=1000:=K.2.2.1;have h0:=q.m0;have h1:=q.m1;have h2:=q.out;rw[Ci];by_cases D:(s.Aaj.length:Int)=s.mo+1
  .grind[ZN]
  rw [QQ an,xB hf];cases hd:fq (Tb s l) 0 s.p.bi.length
  case true=>
   grind [w8,dP,JF,Qa]
  simp only[bs,Bool.not_false,x?,x_,if_false]
  match n,J,y with
  |0,J,y=>
   rw [Ne an,Option.bind_fun_some,Ei];exact Gp (s.p.bi.length+1) λm y=>bR s.p.bi.length s l [] hf q U V m U
  |n+1,J,y=>
   have v:(l.length:Int)<s.p.az.length:=U
   have j:(0:Int)<=l.length:=U
   have E:(l.length:Int)<s.eg.az.length:=by
    have:s.eg.az.length=s.p.az.length:=hf.pn;omega
   have P:(IB s.t).length=s.t.az.length:=by unfold IB;rw[a6,Am]
   have c:=hf.kinds _ (AG (l:=s.p.az) j v);have G:AA s.p.az l.length<s.t.az.length:=by rw[<-P];exact c.2.1
   have d:AA (IB s.t) (AA s.p.az l.length)=N3 s.t (AA s.p.az l.length):=FH (N3 s.t) c.1 G;rw[QQ an];rw[Qe (λi=>Cr s ((AY i.toNat).flatMap λk=>if QM (JF s l []) k=X then Ei n (JF s (l++[k]) [])else[])) (a:=0) (b:=(s.g.az.length:Int)) (s:=s) U (Qa q).symm (λi z B=>by
    have Q:∀F,Cr s ((AY (i+1).toNat).flatMap F)=Cr (Cr s ((AY i.toNat).flatMap F)) (F i):=by
     intro F;rw[XU,HL z,List.flatMap_append];simp
    rw [Q];generalize (AY i.toNat).flatMap (λk=>if QM (JF s l []) k=true then Ei n (JF s (l++[k]) [])else[])=L;have M:=ZO q L;rw[Ne (by rw[o4];exact B)];have o:=c.2.2 _ (AG (l:=s.g.az) z B);have w:AA s.g.az i<s.t.az.length:=by
     have h:=o.2;have e:AA (JF s [] []).is (AA s.p.az l.length)=N3 s.t (AA s.p.az l.length):=d;rw[e]at h;unfold N3 at h
     rwa [a6,Am]at h
    have H:HQ (Cr s L).t (AA s.g.az i) (AA s.p.az l.length)=some (isB s.t (AA s.g.az i) (AA s.p.az l.length)):=Wy O o.1 w c.1;have R:idx (Cr s L).g.az i=some (AA s.g.az i):=AD z B;have S:idx (Cr s L).eg.az (l.length:Int)=some (AA s.eg.az l.length):=AD j E;have θ:DJ (Cr s L) l i=some (s.ec&&l.any λx=>decide (i=x)):=nc (Cr s L) U i;have ε:idx (Cr s L).p.az (l.length:Int)=some (AA s.p.az l.length):=AD j v;have key:((Al [] l).bind λC=>
      (Al C [i]).bind λr=>
      (Ci m (Cr s L) r).bind λu=>
      some (.next (u,AZ (i+1)):B3 (An×Int) An))=some (.next (Cr (Cr s L) (Ei n (JF s (l++[i]) [])),i+1)):=by
     have N:=bS n (Cr s L) (l++[i]) O ⟨hf.pn,hf.pe,hf.ends,hf.kinds,hf.small⟩ M (by show(l++[i]).length+n=s.p.az.length;rw[aE];simp;omega) m U;have κ:Ei n (JF (Cr s L) (l++[i]) [])=Ei n (JF s (l++[i]) []):=cq n (JF s (l++[i]) []) _;rw[κ]at N;rw[BL b_,bs,AS a?,bs,N,bs,Ap U U]
    rw [S,bs,θ,R,ε,key];simp only[bs];rw[H,Ap (n:=i+1) U U];simp only[bs];have I:QM (JF s l []) i=((decide (AA s.eg.az l.length<0)||decide (AA s.eg.az l.length=i))&&AA (AA (IB s.t) (AA s.p.az l.length)) (AA s.g.az i)&&!(s.ec&&l.any λx=>decide (i=x))):=rfl;have η:AA (AA (IB s.t) (AA s.p.az l.length)) (AA s.g.az i)=isB s.t (AA s.g.az i) (AA s.p.az l.length):=by
     rw [d];exact FH (λk=>isB s.t k (AA s.p.az l.length)) o.1 w
    have ζ:(decide (AA s.eg.az l.length<0)||decide (AA s.eg.az l.length=i))=!(decide (0<=AA s.eg.az l.length)&&!decide (AA s.eg.az l.length=i)):=by
     rw [Bool.not_and,Bool.not_not];congr 1;rw[<-decide_not];exact decide_eq_decide.2 U
    rw [I,η,ζ];generalize Ei n (JF s (l++[i]) [])=A;generalize decide (0<=AA s.eg.az l.length)=c1;generalize decide (AA s.eg.az l.length=i)=c2;generalize isB s.t (AA s.g.az i) (AA s.p.az l.length)=c3;generalize (s.ec&&l.any λx=>decide (i=x))=c6;cases c1<;>cases c2<;>cases c3<;>cases c6<;>first|rfl|(simp[Qa M];try rfl)) (by rw[QQ (by simp[Cr])]),CB,z!,Ei]
   rfl
end Go.Sf.Sc
namespace Go.Sf.Sc
open Go Go.Sf
def FF(t:AC)(p g:bk)(pa:bn)(inj:Bool):AL:=⟨p,g,IB t,pa,inj,5001,[],[],[]⟩
def Gl(t:AC)(p g:bk)(pa:bn)(inj:Bool):List bn:=(Ei p.az.length (FF t p g pa inj)).take 5001
variable{t:AC}{p g:bk}
theorem uD{pa:bn}{inj:Bool}(d:Ao t)(hv:(A0 t).2=0)(c:M6 (FF t p g pa inj)):GU t p g pa inj 5001=Y (Gl t p g pa inj):=by
 unfold GU;rw[kh d (Ck hv) hv,bs];have h:=nA (f:=FF t p g pa inj) c ⟨by show(0:Int)<=5001;omega,by show(5001:Int)<=10000;omega,by show((0:Nat):Int)<=5001;omega⟩ rfl rfl;rw[cl _ _ c rfl]at h;have e:AL.mk p g (IB t) pa inj 5001 [] [] []=FF t p g pa inj:=rfl;rw[e,h];rfl
theorem sY{pa:bn}{inj:Bool}(hv:(A0 t).2=0)(c:M6 (FF t p g pa inj)):OI t p g pa inj 5000=Y (Gl t p g pa inj):=by
 unfold OI;have h:KA ⟨t,p,g,pa,inj,5000,[]⟩ []=Y (Cr ⟨t,p,g,pa,inj,5000,[]⟩ (Ei p.az.length (FF t p g pa inj))):=
  Gp (p.az.length+1) λm d=>bS p.az.length ⟨t,p,g,pa,inj,5000,[]⟩ [] (Ck hv) c ⟨by show(0:Int)<=5000;omega,by show(5000:Int)<=9999;omega,by show((0:Nat):Int)<=5000+1;omega⟩ r! m d
 rw [h];rfl
end Go.Sf.Sc
namespace Go.Sf.Sc
open Go Go.Sf
def Xc(n k:Int):Bool:=decide (k< -1)||decide (n<=k)
def SE(l:Fp)(n:Int):Int:=if l.any (Xc n)=X then 6 else 0
theorem nH(l:Fp)(n:Int):IM l n=Y (SE l n):=by grind[IM,SE,Nr,Xc,Sv]
variable{l:Fp}
theorem e8{c:Int}(n:Int)(h:(l.length:Int)=c):KN l c n=Y (SE l n):=by
 unfold KN SE;rw[QQ (by simp[h]),BO (λi=>Xc n (AA l i)) 6]
 .have e:fq (λi=>Xc n (AA l i)) 0 l.length=l.any (Xc n):=by
   rw [w!,Dv,C!]
   grind [AG,Ay]
  rw [e];cases l.any (Xc n)<;>rfl
 grind [AD,Xc,AA]
end Go.Sf.Sc
namespace Go.Sf.Sc
open Go Go.Sf
theorem eV(t:AC)(g:bk):Gb t g=Y (CW t g):=by grind[Gb,CW,Lk,Sv,Ll,Ze]
def Ds(t:AC)(p g:bk):Int:=if(A0 t).2≠0 then(A0 t).2 else if B5 p≠0 then B5 p else if B5 g≠0 then B5 g else if(CW t p&&CW t g)=X then 0 else 13
variable{t:AC}
theorem Ww(hf:Ao t)(p g:bk):FR t p g=Y (Ds t p g):=by
 unfold FR Ds;rw[Pb hf,bs];refine Dy λ_=>?_;have k:eE (ρ:=Int) (λ(j:Int)(_:Unit)=>
   (idx [p,g] j).bind λh=>
   (Dk h).bind λe=>
   if (!decide (e=0))=X then
   Y (.ret e)
   else
   Y (.next ())) 0 ([p,g].length:Int) ()=Y (if B5 p≠0 then .inr (B5 p)else if B5 g≠0 then .inr (B5 g)else .inl ()):=by
  show sr _ 2 0 ()=_;rw[FW,show idx [p,g] 0=Y p from rfl,bs,OF,bs];by_cases c:B5 p=0
  .rw[QQ (by simp[c]),QQ (by simp[c])];show sr _ 1 (0+1) ()=_;rw[FW,show idx [p,g] (0+1)=Y g from rfl,bs,OF,bs];by_cases d:B5 g=0
   .rw[QQ (by simp[d]),QQ (by simp[d])];rfl
   .rw[Ne (by simp[d]),Ne d]
  .rw[Ne (by simp[c]),Ne c]
 rw [k];by_cases c:B5 p=0
 .by_cases d:B5 g=0
  .simp[c,d,CB];rw[eV,eV,bs];cases CW t p<;>cases CW t g<;>rfl
  .simp[c,d,not_false_eq_true,Vf]
 .simp[c,not_false_eq_true,Vf]
theorem X7(hf:Ao t)(p g:bk):Jr t p g=Y (Ds t p g):=by
 unfold Jr Ds;rw[RE hf,bs];refine Dy λ_=>?_;rw[OH,bs];refine Dy λc=>?_;rw[OH,bs];refine Dy λd=>?_
 grind [Z0,Dt,CW]
end Go.Sf.Sc
namespace Go.Sf.Sc
open Go Go.Sf
variable{t:AC}{p g:bk}
theorem Xj{pa:bn}{inj:Bool}(h:Ds t p g=0)(q:pa.az.length=p.az.length)(r:pa.bi.length=p.bi.length):(A0 t).2=0/\M6 (FF t p g pa inj):=by
 unfold Ds at h;by_cases hv:(A0 t).2=0
 .rw[QQ t!]at h;by_cases m:B5 p=0
  .rw[QQ (by simp[m])]at h;by_cases o:B5 g=0
   .rw[QQ j_]at h;by_cases c:(CW t p&&CW t g)=X
    .rw[gR]at c;have op:=Dt m;have j:=Dt o;have tp:=Cw op c.1;have v:=Cw j c.2;have w:(IB t).length=t.az.length:=by unfold IB;rw[a6,Am]
     refine ⟨hv,q,r,λe he=>?_,λn u=>?_,Nat.le_trans op.cE U,Nat.le_trans op.c9 U,Nat.le_trans j.cE U,Nat.le_trans j.c9 U⟩
     .have:=op.fit e he;exact⟨this.2.1.1,this.2.1.2,this.2.2.1,this.2.2.2⟩
     .have:=tp.1 n u;refine⟨this.1,by show n<((IB t).length:Int);rw[w];exact this.2,λk d=>?_⟩;have d:=v.1 k d;refine⟨d.1,?_⟩;show k<((AA (IB t) n).length:Int)
      grind [IB,FH,N3,a6,Am]
    grind
   grind
  grind
 grind
def Te(t:AC)(p g:bk)(pa:bn)(inj:Bool):List bn×Int:=
 if Ds t p g≠0 then([],Ds t p g)else if¬(pa.az.length=p.az.length/\pa.bi.length=p.bi.length)then([],20)else
 if SE pa.az g.az.length≠0 then([],SE pa.az g.az.length)else if SE pa.bi g.bi.length≠0 then([],SE pa.bi g.bi.length)else
 if 5000<(Gl t p g pa inj).length then([],3)else(Gl t p g pa inj,0)
theorem p7(hf:Ao t)(p g:bk)(pa:bn)(inj:Bool):Ho t p g pa inj=Y (Te t p g pa inj):=by
 unfold Ho Te;rw[Ww hf,bs];refine Dd λd=>?_;refine QB (by simp[y?,decide_eq_false_iff_not];omega) λc=>?_;have c:=Classical.not_not.1 c;rw[nH,bs];refine Dd λe=>?_;rw[nH,bs];refine Dd λh=>?_
 grind [Xj,Ja,uD,Gl]
theorem qM(hf:Ao t)(p g:bk)(pa:bn)(inj:Bool):ME t p g pa inj=Y (Te t p g pa inj):=by
 unfold ME Te;rw[X7 hf,bs];refine Dd λd=>?_;refine QB (by simp[y?,decide_eq_false_iff_not];omega) λc=>?_;have c:=Classical.not_not.1 c;rw[e8 _ U,bs];refine Dd λe=>?_;rw[e8 _ U,bs];refine Dd λh=>?_
 grind [Xj,sY,Gl]
def JT(p:bk):bn:=⟨B_ p.az.length (-1),B_ p.bi.length (-1)⟩
variable{n:Nat}{i:Int}
theorem fR(c:0<=i)(d:i<n):BB (B_ i.toNat (-1:Int)++B_ (n-i.toNat) 0) i (-1)=B_ (i+1).toNat (-1)++B_ (n-(i+1).toNat) 0:=by
 unfold BB;rw[List.set_append_right _ _ V,show n-i.toNat=(n-(i+1).toNat)+1 by omega,List.replicate_succ,List.length_replicate,Nat.sub_self,List.set_cons_zero,show(i+1).toNat=i.toNat+1 by omega,List.replicate_succ',ae];rfl
theorem qP(h:p.az.length<=100)(j:p.bi.length<=100):Ov p=Y (JT p):=by
 unfold Ov;have m1:FA (p.az.length:Int) (0:Int)=Y (B_ p.az.length 0):=by unfold FA;rw[Ne U,z!]
 have e:FA (p.bi.length:Int) (0:Int)=Y (B_ p.bi.length 0):=by unfold FA;rw[Ne U,z!]
 rw [m1,bs,e,bs];rw[Qe (λi=>(⟨B_ i.toNat (-1)++B_ (p.az.length-i.toNat) 0,B_ p.bi.length 0⟩:bn)) (a:=0) (b:=p.az.length) U V,CB]
 .dsimp only;rw[Qe (λi=>(⟨B_ p.az.length (-1),B_ i.toNat (-1)++B_ (p.bi.length-i.toNat) 0⟩:bn)) (a:=0) (b:=p.bi.length) U V,CB]
  .simp[JT]
  .intro i c d;dsimp only;rw[Ne an,AD c an,bs,fR c d,Ap (n:=i+1) U U]
  .dsimp only;rw[QQ V]
 .intro i c d;dsimp only;rw[Ne an,AD c an,bs,fR c d,Ap (n:=i+1) U U]
 .dsimp only;rw[QQ V]
end Go.Sf.Sc
