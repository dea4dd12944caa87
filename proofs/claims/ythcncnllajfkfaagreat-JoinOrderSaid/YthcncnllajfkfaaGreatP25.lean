/- Plain lemmas: what the functions of the program and of the reference compute. -/
import Derived.Test.YthcncnllajfkfaaGreatP1
import Derived.Test.YthcncnllajfkfaaGreatEval
set_option linter.all false
set_option maxRecDepth 100000
open Option renaming some->Y
open Bool renaming true->X,false->T
open Bool renaming not_eq_false'->v?,eq_iff_iff->w_,not_eq_true->w!,not_true->w?,false_eq_true->x_,false_and->x!,and_self->x?,and_false->y_,or_false->y!,not_eq_true'->y?
open Classical renaming propDecidable->z_,not_not->z!
open Int renaming le_refl->z?,toNat_natCast->A_
open List renaming take_of_length_le->A',append_nil->A!,take_append_of_le_length->A?,flatMap_append->B_,take_left->B',replicate->B!,ext_getElem->B?,any_append->C_,any_cons->C',any_nil->C!,mem_filter->C?,any_eq_true->D_,flatMap_eq_nil_iff->D'
namespace Go.Sf.Sc
open Go Go.Sf
variable{t:AC}{c:d5}
theorem ua(hf:A3 t)(p:d6)(e:EK c):Dq t p c=Y (JS t p c):=by
 by_cases d:(BD t).2=0
 .exact nY hf d p e
 .unfold Dq JS;rw[Ym hf,bs];refine EN λh=>?_;exfalso;unfold FD at h;rw[ac d]at h;exact d h
end Go.Sf.Sc
namespace Go.Sf.Sc
open Go Go.Sf
variable{α:Type}
theorem je[Inhabited α](b:α->α->Bool){l m:List α}(hb:∀x∈l,∀y∈m,(b x y=X↔x=y))(d:l.length=m.length):kq (λi=>!b (AA l i) (AA m i)) 0 l.length=T↔l=m:=by
 rw [B0];constructor
 .intro h;refine mO d (λi i1 i2=>?_);have:=h i i1 i2;rw[v?]at this;exact(hb _ (AF i1 i2) _ (AF i1 U)).1 this
 .rintro rfl i i1 i2;rw[v?];exact(hb _ (AF i1 i2) _ (AF i1 i2)).2 rfl
theorem t6[Inhabited α][DecidableEq α]{l m:List α}(q:l.length=m.length){k:Unit->K1}{j:Bool->K1}:ej (ij (ρ:=Bool) (λ(o:Int)(_:Unit)=>
 (idx l o).bind λd=>
 (idx m o).bind λe=>
 if (!decide (d=e))=X then
 Y (.ret T)
 else
 Y (.next ())) 0 (l.length:Int) ()) k j=if l=m then k ()else j T:=by
 rw [Bo (λi=>!decide (AA l i=AA m i)) T]
 .have:=je (λx y:α=>decide (x=y)) (l:=l) (m:=m) (λ_ _ _ _=>decide_eq_true_iff) q;by_cases h:l=m
  .rw[this.2 h,ac h];rfl
  .rw[ae h];cases r:kq (λi=>!decide (AA l i=AA m i)) 0 l.length
   .exact absurd (this.1 r) h
   .rfl
 .intro i i1 i2 _;rw[AD i1 i2,bs,AD i1 U,bs,I7]
theorem Rw[Inhabited α][DecidableEq α](l m:List α):(if(!decide ((l.length:Int)=(m.length:Int)))=X then
 Y T
 else
 ej (ij (ρ:=Bool) (λ(q:Int)(_:Unit)=>
 (idx l q).bind λd=>
 (idx m q).bind λj=>
 if (!decide (d=j))=X then
 Y (.ret T)
 else
 Y (.next ())) 0 (l.length:Int) ()) (λ_=>
 Y X) (λr=>Y r))=Y (decide (l=m)):=by
 by_cases o:l.length=m.length
 .rw[ae to,t6 o];by_cases h:l=m
  .rw[ac h,decide_eq_true h]
  .rw[ae h,decide_eq_false h]
 .rw[ac an,decide_eq_false (λe=>o (by rw[e]))]
theorem PX(l m:Fp):slices_Equal_int l m=Y (decide (l=m)):=Rw l m
theorem fS(l m:List Bt):GU l m=Y (decide (l=m)):=Rw l m
theorem ny(l m:List CA):H6 l m=Y (decide (l=m)):=Rw l m
theorem n7(l m:List Test):H7 l m=Y (decide (l=m)):=Rw l m
theorem ur(l m:Fp):NO l m=Y (decide (l=m)):=Rw l m
theorem WW(a b:d4):FN a b=Y (decide (a=b)):=by
 unfold FN;rw[PX,PX];obtain⟨a1,a2⟩:=a;obtain⟨e,j⟩:=b;by_cases h:a1=e<;>by_cases d:a2=j<;>simp[h,d]
noncomputable def Wm(a b:d5):Bool:=@decide (a=b) (z_ _)
theorem ZK{a b:d5}:Wm a b=X↔a=b:=by
 unfold Wm;exact@decide_eq_true_iff _ (z_ _)
noncomputable def Z4(l m:List d5):Bool:=@decide (l=m) (z_ _)
theorem WE{l m:List d5}:Z4 l m=X↔l=m:=by
 unfold Z4;exact@decide_eq_true_iff _ (z_ _)
theorem tu(a b:d5):Wm a b=(decide (a.kl=b.kl)&&decide (a.Map=b.Map)&&decide (a.d6=b.d6)&&Z4 a.fl b.fl):=by
 rw [w_,ZK];obtain⟨a1,a2,a3,m⟩:=a;obtain⟨o,q,r,u⟩:=b;simp only[pc,sx,WE,d5.mk.injEq];constructor
 .rintro⟨d,e,h,j⟩;exact⟨⟨⟨d,h⟩,j⟩,e⟩
 .rintro⟨⟨⟨d,h⟩,j⟩,e⟩;exact⟨d,e,h,j⟩
theorem nJ{l m:List d5}{f:d5->d5->K1}(hf:∀x∈l,∀y,f x y=Y (Wm x y))(r:l.length=m.length):ej (ij (ρ:=Bool) (λ(q:Int)(_:Unit)=>
 (idx l q).bind λd=>
 (idx m q).bind λe=>
 (f d e).bind λj=>
 if (!j)=X then
 Y (.ret T)
 else
 Y (.next ())) 0 (l.length:Int) ()) (λ_=>
 Y X) (λu=>Y u)=Y (Z4 l m):=by
 rw [Bo (λi=>!Wm (AA l i) (AA m i)) T]
 .have:=je Wm (l:=l) (m:=m) (λ_ _ _ _=>ZK) r;cases o:kq (λi=>!Wm (AA l i) (AA m i)) 0 l.length
  .rw[WE.2 (this.1 o)];rfl
  .have:Z4 l m=T:=by
    rw [<-w!,WE];intro h;rw[this.2 h]at o;cases o
   rw [this];rfl
 .intro i i1 i2 _;rw[AD i1 i2,bs,AD i1 U,bs,hf _ (AF i1 i2),bs,I7]
theorem tw{l m:List d5}(h:¬l.length=m.length):Z4 l m=T:=by
 rw [<-w!,WE];exact λe=>h (by rw[e])
theorem nq:∀(N:Nat)(a b:d5),SizeOf.sizeOf a<=N->∀n,N<=n->C1 n a b=Y (Wm a b)
 |0,a,_,h,_,_=>by have:=Dx a;omega|N+1,a,b,h,n,G=>by
  obtain ⟨n,rfl⟩:∃m,n=m+1:=⟨n-1,U⟩;have v:CY a.fl b.fl (C1 n)=Y (Z4 a.fl b.fl):=by
   unfold CY;by_cases d:a.fl.length=b.fl.length
   .rw[ae (by simp[d]),nJ (λx u y=>by have:=Ed u;exact nq N x y U n U) d]
   .rw[ac an,tw d]
  rw [C1,WW,PX,fS,ny,n7,v,tu];have w:decide (a.d6=b.d6)=(decide (a.d6.em=b.d6.em)&&decide (a.d6.d3.ci=b.d6.d3.ci)&&decide (a.d6.d3.c9=b.d6.d3.c9)&&decide (a.d6.ei=b.d6.ei)&&decide (a.d6.kg=b.d6.kg)):=by
   rw [w_];simp only[pc,sx];obtain⟨_,_,_,⟨⟨a1,a2⟩,a3,z,A⟩⟩:=a;obtain⟨_,_,_,⟨⟨B,C⟩,D,E,F⟩⟩:=b;simp only[d6.mk.injEq,d3.mk.injEq];constructor
   .rintro⟨⟨e,j⟩,o,q,r⟩;exact⟨⟨⟨⟨q,e⟩,j⟩,o⟩,r⟩
   .rintro⟨⟨⟨⟨q,e⟩,j⟩,o⟩,r⟩;exact⟨⟨e,j⟩,o,q,r⟩
  rw [w];generalize decide (a.kl=b.kl)=c1;generalize decide (a.Map=b.Map)=c2;generalize decide (a.d6.em=b.d6.em)=c3;generalize decide (a.d6.d3.ci=b.d6.d3.ci)=c4;generalize decide (a.d6.d3.c9=b.d6.d3.c9)=c5;generalize decide (a.d6.ei=b.d6.ei)=c6;generalize decide (a.d6.kg=b.d6.kg)=c7;generalize Z4 a.fl b.fl=c8;cases c1
  .rfl
  cases c2
  .rfl
  cases c3
  .rfl
  cases c4
  .rfl
  cases c5
  .rfl
  cases c6
  .rfl
  cases c7
  .rfl
  rfl
theorem uj(a b:d5):NA a b=Y (Wm a b):=D0 (SizeOf.sizeOf a) λn d=>nq _ a b (az _) n d
end Go.Sf.Sc
namespace Go.Sf.Sc
open Go Go.Sf
mutual
def Dv:d5->Nat
 |⟨_,kids,_,_⟩=>1+TF kids
def TF:List d5->Nat
 |[]=>0|k::l=>Dv k+TF l
end
mutual
def dep:d5->Nat
 |⟨k,kids,_,_⟩=>(if k=5 then 1 else 0)+wm kids
def wm:List d5->Nat
 |[]=>0|k::l=>max (dep k) (wm l)
end
theorem VE(c:d5):Dv c=1+TF c.fl:=by cases c;rfl
variable{k:Int}
theorem tq{l:List d5}(d:0<=k)(e:k<l.length):l.drop k.toNat=AA l k::l.drop (k+1).toNat:=by
 rw [show(k+1).toNat=k.toNat+1 by omega,List.drop_eq_getElem_cons U];unfold AA;rw[List.getD_eq_getElem?_getD,List.getElem?_eq_getElem U];rfl
theorem Z7:∀(N:Nat)(c:d5),SizeOf.sizeOf c<=N->(AI c).Sm->∀r0:Int,0<=r0->r0<=1000->∃r,(∀n,N<=n->DA n c r0=Y r)/\-1<=r/\r<=r0-1/\(0<=r->EK c/\(Dv c:Int)+r<=r0)
 |0,c,h,_,_,_,_=>by have:=Dx c;omega|N+1,c,h,κ,r0,m0,m1=>by
  obtain ⟨L,M,D⟩:=ib κ;obtain⟨O,z,P⟩:=TZ c.d6;obtain⟨Q,F,R⟩:=ZM L;have step:∀n,N+1<=n->∃m,n=m+1/\N<=m:=λn d=>⟨n-1,U,U⟩;cases O
  .refine⟨-1,λn d=>?_,U,U,λh=>U⟩;obtain⟨n,rfl,_⟩:=step n d;rw[DA,z];rfl
  cases Q
  .refine⟨-1,λn d=>?_,U,U,λh=>U⟩;obtain⟨n,rfl,_⟩:=step n d;rw[DA,z,bs,F];rfl
  have loop:∀(m:Nat)(k left:Int),0<=k->k+m=c.fl.length->-1<=left->left<=1000->∃e w,(∀n,N<=n->MP (ρ:=Int) (λ(q:Int×Int)=>
    if ((decide (q.2<(c.fl.length:Int)))&&(decide (0<=q.1)))=X then
    (idx c.fl q.2).bind λA=>
    (DA n A q.1).bind λB=>
    Y (.next (B,AJ (q.2+1)))
    else
    Y (.brk (q.1,q.2))) (left,k) (.inl (e,w)))/\-1<=e/\e<=left/\(0<=e->(∀j,k<=j->j<c.fl.length->EK (AA c.fl j))/\(TF (c.fl.drop k.toNat):Int)+e<=left):=by
   intro m
   induction m with
   |zero=>
    intro k left y I E l1;refine⟨left,k,λn d=>.brk ?_,E,U,λ_=>⟨λj C x=>U,?_⟩⟩
    .rw[ae an]
    .rw[List.drop_of_length_le U,TF];omega
   |succ m ε=>
    intro k left y I E l1;by_cases J:0<=left
    .have o:=AF (l:=c.fl) y U;have:=Ed o;obtain⟨r,S,θ,η,H⟩:=Z7 N _ U (D _ o) left J l1;obtain⟨e,w,a1,a2,a3,v⟩:=ε (k+1) r U U θ U;refine⟨e,w,λn d=>.next (s':=(r,k+1)) ?_ (a1 n d),a2,U,λu=>⟨λj C x=>?_,?_⟩⟩
     .rw[ac an,AD y U,bs,S n d,bs,AT U U]
     .by_cases K:j=k
      .subst K;exact(H U).1
      .exact(v u).1 j U x
     .have z:=(H U).2;have F:=(v u).2;rw[tq y U,TF];omega
    .refine⟨left,k,λn d=>.brk ?_,E,U,λh=>U⟩;rw[ae an]
  obtain ⟨e,w,a1,a2,a3,v⟩:=loop c.fl.length 0 (r0-1) U U U U;refine⟨e,λn d=>?_,a2,a3,λu=>⟨.mk c (P rfl) (R rfl) (λk D=>?_),?_⟩⟩
  .obtain⟨n,rfl,G⟩:=step n d;rw[DA,z,bs,F];simp only[bs,w?,x_,if_false];rw[AT (n:=r0-1) U U,(a1 n G).eq,B3]
  .obtain⟨j,C,x,rfl⟩:=BT D;exact(v u).1 j C x
  .have:=(v u).2;rw[show(0:Int).toNat=0 from rfl,List.drop_zero]at this;rw[VE];omega
variable{c:d5}
theorem mf(d:(AI c).Sm):∃b,Ku c=Y b/\(b=X->EK c/\Dv c<=40):=by
 obtain ⟨r,j,_,_,m⟩:=Z7 (SizeOf.sizeOf c) c (az _) d 40 U U;have e:Rj c 40=Y r:=D0 (SizeOf.sizeOf c) j;unfold Ku;rw[e];exact⟨_,rfl,λh=>by have:=m b?;exact⟨this.1,by have:=this.2;simp at h;omega⟩⟩
theorem XD:∀{l:List d5}{k:d5},k∈l->Dv k<=TF l
 |x::l,k,h=>by
  rw [TF];rcases List.mem_cons.1 h with rfl|h
  .omega
  .have:=XD h;omega
end Go.Sf.Sc
namespace Go.Sf.Sc
open Go Go.Sf
class PL(α:Type)where
 at_:α->Int->Int
 ok:α->Nat->Prop
instance:PL Fp:=⟨AA,λl n=>l.length=n⟩
instance:PL (Option Fp):=⟨λo i=>match o with|none=>-1|some l=>AA l i,λo n=>match o with|none=>True|some l=>l.length=n⟩
structure Ng(f:AM):Prop where
 pn:PL.ok f.fu.ci f.p.ci.length
 pe:PL.ok f.fu.c9 f.p.c9.length
 ends:∀e∈f.p.c9,0≤e.jj/\e.jj<f.p.ci.length/\0≤e.To/\e.To<f.p.ci.length
 kinds:∀n∈f.p.ci,0<=n/\n<f.is.length/\∀t∈f.g.ci,0<=t/\t<(AA f.is n).length
 small:f.p.ci.length<=1000/\f.p.c9.length<=1000/\f.g.ci.length<=1000/\f.g.c9.length<=1000
def LU(f:AM)(i k:Int):Bool:=
 (decide (PL.at_ f.fu.c9 i<0)||decide (PL.at_ f.fu.c9 i=k))&&decide (AA f.g.c9 k=⟨(AA f.p.c9 i).j4,AA f.ea (AA f.p.c9 i).jj,AA f.ea (AA f.p.c9 i).To⟩)
variable{α:Type}
theorem nR{l:List α}(h:l≠[]):XT l=Y ():=by grind[XT]
variable{l:Fp}{i:Int}
theorem YN(e:0<=i)(d:i<l.length):((XT l).bind λ_=>(idx l i).bind λx=>Y x)=Y (AA l i):=by
 rw [nR (by intro h;subst h;simp at d;omega),bs,AD e d,bs]
variable{n:Nat}
theorem eE:∀{l},PL.ok l n->0<=i->i<n->Mx l i=Y (PL.at_ l i):=by
 intro l h d e
 first
  |(cases l with
    |none=>rfl|some l=>exact YN d (by have:l.length=n:=h;omega))
  |exact YN d (by have:l.length=n:=h;omega)
variable{f:AM}{k:Int}
theorem nu(hf:Ng f)(d:0<=i)(i1:i<f.p.c9.length)(e:0<=k)(h:k<f.g.c9.length)(j:(AA f.p.c9 i).jj<f.ea.length)(hT:(AA f.p.c9 i).To<f.ea.length):EM f i k=Y (LU f i k):=by
 have he:=hf.ends _ (AF d i1);unfold EM LU;rw[AD d i1,bs,eE hf.pe d i1,bs,AD e h,bs,AD he.1 j,bs,AD he.2.2.1 hT,bs]
 grind
def QG(f:AM):Bool:=!kq (λi=>decide (max (AA f.p.c9 i).jj (AA f.p.c9 i).To=(f.ea.length:Int)-1)&&!kq (λk=>LU f i k) 0 f.g.c9.length) 0 f.p.c9.length
variable{b:Int}
theorem tW{f:Int->Bool->Option (Bz Bool Bool)}(p:Int->Bool)(h:∀i,0<=i->i<b->f i T=Y (if p i=X then .brk X else .next T)):ij f 0 b T=Y (.inl (kq p 0 b)):=by
 have key:∀(m:Nat)(i:Int),0<=i->i+m=b->zt f m i T=Y (.inl (kq p i b)):=by
  intro m
  induction m with
  |zero=>
   intro i d hi;have:kq p i b=T:=by rw[B0];intro j q r;omega
   rw [this];rfl
  |succ m u=>
   intro i d hi;rw[GG,h i d U];by_cases o:p i=X
   .have:kq p i b=X:=by rw[Cu];exact⟨i,z? _,U,o⟩
    rw [ac o,this]
   .have e:kq p i b=kq p (i+1) b:=by
     rw [w_,Cu,Cu]
     grind
    grind
 unfold ij;by_cases hb:0<=b
 .grind
 .have:kq p 0 b=T:=by rw[B0];intro j q r;omega
  rw [this,show(b-0).toNat=0 by omega];rfl
theorem lG(hf:Ng f)(o:0<f.ea.length)(h:f.ea.length<=1000):Cb f=Y (QG f):=by
 unfold Cb QG;rw[Bo (λi=>decide (max (AA f.p.c9 i).jj (AA f.p.c9 i).To=(f.ea.length:Int)-1)&&!kq (λk=>LU f i k) 0 f.g.c9.length) T]
 .generalize kq (λi=>decide (max (AA f.p.c9 i).jj (AA f.p.c9 i).To=(f.ea.length:Int)-1)&&!kq (λk=>LU f i k) 0 f.g.c9.length) 0 f.p.c9.length=b;cases b<;>rfl
 .intro i d i1 _;rw[AD d i1,bs,AT (n:=(f.ea.length:Int)-1) U U];by_cases e:max (AA f.p.c9 i).jj (AA f.p.c9 i).To=(f.ea.length:Int)-1
  .rw[ae c_,tW (λk=>LU f i k) (λk j m=>by
    rw [nu hf d i1 j m U U,bs,I7])]
   generalize kq (λk=>LU f i k) 0 f.g.c9.length=b;rw[decide_eq_true e];cases b<;>rfl
  grind
def Ay(n:Nat):Fp:=(List.range n).map Int.ofNat
theorem V1(n:Nat):Ay (n+1)=Ay n++[(n:Int)]:=by grind[Ay,List.range_succ]
def SN(f:AM)(k:Int):Bool:=(decide (PL.at_ f.fu.ci f.ea.length<0)||decide (PL.at_ f.fu.ci f.ea.length=k))&&AA (AA f.is (AA f.p.ci f.ea.length)) (AA f.g.ci k)&&!(f.ff&&f.ea.any λx=>decide (k=x))
def SM(f:AM)(k:Int):Bool:=LU f f.eb.length k&&!(f.ff&&f.eb.any λx=>decide (k=x))
def EL:Nat->AM->List d4
 |0,f=>[⟨f.ea,f.eb⟩]|n+1,f=>(Ay f.g.c9.length).flatMap λk=>if SM f k=X then EL n {f with eb:=f.eb++[k]}else[]
def K4:Nat->AM->List d4
 |0,f=>EL f.p.c9.length f|n+1,f=>(Ay f.g.ci.length).flatMap λk=>if(SN f k&&QG {f with ea:=f.ea++[k]})=X then K4 n {f with ea:=f.ea++[k]}else[]
theorem bS(a b:List α)(m:Nat):((a.take m)++b).take m=(a++b).take m:=by
 by_cases h:a.length<=m
 .rw[A' h]
 grind
end Go.Sf.Sc
namespace Go.Sf.Sc
open Go Go.Sf
def UV(f:AM)(o:List d4):AM:={f with out:=o}
variable{f:AM}
theorem Ng.out(h:Ng f)(o:List d4):Ng (UV f o):=⟨h.pn,h.pe,h.ends,h.kinds,h.small⟩
theorem R8:∀(n:Nat)(f:AM)(o:List d4),EL n (UV f o)=EL n f
 |0,_,_=>rfl|n+1,f,o=>by
  rw [EL,EL];refine congrArg (λF=>(Ay f.g.c9.length).flatMap F) (funext λk=>?_);have:=R8 n {f with eb:=f.eb++[k]} o;show(if SM f k=X then EL n (UV {f with eb:=f.eb++[k]} o)else[])=_;rw[this]
theorem dK:∀(n:Nat)(f:AM)(o:List d4),K4 n (UV f o)=K4 n f
 |0,f,o=>R8 _ f o|n+1,f,o=>by
  rw [K4,K4];refine congrArg (λF=>(Ay f.g.ci.length).flatMap F) (funext λk=>?_);have:=dK n {f with ea:=f.ea++[k]} o;show(if(SN f k&&QG {f with ea:=f.ea++[k]})=X then K4 n (UV {f with ea:=f.ea++[k]} o)else[])=_;rw[this]
def BU(f:AM)(l:List d4):AM:=UV f ((f.out++l).take f.r0.toNat)
structure Y9(f:AM):Prop where
 m0:0<=f.r0
 m1:f.r0<=10000
 out:(f.out.length:Int)<=f.r0
theorem MW(h:Y9 f):BU f []=f:=by
 unfold BU;rw[A!,A' (by have:=h.out;have:=h.m0;omega)];rfl
theorem aN(h:(f.out.length:Int)=f.r0)(l:List d4):BU f l=f:=by
 unfold BU;rw[A? U,A' U];rfl
theorem aP(h:Y9 f)(l:List d4):Y9 (BU f l):=by
 refine ⟨h.m0,h.m1,?_⟩;have:=h.m0;show(((f.out++l).take f.r0.toNat).length:Int)<=f.r0
 grind
theorem aO(f:AM)(a b:List d4):BU (BU f a) b=BU f (a++b):=by
 show UV f ((((f.out++a).take f.r0.toNat)++b).take f.r0.toNat)=_;rw[bS,cR];rfl
theorem YE:∀(n:Nat)(f:AM),Ng f->Y9 f->f.ea.length=f.p.ci.length->f.eb.length+n=f.p.c9.length->∀m,n+1<=m->BL m f=Y (BU f (EL n f))
 |n,f,hf,hr,J,he,m,w=>by
  obtain ⟨m,rfl⟩:∃k,m=k+1:=⟨m-1,U⟩;have K:=hf.small;have M:=hr.m0;have N:=hr.m1;have O:=hr.out;rw[BL];by_cases e:(f.out.length:Int)=f.r0
  .grind[aN]
  rw [ae f_,ae an]
  match n,he,w with
  |0,he,w=>
   rw [ae an];unfold slices_Clone_int;rw[Be b_,bs,Be b_,bs,AS a_,bs,bs];unfold BU;rw[A' (by simp[EL];omega)];rfl
  |n+1,he,w=>
   rw [ac an];have F:∀k,SM f k=X->Ng {f with eb:=f.eb++[k]}:=λk _=>⟨hf.pn,hf.pe,hf.ends,hf.kinds,hf.small⟩;rw[CC (a:=0) (s:=f) (λi=>BU f ((Ay i.toNat).flatMap λk=>if SM f k=X then EL n {f with eb:=f.eb++[k]}else[])) U (MW hr)]
   .grind[A_,EL]
   .intro i B i1;have C:Ay (i+1).toNat=Ay i.toNat++[i]:=by
     rw [show(i+1).toNat=i.toNat+1 by omega,V1];rw[show((i.toNat:Nat):Int)=i by omega]
    have D:∀l,BU f ((Ay (i+1).toNat).flatMap l)=BU (BU f ((Ay i.toNat).flatMap l)) (l i):=by
     intro l;rw[aO,C,B_];simp
    rw [D];generalize (Ay i.toNat).flatMap (λk=>if SM f k=X then EL n {f with eb:=f.eb++[k]}else[])=L;have o:=aP hr L;have u:Ng (BU f L):=hf.out _;have y:=hf.ends _ (AF (l:=f.p.c9) (i:=(f.eb.length:Int)) U U);rw[nu u (i:=(f.eb.length:Int)) (k:=i) U (by show _<(f.p.c9.length:Int);omega) B (by exact i1) (by show(AA f.p.c9 f.eb.length).jj<(f.ea.length:Int);omega) (by show(AA f.p.c9 f.eb.length).To<(f.ea.length:Int);omega),bs];have E:slices_Contains_int (BU f L).eb i=Y (f.eb.any λx=>decide (i=x)):=MV f.eb i;rw[E];have q:LU (BU f L) f.eb.length i=LU f f.eb.length i:=rfl;have key:((AY (BU f L).eb [i]).bind λh=>
      (BL m (AM.mk (BU f L).p (BU f L).g (BU f L).is (BU f L).fu (BU f L).ff (BU f L).r0 (BU f L).ea h (BU f L).out)).bind λd=>
      (slc d.eb 0 (f.eb.length:Int)).bind λj=>
      Y (AM.mk d.p d.g d.is d.fu d.ff d.r0 d.ea j d.out))=Y (BU (BU f L) (EL n {f with eb:=f.eb++[i]})):=by
     have G:AY (BU f L).eb [i]=Y (f.eb++[i]):=AS (by show f.eb.length+1<=AX;unfold AX;omega);have z:=YE n {BU f L with eb:=f.eb++[i]} ⟨hf.pn,hf.pe,hf.ends,hf.kinds,hf.small⟩ ⟨o.m0,o.m1,o.out⟩ J (by show(f.eb++[i]).length+n=f.p.c9.length;simp;omega) m U;have H:EL n {BU f L with eb:=f.eb++[i]}=EL n {f with eb:=f.eb++[i]}:=R8 n {f with eb:=f.eb++[i]} _;rw[H]at z;rw[G,bs];show(BL m {BU f L with eb:=f.eb++[i]}).bind _=_;rw[z,bs];have I:slc (BU {BU f L with eb:=f.eb++[i]} (EL n {f with eb:=f.eb++[i]})).eb 0 (f.eb.length:Int)=Y f.eb:=by
      show slc (f.eb++[i]) 0 (f.eb.length:Int)=_;rw[Iw U (by rw[b6];omega),A_,B']
     rw [I];rfl
    rw [key,q];have v:SM f i=(LU f f.eb.length i&&!(f.ff&&f.eb.any λx=>decide (i=x))):=rfl;have r:(BU f L).ff=f.ff:=rfl;rw[v,r];generalize P:EL n {f with eb:=f.eb++[i]}=A;cases LU f f.eb.length i
    .simp only[x!,x_,if_false,MW o];rfl
    .cases f.ff
     .rfl
     .cases f.eb.any λx=>decide (i=x)
      .rfl
      .simp only[x?,w?,y_,x_,if_false,MW o];rfl
end Go.Sf.Sc
namespace Go.Sf.Sc
open Go Go.Sf
theorem YF:∀(n:Nat)(f:AM),Ng f->Y9 f->f.eb=[]->f.ea.length+n=f.p.ci.length->∀m,n+f.p.c9.length+1<=m->BL m f=Y (BU f (K4 n f))
 |0,f,hf,hr,he,O,m,P=>by
  grind [K4,YE]
 |n+1,f,hf,hr,he,O,m,P=>by
  obtain ⟨m,rfl⟩:∃k,m=k+1:=⟨m-1,U⟩;have Q:=hf.small;have R:=hr.m0;have S:=hr.m1;have θ:=hr.out;rw[BL];by_cases j:(f.out.length:Int)=f.r0
  .grind[aN]
  rw [ae e?,ac an];rw[CC (a:=0) (s:=f) (λi=>BU f ((Ay i.toNat).flatMap λk=>if(SN f k&&QG {f with ea:=f.ea++[k]})=X then K4 n {f with ea:=f.ea++[k]}else[])) U (MW hr)]
  .grind[A_,K4]
  .intro i z i1;have D:Ay (i+1).toNat=Ay i.toNat++[i]:=by
    rw [show(i+1).toNat=i.toNat+1 by omega,V1];rw[show((i.toNat:Nat):Int)=i by omega]
   have E:∀l,BU f ((Ay (i+1).toNat).flatMap l)=BU (BU f ((Ay i.toNat).flatMap l)) (l i):=by
    intro l;rw[aO,D,B_];simp
   rw [E];generalize (Ay i.toNat).flatMap (λk=>if(SN f k&&QG {f with ea:=f.ea++[k]})=X then K4 n {f with ea:=f.ea++[k]}else[])=L;have o:=aP hr L;have u:(f.ea.length:Int)<(f.p.ci.length:Int):=U
   have q:=hf.kinds _ (AF (l:=f.p.ci) (i:=(f.ea.length:Int)) U u);have v:=q.2.2 _ (AF z i1);have key:((AY (BU f L).ea [i]).bind λe=>
     (Cb (AM.mk (BU f L).p (BU f L).g (BU f L).is (BU f L).fu (BU f L).ff (BU f L).r0 e (BU f L).eb (BU f L).out)).bind λr=>
     if r=X then
     (BL m (AM.mk (BU f L).p (BU f L).g (BU f L).is (BU f L).fu (BU f L).ff (BU f L).r0 e (BU f L).eb (BU f L).out)).bind λd=>
     (slc d.ea 0 (f.ea.length:Int)).bind λh=>
     Y (AM.mk d.p d.g d.is d.fu d.ff d.r0 h d.eb d.out)
     else
     (slc e 0 (f.ea.length:Int)).bind λh=>
     Y (AM.mk (BU f L).p (BU f L).g (BU f L).is (BU f L).fu (BU f L).ff (BU f L).r0 h (BU f L).eb (BU f L).out))=Y (BU (BU f L) (if QG {f with ea:=f.ea++[i]}=X then K4 n {f with ea:=f.ea++[i]}else[])):=by
    have F:AY (BU f L).ea [i]=Y (f.ea++[i]):=AS (by show f.ea.length+1<=AX;unfold AX;omega);have B:slc (f.ea++[i]) 0 (f.ea.length:Int)=Y f.ea:=by
     rw [Iw U (by rw[b6];omega),A_,B']
    have G:Cb {BU f L with ea:=f.ea++[i]}=Y (QG {f with ea:=f.ea++[i]}):=lG (f:={BU f L with ea:=f.ea++[i]}) ⟨hf.pn,hf.pe,hf.ends,hf.kinds,hf.small⟩ (by show 0<(f.ea++[i]).length;simp) (by show(f.ea++[i]).length<=1000;rw[b6];simp;omega);have C:=YF n {BU f L with ea:=f.ea++[i]} ⟨hf.pn,hf.pe,hf.ends,hf.kinds,hf.small⟩ ⟨o.m0,o.m1,o.out⟩ he (by show(f.ea++[i]).length+n=f.p.ci.length;rw[b6];simp;omega) m (by show n+f.p.c9.length+1<=m;omega);have H:K4 n {BU f L with ea:=f.ea++[i]}=K4 n {f with ea:=f.ea++[i]}:=dK n {f with ea:=f.ea++[i]} _;rw[H]at C;rw[F,bs];show(Cb {BU f L with ea:=f.ea++[i]}).bind _=_;rw[G,bs];cases QG {f with ea:=f.ea++[i]}
    .rw[ae a!,ae a!,B,MW o];rfl
    .rw[ac rfl,ac rfl];show(BL m {BU f L with ea:=f.ea++[i]}).bind _=_;rw[C,bs];have I:slc (BU {BU f L with ea:=f.ea++[i]} (K4 n {f with ea:=f.ea++[i]})).ea 0 (f.ea.length:Int)=Y f.ea:=B;rw[I];rfl
   have J:Mx (BU f L).fu.ci (f.ea.length:Int)=Y (PL.at_ f.fu.ci f.ea.length):=eE (n:=f.p.ci.length) hf.pn U U;have K:idx (BU f L).p.ci (f.ea.length:Int)=Y (AA f.p.ci f.ea.length):=AD U u;have hi:idx (BU f L).is (AA f.p.ci f.ea.length)=Y (AA f.is (AA f.p.ci f.ea.length)):=AD q.1 q.2.1;have M:idx (AA f.is (AA f.p.ci f.ea.length)) (AA f.g.ci i)=Y (AA (AA f.is (AA f.p.ci f.ea.length)) (AA f.g.ci i)):=AD v.1 v.2;have N:slices_Contains_int (BU f L).ea i=Y (f.ea.any λx=>decide (i=x)):=MV f.ea i;have w:(BU f L).ff=f.ff:=rfl;have y:SN f i=((decide (PL.at_ f.fu.ci f.ea.length<0)||decide (PL.at_ f.fu.ci f.ea.length=i))&&AA (AA f.is (AA f.p.ci f.ea.length)) (AA f.g.ci i)&&!(f.ff&&f.ea.any λx=>decide (i=x))):=rfl;rw[AD z i1,bs,J,bs,K,bs,hi,bs,M,bs,N,key,w,y];generalize AA (AA f.is (AA f.p.ci f.ea.length)) (AA f.g.ci i)=c2;have hb:(decide (0<=PL.at_ f.fu.ci f.ea.length)&&!decide (PL.at_ f.fu.ci f.ea.length=i))=!(decide (PL.at_ f.fu.ci f.ea.length<0)||decide (PL.at_ f.fu.ci f.ea.length=i)):=by
    rw [Bool.not_or];congr 1;rw[<-decide_not];exact decide_eq_decide.2 U
   rw [hb];generalize (decide (PL.at_ f.fu.ci f.ea.length<0)||decide (PL.at_ f.fu.ci f.ea.length=i))=c1;generalize QG {f with ea:=f.ea++[i]}=c5;generalize K4 n {f with ea:=f.ea++[i]}=A;cases c1
   .simp only[x!,x_,if_false,MW o];rfl
   .cases c2
    .simp only[y_,x!,x_,if_false,MW o];rfl
    .cases f.ff
     .rfl
     .cases f.ea.any λx=>decide (i=x)
      .rfl
      .simp only[x?,w?,y_,x!,x_,if_false,MW o];rfl
variable{f:AM}
theorem nf(hf:Ng f)(hr:Y9 f)(he:f.eb=[])(d:f.ea=[]):Hd f=Y (BU f (K4 f.p.ci.length f)):=
 D0 (f.p.ci.length+f.p.c9.length+1) λm e=>YF _ f hf hr he (by rw[d];simp) m e
end Go.Sf.Sc
namespace Go.Sf.Sc
open Go Go.Sf
theorem A2(n:Nat):(Ay n).length=n:=by simp[Ay]
variable{n:Nat}{i:Int}
theorem C5:i∈Ay n↔0<=i/\i<n:=by
 unfold Ay;rw[List.mem_map];constructor
 .grind
 .rintro⟨d,e⟩;exact⟨i.toNat,List.mem_range.2 U,by show((i.toNat:Nat):Int)=i;omega⟩
variable{α:Type}
theorem JI[Inhabited α](F:Int->α)(d:0<=i)(e:i<n):AA ((Ay n).map F) i=F i:=by
 unfold AA Ay
 grind
theorem Eo(d:0<=i):Ay (i+1).toNat=Ay i.toNat++[i]:=by
 rw [show(i+1).toNat=i.toNat+1 by omega,V1,show((i.toNat:Nat):Int)=i by omega]
def Pk(t:AC)(a:Int):a6:=(Ay t.ci.length).map λk=>G4 t k a
def KA(t:AC):List a6:=(Ay t.ci.length).map (Pk t)
variable{t:AC}{a:Int}
theorem uX(hf:A3 t)(h:Fd t)(hv:(BD t).2=0)(a0:0<=a)(a1:a<t.ci.length):KB t a=Y ((Ay t.ci.length).filter λi=>G4 t i a,0):=by
 have d:=h.ea;unfold KB;have hb:MC t a=X:=by simp[MC,a0,a1]
 rw [Zd hf,bs,ae (by simp[hv,hb])];rw[CC (λi=>(Ay i.toNat).filter λi=>G4 t i a) U s?,bs,A_]
 grind [qe,Eo,Ay,G4,List.length_filter_le,A2,AS,AX]
variable{l:Fp}
theorem vQ(r:∀x∈l,0<=x/\x<n):l3 (λ(i2:Int)(s2:a6)=>
  (idx l i2).bind λd=>
  (idx s2 d).bind λ_=>
  Y (BF s2 d X)) 0 (l.length:Int) (B! n T)=Y ((Ay n).map λk=>l.any λx=>decide (x=k)):=by
 rw [CC (λj=>(Ay n).map λk=>(l.take j.toNat).any λx=>decide (x=k)) U (by
  refine B? (by simp[A2]) (λj m w=>V))]
 .rw[A_,List.take_length]
 .intro j o m;have q:=r _ (AF o m);rw[AD o m,bs,AD q.1 (by rw[cL,A2];exact q.2),bs,CH o m];congr 1;unfold BF;refine B? V (λk y u=>?_);have v:k<n:=by simpa[A2]using u
  rw [List.getElem_set];have e:(Ay n)[k]'(by rw[A2];exact v)=(k:Int):=by simp[Ay]
  simp only[List.getElem_map,e,C_,C',C!,y!];by_cases h:(AA l j).toNat=k
  .rw[ac h,decide_eq_true (show AA l j=(k:Int)by omega),Bool.or_true]
  .rw[ae h,decide_eq_false (show¬AA l j=(k:Int)by omega),y!]
theorem lJ(hf:A3 t)(h:Fd t)(hv:(BD t).2=0):HU t=Y (KA t):=by
 have r:=h.ea;unfold HU;rw[CC (λi=>(Ay i.toNat).map (Pk t)) U s?,bs,A_]
 .rfl
 .intro i o i1;have q:Hi (t.ci.length:Int) T=Y (B! t.ci.length T):=by
   unfold Hi;rw[ac U,A_]
  rw [q,bs,uX hf h hv o i1,bs];have:=vQ (n:=t.ci.length) (l:=(Ay t.ci.length).filter λk=>G4 t k i) (λx j=>C5.1 (C?.1 j).1);show(l3 (λ(i2:Int)(s2:a6)=>
   (idx ((Ay t.ci.length).filter λk=>G4 t k i) i2).bind λd=>
   (idx s2 d).bind λ_=>
   Y (BF s2 d X)) 0 (((Ay t.ci.length).filter λk=>G4 t k i).length:Int) (B! t.ci.length T)).bind _=_
  rw [this,bs,AS (by rw[cL,A2];simp;unfold AX;omega),bs,Eo o,List.map_append];congr 2;simp only[List.map_cons,List.map_nil];congr 1;unfold Pk;refine List.map_congr_left (λk m=>?_);have m:=C5.1 m;rw[w_,D_];constructor
  .rintro⟨x,j,e⟩;rw[sx]at e;subst e;exact(C?.1 j).2
  .intro hb;exact⟨k,C?.2 ⟨C5.2 m,hb⟩,V⟩
end Go.Sf.Sc
namespace Go.Sf.Sc
open Go Go.Sf
def FR:Nat->AM->List d4
 |0,f=>EL f.p.c9.length f|n+1,f=>(Ay f.g.ci.length).flatMap λk=>if SN f k=X then FR n {f with ea:=f.ea++[k]}else[]
def j7(f:AM)(i:Int):Prop:=0<=i/\i<f.p.c9.length/\0<=(AA f.p.c9 i).jj/\(AA f.p.c9 i).jj<f.ea.length/\0<=(AA f.p.c9 i).To/\(AA f.p.c9 i).To<f.ea.length/\∀k:Int,0<=k->k<f.g.c9.length->LU f i k=T
theorem Xj(f:AM)(i k:Int):LU f i k=((decide (PL.at_ f.fu.c9 i<0)||decide (PL.at_ f.fu.c9 i=k))&&decide (AA f.g.c9 k=⟨(AA f.p.c9 i).j4,AA f.ea (AA f.p.c9 i).jj,AA f.ea (AA f.p.c9 i).To⟩)):=rfl
variable{α:Type}{i:Int}
theorem Lj[Inhabited α](l:List α)(x:α)(d:0<=i)(e:i<l.length):AA (l++[x]) i=AA l i:=by
 unfold AA
 grind
theorem mX:∀(n:Nat)(f:AM)(i:Int),j7 f i->(f.eb.length:Int)<=i->i<f.eb.length+n->EL n f=[]
 |0,f,i,_,e,h=>by omega|n+1,f,i,hd,e,h=>by
  rw [EL];refine D'.2 (λk d=>?_);have d:=C5.1 d;by_cases he:(f.eb.length:Int)=i
  .have:SM f k=T:=by
    unfold SM;rw[he,hd.2.2.2.2.2.2 k d.1 d.2];rfl
   grind
  .split
   .exact mX n {f with eb:=f.eb++[k]} i hd (by show((f.eb++[k]).length:Int)<=i;rw[b6];simp;omega) (by show i<((f.eb++[k]).length:Int)+n;rw[b6];simp;omega)
   .rfl
theorem df:∀(n:Nat)(f:AM)(i:Int),f.eb=[]->j7 f i->FR n f=[]
 |0,f,i,he,hd=>by
  rw [FR];exact mX _ f i hd (by rw[he];simpa using hd.1) (by rw[he];simpa using hd.2.1)
 |n+1,f,i,he,hd=>by
  rw [FR];refine D'.2 (λk o=>?_);split
  .refine df n {f with ea:=f.ea++[k]} i he ?_;obtain⟨d,e,h,v,m,w,x⟩:=hd;have u:((f.ea++[k]).length:Int)=f.ea.length+1:=by rw[b6];simp
   refine ⟨d,e,h,?_,m,?_,λj q r=>?_⟩
   .grind
   .grind
   grind [Xj,AA,Lj]
  .rfl
variable{f:AM}
theorem qr(hf:Ng f)(h:QG f=T):∃i,j7 f i:=by
 unfold QG at h;rw[v?,Cu]at h;obtain⟨i,d,i1,h⟩:=h;rw[pc,sx,y?,B0]at h;have he:=hf.ends _ (AF d i1);exact⟨i,d,i1,he.1,U,he.2.2.1,U,h.2⟩
theorem dJ:∀(n:Nat)(f:AM),Ng f->f.eb=[]->K4 n f=FR n f
 |0,_,_,_=>rfl|n+1,f,hf,he=>by
  rw [K4,FR];refine congrArg (λF=>(Ay f.g.ci.length).flatMap F) (funext λk=>?_);have d:Ng {f with ea:=f.ea++[k]}:=⟨hf.pn,hf.pe,hf.ends,hf.kinds,hf.small⟩;cases SN f k
  .rfl
  .cases e:QG {f with ea:=f.ea++[k]}
   .obtain⟨i,hd⟩:=qr d e
    grind [df]
   .simp;exact dJ n _ d he
end Go.Sf.Sc
namespace Go.Sf.Sc
open Go Go.Sf
variable{a b:Int}
theorem Pt{σ ρ:Type}{f:σ×Int->Option (Bz (σ×Int) ρ)}(g:Int->σ){s:σ}(d:a<=b)(e:s=g a)(h:∀i,a<=i->i<b->f (g i,i)=Y (.next (g (i+1),i+1)))(hb:f (g b,b)=Y (.brk (g b,b))):C7 f (s,a)=Y (.inl (g b,b)):=by
 subst e;have key:∀(n:Nat)(i:Int),a<=i->i+n=b->MP f (g i,i) (.inl (g b,b)):=by
  intro n
  induction n with
  |zero=>
   intro i _ hi;have:i=b:=U
   subst this;exact .brk hb
  |succ n m=>
   intro i j o;exact .next (h i j U) (m (i+1) U U)
 exact (key (b-a).toNat a (z? _) U).eq
def JM(s:A0)(ea eb:Fp):AM:=⟨s.p,s.g,KA s.t,s.fu,s.ff,s.r0+1,ea,eb,s.Aau⟩
def Cn(s:A0)(l:List d4):A0:={s with Aau:=(s.Aau++l).take (s.r0+1).toNat}
structure X2(s:A0):Prop where
 m0:0<=s.r0
 m1:s.r0<=9999
 out:(s.Aau.length:Int)<=s.r0+1
variable{s:A0}
theorem Q7(h:X2 s):Cn s []=s:=by
 unfold Cn;rw[A!,A' (by have:=h.out;have:=h.m0;omega)]
theorem Yx(h:(s.Aau.length:Int)=s.r0+1)(l:List d4):Cn s l=s:=by
 unfold Cn;rw[A? U,A' U]
theorem Yy(h:X2 s)(l:List d4):X2 (Cn s l):=by
 refine ⟨h.m0,h.m1,?_⟩;have:=h.m0;show(((s.Aau++l).take (s.r0+1).toNat).length:Int)<=s.r0+1
 grind
theorem Wy(s:A0)(a b:List d4):Cn (Cn s a) b=Cn s (a++b):=by
 show ({s with Aau:=(((s.Aau++a).take (s.r0+1).toNat)++b).take (s.r0+1).toNat}:A0)=_;rw[bS,cR];rfl
variable{l:Fp}
theorem oT(s:A0)(d:l.length<=1000)(n:Int):Ci s l n=Y (s.ff&&l.any λx=>decide (n=x)):=by
 unfold Ci;cases s.ff
 .rw[Wd (λ_=>T) X (a:=0) (b:=0) (z? _) (λi i1 i2=>U) (by rw[ae V])];rfl
 .rw[Wd (λi=>decide (AA l i=n)) X (a:=0) (b:=l.length) U (λi i1 i2=>by
   rw [ac (by simp;exact i2),AD i1 i2,bs,AT U U,I7]) (by rw[ae V])]
  have e:kq (λi=>decide (AA l i=n)) 0 l.length=l.any λx=>decide (n=x):=by
   rw [w_,Cu,D_]
   grind [AF,BT]
  rw [e,Bool.true_and];cases l.any λx=>decide (n=x)<;>rfl
theorem bC:∀(n:Nat)(s:A0)(ea l:Fp),Ng (JM s [] [])->X2 s->ea.length=s.p.ci.length->l.length+n=s.p.c9.length->∀m,n+1<=m->B4 m s ea l=Y (Cn s (EL n (JM s ea l)))
 |n,s,ea,l,hf,hr,y,he,m,z=>by
  obtain ⟨m,rfl⟩:∃k,m=k+1:=⟨m-1,U⟩;have r:=hf.small;have P:s.p.ci.length<=1000:=r.1;have s2:s.p.c9.length<=1000:=r.2.1;have Q:s.g.ci.length<=1000:=r.2.2.1;have R:s.g.c9.length<=1000:=r.2.2.2;have S:=hr.m0;have θ:=hr.m1;have ε:=hr.out;rw[B4];by_cases u:(s.Aau.length:Int)=s.r0+1
  .grind[Yx]
  rw [ae an]
  match n,he,z with
  |0,he,z=>
   rw [ac an,Be b_,bs,Be b_,bs,AS a_,bs];unfold Cn;rw[A' (by simp[EL];omega)];rfl
  |n+1,he,z=>
   have e:(0:Int)<=l.length:=U
   have q:(l.length:Int)<s.p.c9.length:=U
   have d:=hf.ends _ (AF (l:=s.p.c9) e q);have E:(AA s.p.c9 l.length).jj<ea.length:=by rw[y];exact d.2.1
   have G:(AA s.p.c9 l.length).To<ea.length:=by rw[y];exact d.2.2.2
   have v:(l.length:Int)<s.fu.c9.length:=by
    have:s.fu.c9.length=s.p.c9.length:=hf.pe;omega
   rw [ae an,AD e q,bs];rw[Pt (λi=>Cn s ((Ay i.toNat).flatMap λk=>if SM (JM s ea l) k=X then EL n (JM s ea (l++[k]))else[])) (a:=0) (b:=(s.g.c9.length:Int)) (s:=s) U (Q7 hr).symm (λi B i1=>by
    have H:∀F,Cn s ((Ay (i+1).toNat).flatMap F)=Cn (Cn s ((Ay i.toNat).flatMap F)) (F i):=by
     intro F;rw[Wy,Eo B,List.flatMap_append];simp
    rw [H];generalize (Ay i.toNat).flatMap (λk=>if SM (JM s ea l) k=true then EL n (JM s ea (l++[k]))else[])=L;have C:=Yy hr L;rw[ac (by rw[sx];exact i1)];have I:idx (Cn s L).g.c9 i=some (AA s.g.c9 i):=AD B i1;have J:idx (Cn s L).fu.c9 (l.length:Int)=some (AA s.fu.c9 l.length):=AD e v;have K:Ci (Cn s L) l i=some (s.ff&&l.any λx=>decide (i=x)):=oT (Cn s L) U i;have key:((AY [] l).bind λh=>
      (AY h [i]).bind λj=>
      (B4 m (Cn s L) ea j).bind λo=>
      some (.next (o,AJ (i+1)):Bz (A0×Int) A0))=some (.next (Cn (Cn s L) (EL n (JM s ea (l++[i]))),i+1)):=by
     have D:=bC n (Cn s L) ea (l++[i]) ⟨hf.pn,hf.pe,hf.ends,hf.kinds,hf.small⟩ C y (by show(l++[i]).length+n=s.p.c9.length;rw[b6];simp;omega) m U;have M:EL n (JM (Cn s L) ea (l++[i]))=EL n (JM s ea (l++[i])):=R8 n (JM s ea (l++[i])) _;rw[M]at D;rw[Be b_,bs,AS a_,bs,D,bs,AT U U]
    rw [I,bs,J,bs,K,key];simp only[bs];rw[AD d.1 E,AD d.2.2.1 G,AT (n:=i+1) U U];simp only[bs];have w:SM (JM s ea l) i=(((decide (AA s.fu.c9 l.length<0)||decide (AA s.fu.c9 l.length=i))&&decide (AA s.g.c9 i=⟨(AA s.p.c9 l.length).j4,AA ea (AA s.p.c9 l.length).jj,AA ea (AA s.p.c9 l.length).To⟩))&&!(s.ff&&l.any λx=>decide (i=x))):=rfl;have N:decide (AA s.g.c9 i=⟨(AA s.p.c9 l.length).j4,AA ea (AA s.p.c9 l.length).jj,AA ea (AA s.p.c9 l.length).To⟩)=(decide ((AA s.p.c9 l.length).j4=(AA s.g.c9 i).j4)&&decide ((AA s.g.c9 i).jj=AA ea (AA s.p.c9 l.length).jj)&&decide ((AA s.g.c9 i).To=AA ea (AA s.p.c9 l.length).To)):=by
     rw [Bool.eq_iff_iff];simp[sx];generalize AA s.g.c9 i=x;obtain⟨x1,κ,η⟩:=x;simp;constructor
     .rintro⟨a,b,c⟩;exact⟨⟨a.symm,b⟩,c⟩
     .rintro⟨⟨a,b⟩,c⟩;exact⟨a.symm,b,c⟩
    have O:(decide (AA s.fu.c9 l.length<0)||decide (AA s.fu.c9 l.length=i))=!(decide (0<=AA s.fu.c9 l.length)&&!decide (AA s.fu.c9 l.length=i)):=by
     rw [Bool.not_and,Bool.not_not];congr 1;rw[<-decide_not];exact decide_eq_decide.2 U
    rw [w,N,O];generalize EL n (JM s ea (l++[i]))=A;generalize decide (0<=AA s.fu.c9 l.length)=c1;generalize decide (AA s.fu.c9 l.length=i)=c2;generalize decide ((AA s.p.c9 l.length).j4=(AA s.g.c9 i).j4)=c3;generalize decide ((AA s.g.c9 i).jj=AA ea (AA s.p.c9 l.length).jj)=c4;generalize decide ((AA s.g.c9 i).To=AA ea (AA s.p.c9 l.length).To)=c5;generalize (s.ff&&l.any λx=>decide (i=x))=c6;cases c1<;>cases c2<;>cases c3<;>cases c4<;>cases c5<;>cases c6<;>first|rfl|(simp[Q7 C];try rfl)) (by rw[ae (by simp[Cn])]),B3,A_,EL]
   rfl
end Go.Sf.Sc
namespace Go.Sf.Sc
open Go Go.Sf
def Uf(s:A0)(l:Fp)(i k:Int):Bool:=decide (AA s.g.c9 k=⟨(AA s.p.c9 i).j4,AA l (AA s.p.c9 i).jj,AA l (AA s.p.c9 i).To⟩)
def T7(s:A0)(l:Fp)(i:Int):Bool:=(decide ((AA s.p.c9 i).jj<l.length)&&decide ((AA s.p.c9 i).To<l.length))&&!(Ay s.g.c9.length).any (Uf s l i)
variable{s:A0}{l:Fp}
theorem xi(hf:Ng (JM s [] [])):GA s l=Y (!kq (T7 s l) 0 s.p.c9.length):=by
 unfold GA;rw[Bo (T7 s l) T]
 .cases kq (T7 s l) 0 s.p.c9.length<;>rfl
 .intro i d i1 _;have he:=hf.ends _ (AF (l:=s.p.c9) d i1);rw[AD d i1,bs];unfold T7;by_cases h:(AA s.p.c9 i).jj<l.length
  .by_cases hT:(AA s.p.c9 i).To<l.length
   .rw[ae an,CC (λk=>(Ay k.toNat).any (Uf s l i)) U s?,bs,A_,decide_eq_true h,decide_eq_true hT]
    .grind
    .intro k e j;rw[AD e j,bs,Eo e,C_];have m:Uf s l i k=(decide ((AA s.p.c9 i).j4=(AA s.g.c9 k).j4)&&decide ((AA s.g.c9 k).jj=AA l (AA s.p.c9 i).jj)&&decide ((AA s.g.c9 k).To=AA l (AA s.p.c9 i).To)):=by
      unfold Uf;rw[w_];simp[sx];generalize AA s.g.c9 k=x;obtain⟨x1,o,q⟩:=x;simp;constructor
      .rintro⟨a,b,c⟩;exact⟨⟨a.symm,b⟩,c⟩
      .rintro⟨⟨a,b⟩,c⟩;exact⟨a.symm,b,c⟩
     rw [AD he.1 h,AD he.2.2.1 hT];simp only[C',C!,y!,bs];rw[m];generalize (Ay k.toNat).any (Uf s l i)=c1;generalize decide ((AA s.p.c9 i).j4=(AA s.g.c9 k).j4)=c3;generalize decide ((AA s.g.c9 k).jj=AA l (AA s.p.c9 i).jj)=c4;generalize decide ((AA s.g.c9 k).To=AA l (AA s.p.c9 i).To)=c5;cases c1<;>cases c3<;>cases c4<;>cases c5<;>rfl
   grind
  grind
theorem xf(hf:Ng (JM s [] []))(h:kq (T7 s l) 0 s.p.c9.length=X):∃i,j7 (JM s l []) i:=by
 rw [Cu]at h;obtain⟨i,d,i1,h⟩:=h;unfold T7 at h;rw[pc,pc,sx,sx,y?,List.any_eq_false]at h;have he:=hf.ends _ (AF (l:=s.p.c9) d i1);refine⟨i,d,i1,he.1,h.1.1,he.2.2.1,h.1.2,λk j m=>?_⟩;have:=h.2 k (C5.2 ⟨j,m⟩);have e:Uf s l i k=T:=by rw[<-w!];exact this
 rw [Xj];show((decide (AA s.fu.c9 i<0)||decide (AA s.fu.c9 i=k))&&Uf s l i k)=T;rw[e,y_]
end Go.Sf.Sc
namespace Go.Sf.Sc
open Go Go.Sf
theorem dL:∀(n:Nat)(f:AM)(o:List d4),FR n (UV f o)=FR n f
 |0,f,o=>R8 _ f o|n+1,f,o=>by
  rw [FR,FR];refine congrArg (λF=>(Ay f.g.ci.length).flatMap F) (funext λk=>?_);have:=dL n {f with ea:=f.ea++[k]} o
  grind [SN,FR,UV]
theorem bE:∀(n:Nat)(s:A0)(l:Fp),Fd s.t->Ng (JM s [] [])->X2 s->l.length+n=s.p.ci.length->∀m,n+1<=m->B5 m s l=Y (Cn s (FR n (JM s l [])))
 |n,s,l,N,hf,hr,I,m,y=>by
  obtain ⟨m,rfl⟩:∃k,m=k+1:=⟨m-1,U⟩;have J:=hf.small;have ζ:s.p.ci.length<=1000:=J.1;have δ:s.g.ci.length<=1000:=J.2.2.1;have Z:=hr.m0;have h1:=hr.m1;have h2:=hr.out;rw[B5];by_cases C:(s.Aau.length:Int)=s.r0+1
  .grind[Yx]
  rw [ae an,xi hf];cases hd:kq (T7 s l) 0 s.p.c9.length
  case true=>
   grind [xf,df,JM,Q7]
  simp only[bs,Bool.not_false,w?,x_,if_false]
  match n,I,y with
  |0,I,y=>
   rw [ac an,Option.bind_fun_some,FR];exact D0 (s.p.c9.length+1) λm y=>bC s.p.c9.length s l [] hf hr U V m U
  |n+1,I,y=>
   have v:(l.length:Int)<s.p.ci.length:=U
   have o:(0:Int)<=l.length:=U
   have D:(l.length:Int)<s.fu.ci.length:=by
    have:s.fu.ci.length=s.p.ci.length:=hf.pn;omega
   have O:(KA s.t).length=s.t.ci.length:=by unfold KA;rw[cL,A2]
   have d:=hf.kinds _ (AF (l:=s.p.ci) o v);have E:AA s.p.ci l.length<s.t.ci.length:=by rw[<-O];exact d.2.1
   have j:AA (KA s.t) (AA s.p.ci l.length)=Pk s.t (AA s.p.ci l.length):=JI (Pk s.t) d.1 E;rw[ae an];rw[Pt (λi=>Cn s ((Ay i.toNat).flatMap λk=>if SN (JM s l []) k=X then FR n (JM s (l++[k]) [])else[])) (a:=0) (b:=(s.g.ci.length:Int)) (s:=s) U (Q7 hr).symm (λi z i1=>by
    have P:∀F,Cn s ((Ay (i+1).toNat).flatMap F)=Cn (Cn s ((Ay i.toNat).flatMap F)) (F i):=by
     intro F;rw[Wy,Eo z,List.flatMap_append];simp
    rw [P];generalize (Ay i.toNat).flatMap (λk=>if SN (JM s l []) k=true then FR n (JM s (l++[k]) [])else[])=L;have K:=Yy hr L;rw[ac (by rw[sx];exact i1)];have q:=d.2.2 _ (AF (l:=s.g.ci) z i1);have w:AA s.g.ci i<s.t.ci.length:=by
     have h:=q.2;have e:AA (JM s [] []).is (AA s.p.ci l.length)=Pk s.t (AA s.p.ci l.length):=j;rw[e]at h;unfold Pk at h
     rwa [cL,A2]at h
    have G:FE (Cn s L).t (AA s.g.ci i) (AA s.p.ci l.length)=some (G4 s.t (AA s.g.ci i) (AA s.p.ci l.length)):=WZ N q.1 w d.1;have Q:idx (Cn s L).g.ci i=some (AA s.g.ci i):=AD z i1;have R:idx (Cn s L).fu.ci (l.length:Int)=some (AA s.fu.ci l.length):=AD o D;have S:Ci (Cn s L) l i=some (s.ff&&l.any λx=>decide (i=x)):=oT (Cn s L) U i;have θ:idx (Cn s L).p.ci (l.length:Int)=some (AA s.p.ci l.length):=AD o v;have key:((AY [] l).bind λB=>
      (AY B [i]).bind λr=>
      (B5 m (Cn s L) r).bind λu=>
      some (.next (u,AJ (i+1)):Bz (A0×Int) A0))=some (.next (Cn (Cn s L) (FR n (JM s (l++[i]) [])),i+1)):=by
     have M:=bE n (Cn s L) (l++[i]) N ⟨hf.pn,hf.pe,hf.ends,hf.kinds,hf.small⟩ K (by show(l++[i]).length+n=s.p.ci.length;rw[b6];simp;omega) m U;have ε:FR n (JM (Cn s L) (l++[i]) [])=FR n (JM s (l++[i]) []):=dL n (JM s (l++[i]) []) _;rw[ε]at M;rw[Be b_,bs,AS a_,bs,M,bs,AT U U]
    rw [R,bs,S,Q,θ,key];simp only[bs];rw[G,AT (n:=i+1) U U];simp only[bs];have H:SN (JM s l []) i=((decide (AA s.fu.ci l.length<0)||decide (AA s.fu.ci l.length=i))&&AA (AA (KA s.t) (AA s.p.ci l.length)) (AA s.g.ci i)&&!(s.ff&&l.any λx=>decide (i=x))):=rfl;have κ:AA (AA (KA s.t) (AA s.p.ci l.length)) (AA s.g.ci i)=G4 s.t (AA s.g.ci i) (AA s.p.ci l.length):=by
     rw [j];exact JI (λk=>G4 s.t k (AA s.p.ci l.length)) q.1 w
    have η:(decide (AA s.fu.ci l.length<0)||decide (AA s.fu.ci l.length=i))=!(decide (0<=AA s.fu.ci l.length)&&!decide (AA s.fu.ci l.length=i)):=by
     rw [Bool.not_and,Bool.not_not];congr 1;rw[<-decide_not];exact decide_eq_decide.2 U
    rw [H,κ,η];generalize FR n (JM s (l++[i]) [])=A;generalize decide (0<=AA s.fu.ci l.length)=c1;generalize decide (AA s.fu.ci l.length=i)=c2;generalize G4 s.t (AA s.g.ci i) (AA s.p.ci l.length)=c3;generalize (s.ff&&l.any λx=>decide (i=x))=c6;cases c1<;>cases c2<;>cases c3<;>cases c6<;>first|rfl|(simp[Q7 K];try rfl)) (by rw[ae (by simp[Cn])]),B3,A_,FR]
   rfl
end Go.Sf.Sc
namespace Go.Sf.Sc
open Go Go.Sf
def FF(t:AC)(p g:d3)(pa:d4)(inj:Bool):AM:=⟨p,g,KA t,pa,inj,5001,[],[],[]⟩
def JY(t:AC)(p g:d3)(pa:d4)(inj:Bool):List d4:=(FR p.ci.length (FF t p g pa inj)).take 5001
variable{t:AC}{p g:d3}
theorem ub{pa:d4}{inj:Bool}(j:A3 t)(hv:(BD t).2=0)(d:Ng (FF t p g pa inj)):GN t p g pa inj 5001=Y (JY t p g pa inj):=by
 unfold GN;rw[lJ j (Cq hv) hv,bs];have h:=nf (f:=FF t p g pa inj) d ⟨by show(0:Int)<=5001;omega,by show(5001:Int)<=10000;omega,by show((0:Nat):Int)<=5001;omega⟩ rfl rfl;rw[dJ _ _ d rfl]at h;have e:AM.mk p g (KA t) pa inj 5001 [] [] []=FF t p g pa inj:=rfl;rw[e,h];rfl
theorem tG{pa:d4}{inj:Bool}(hv:(BD t).2=0)(d:Ng (FF t p g pa inj)):Ks t p g pa inj 5000=Y (JY t p g pa inj):=by
 unfold Ks;have h:Hc ⟨t,p,g,pa,inj,5000,[]⟩ []=Y (Cn ⟨t,p,g,pa,inj,5000,[]⟩ (FR p.ci.length (FF t p g pa inj))):=
  D0 (p.ci.length+1) λm e=>bE p.ci.length ⟨t,p,g,pa,inj,5000,[]⟩ [] (Cq hv) d ⟨by show(0:Int)<=5000;omega,by show(5000:Int)<=9999;omega,by show((0:Nat):Int)<=5000+1;omega⟩ p! m e
 rw [h];rfl
end Go.Sf.Sc
namespace Go.Sf.Sc
open Go Go.Sf
def W9(n k:Int):Bool:=decide (k< -1)||decide (n<=k)
def S0(l:Fp)(n:Int):Int:=if l.any (W9 n)=X then 6 else 0
theorem nk(l:Fp)(n:Int):IX l n=Y (S0 l n):=by grind[IX,S0,OQ,W9,VA]
variable{l:Fp}
theorem fe{c:Int}(n:Int)(h:(l.length:Int)=c):Kf l c n=Y (S0 l n):=by
 unfold Kf S0;rw[ae (by simp[h]),Bo (λi=>W9 n (AA l i)) 6]
 .have e:kq (λi=>W9 n (AA l i)) 0 l.length=l.any (W9 n):=by
   rw [w_,Cu,D_]
   grind [AF,BT]
  rw [e];cases l.any (W9 n)<;>rfl
 grind [AD,W9,AA]
end Go.Sf.Sc
namespace Go.Sf.Sc
open Go Go.Sf
theorem fP(t:AC)(g:d3):Ga t g=Y (C0 t g):=by grind[Ga,C0,MK,VA,ML,iW]
def Ep(t:AC)(p g:d3):Int:=if(BD t).2≠0 then(BD t).2 else if CE p≠0 then CE p else if CE g≠0 then CE g else if(C0 t p&&C0 t g)=X then 0 else 13
variable{t:AC}
theorem WX(hf:A3 t)(p g:d3):FH t p g=Y (Ep t p g):=by
 unfold FH Ep;rw[Ot hf,bs];refine EN λ_=>?_;have o:ij (ρ:=Int) (λ(m:Int)(_:Unit)=>
   (idx [p,g] m).bind λj=>
   (DP j).bind λh=>
   if (!decide (h=0))=X then
   Y (.ret h)
   else
   Y (.next ())) 0 ([p,g].length:Int) ()=Y (if CE p≠0 then .inr (CE p)else if CE g≠0 then .inr (CE g)else .inl ()):=by
  show zt _ 2 0 ()=_;rw[GG,show idx [p,g] 0=Y p from rfl,bs,Oq,bs];by_cases d:CE p=0
  .rw[ae (by simp[d]),ae (by simp[d])];show zt _ 1 (0+1) ()=_;rw[GG,show idx [p,g] (0+1)=Y g from rfl,bs,Oq,bs];by_cases e:CE g=0
   .rw[ae c_,ae c_];rfl
   .rw[ac c_,ac e]
  .rw[ac (by simp[d]),ac d]
 rw [o];by_cases d:CE p=0
 .by_cases e:CE g=0
  .simp[d,e,B3];rw[fP,fP,bs];cases C0 t p<;>cases C0 t g<;>rfl
  .simp[d,e,not_false_eq_true,V0]
 .simp[d,not_false_eq_true,V0]
theorem Ua(hf:A3 t)(p g:d3):F4 t p g=Y (Ep t p g):=by
 unfold F4 Ep;rw[R1 hf,bs];refine EN λ_=>?_;rw[NN,bs];refine EN λd=>?_;rw[NN,bs];refine EN λe=>?_
 grind [Zj,Di,C0]
end Go.Sf.Sc
namespace Go.Sf.Sc
open Go Go.Sf
variable{t:AC}{p g:d3}
theorem XH{pa:d4}{inj:Bool}(h:Ep t p g=0)(r:pa.ci.length=p.ci.length)(u:pa.c9.length=p.c9.length):(BD t).2=0/\Ng (FF t p g pa inj):=by
 unfold Ep at h;by_cases hv:(BD t).2=0
 .rw[ae k_]at h;by_cases o:CE p=0
  .rw[ae to]at h;by_cases q:CE g=0
   .rw[ae (by simp[q])]at h;by_cases d:(C0 t p&&C0 t g)=X
    .rw[pc]at d;have op:=Di o;have m:=Di q;have tp:=Hu op d.1;have w:=Hu m d.2;have x:(KA t).length=t.ci.length:=by unfold KA;rw[cL,A2]
     refine ⟨hv,r,u,λe he=>?_,λn v=>?_,Nat.le_trans op.ea U,Nat.le_trans op.eb U,Nat.le_trans m.ea U,Nat.le_trans m.eb U⟩
     .have:=op.fit e he;exact⟨this.2.1.1,this.2.1.2,this.2.2.1,this.2.2.2⟩
     .have:=tp.1 n v;refine⟨this.1,by show n<((KA t).length:Int);rw[x];exact this.2,λk j=>?_⟩;have j:=w.1 k j;refine⟨j.1,?_⟩;show k<((AA (KA t) n).length:Int)
      grind [KA,JI,Pk,cL,A2]
    grind
   grind
  grind
 grind
def T9(t:AC)(p g:d3)(pa:d4)(inj:Bool):List d4×Int:=
 if Ep t p g≠0 then([],Ep t p g)else if¬(pa.ci.length=p.ci.length/\pa.c9.length=p.c9.length)then([],20)else
 if S0 pa.ci g.ci.length≠0 then([],S0 pa.ci g.ci.length)else if S0 pa.c9 g.c9.length≠0 then([],S0 pa.c9 g.c9.length)else
 if 5000<(JY t p g pa inj).length then([],3)else(JY t p g pa inj,0)
theorem qZ(hf:A3 t)(p g:d3)(pa:d4)(inj:Bool):Ht t p g pa inj=Y (T9 t p g pa inj):=by
 unfold Ht T9;rw[WX hf,bs];refine Dy λe=>?_;refine Qx (by simp[y?,decide_eq_false_iff_not];omega) λd=>?_;have d:=z!.1 d;rw[nk,bs];refine Dy λh=>?_;rw[nk,bs];refine Dy λj=>?_
 grind [XH,Jm,ub,JY]
theorem qy(hf:A3 t)(p g:d3)(pa:d4)(inj:Bool):Ip t p g pa inj=Y (T9 t p g pa inj):=by
 unfold Ip T9;rw[Ua hf,bs];refine Dy λe=>?_;refine Qx (by simp[y?,decide_eq_false_iff_not];omega) λd=>?_;have d:=z!.1 d;rw[fe _ U,bs];refine Dy λh=>?_;rw[fe _ U,bs];refine Dy λj=>?_
 grind [XH,tG,JY]
def NM(p:d3):d4:=⟨B! p.ci.length (-1),B! p.c9.length (-1)⟩
variable{n:Nat}{i:Int}
theorem gG(d:0<=i)(e:i<n):BF (B! i.toNat (-1:Int)++B! (n-i.toNat) 0) i (-1)=B! (i+1).toNat (-1)++B! (n-(i+1).toNat) 0:=by
 unfold BF;rw[List.set_append_right _ _ V,show n-i.toNat=(n-(i+1).toNat)+1 by omega,List.replicate_succ,List.length_replicate,Nat.sub_self,List.set_cons_zero,show(i+1).toNat=i.toNat+1 by omega,List.replicate_succ',cR];rfl
theorem rD(h:p.ci.length<=100)(j:p.c9.length<=100):LN p=Y (NM p):=by
 unfold LN;have m1:Hi (p.ci.length:Int) (0:Int)=Y (B! p.ci.length 0):=by unfold Hi;rw[ac U,A_]
 have e:Hi (p.c9.length:Int) (0:Int)=Y (B! p.c9.length 0):=by unfold Hi;rw[ac U,A_]
 rw [m1,bs,e,bs];rw[Pt (λi=>(⟨B! i.toNat (-1)++B! (p.ci.length-i.toNat) 0,B! p.c9.length 0⟩:d4)) (a:=0) (b:=p.ci.length) U V,B3]
 .dsimp only;rw[Pt (λi=>(⟨B! p.ci.length (-1),B! i.toNat (-1)++B! (p.c9.length-i.toNat) 0⟩:d4)) (a:=0) (b:=p.c9.length) U V,B3]
  .simp[NM]
  .intro i d i1;dsimp only;rw[ac an,AD d an,bs,gG d i1,AT (n:=i+1) U U]
  .dsimp only;rw[ae V]
 .intro i d i1;dsimp only;rw[ac an,AD d an,bs,gG d i1,AT (n:=i+1) U U]
 .dsimp only;rw[ae V]
end Go.Sf.Sc
