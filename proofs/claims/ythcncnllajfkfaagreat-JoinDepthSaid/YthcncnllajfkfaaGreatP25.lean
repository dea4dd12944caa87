/- Plain lemmas: what the functions of the program and of the reference compute. -/
import Derived.Test.YthcncnllajfkfaaGreatP1
import Derived.Test.YthcncnllajfkfaaGreatEval
set_option linter.all false
set_option maxRecDepth 100000
open Option renaming some->Y
open Bool renaming true->X,false->T
open Bool renaming not_eq_false'->w_,eq_iff_iff->w!,not_eq_true->w?,not_true->x_,false_eq_true->x!,false_and->x?,and_self->y_,and_false->y!,or_false->y?,not_eq_true'->z_
open Classical renaming propDecidable->z!,not_not->z?
open Int renaming le_refl->A_,toNat_natCast->A'
open List renaming take_of_length_le->A!,append_nil->A?,take_append_of_le_length->B_,flatMap_append->B',take_left->B!,replicate->B?,ext_getElem->C_,any_append->C',any_cons->C!,any_nil->C?,mem_filter->D_,any_eq_true->D',flatMap_eq_nil_iff->D!
namespace Go.Sf.Sc
open Go Go.Sf
variable{t:AC}{c:d7}
theorem ug(hf:A3 t)(p:ea)(e:EL c):Dp t p c=Y (JS t p c):=by
 by_cases d:(BC t).2=0
 .exact nj hf d p e
 .unfold Dp JS;rw[Yn hf,bs];refine EO λh=>?_;exfalso;unfold FD at h;rw[ac d]at h;exact d h
end Go.Sf.Sc
namespace Go.Sf.Sc
open Go Go.Sf
variable{α:Type}
theorem Zr[Inhabited α](b:α->α->Bool){l m:List α}(hb:∀x∈l,∀y∈m,(b x y=X↔x=y))(d:l.length=m.length):l3 (λi=>!b (AA l i) (AA m i)) 0 l.length=T↔l=m:=by
 rw [By];constructor
 .intro h;refine dX d (λi i1 i2=>?_);have:=h i i1 i2;rw[w_]at this;exact(hb _ (AF i1 i2) _ (AF i1 U)).1 this
 .rintro rfl i i1 i2;rw[w_];exact(hb _ (AF i1 i2) _ (AF i1 i2)).2 rfl
theorem iv[Inhabited α][DecidableEq α]{l m:List α}(q:l.length=m.length){k:Unit->K1}{j:Bool->K1}:em (jj (ρ:=Bool) (λ(o:Int)(_:Unit)=>
 (idx l o).bind λd=>
 (idx m o).bind λe=>
 if (!decide (d=e))=X then
 Y (.ret T)
 else
 Y (.next ())) 0 (l.length:Int) ()) k j=if l=m then k ()else j T:=by
 rw [Bf (λi=>!decide (AA l i=AA m i)) T]
 .have:=Zr (λx y:α=>decide (x=y)) (l:=l) (m:=m) (λ_ _ _ _=>decide_eq_true_iff) q;by_cases h:l=m
  .rw[this.2 h,ac h];rfl
  .rw[ae h];cases r:l3 (λi=>!decide (AA l i=AA m i)) 0 l.length
   .exact absurd (this.1 r) h
   .rfl
 .intro i i1 i2 _;rw[AD i1 i2,bs,AD i1 U,bs,I7]
theorem QE[Inhabited α][DecidableEq α](l m:List α):(if(!decide ((l.length:Int)=(m.length:Int)))=X then
 Y T
 else
 em (jj (ρ:=Bool) (λ(q:Int)(_:Unit)=>
 (idx l q).bind λd=>
 (idx m q).bind λj=>
 if (!decide (d=j))=X then
 Y (.ret T)
 else
 Y (.next ())) 0 (l.length:Int) ()) (λ_=>
 Y X) (λr=>Y r))=Y (decide (l=m)):=by
 by_cases o:l.length=m.length
 .rw[ae q?,iv o];by_cases h:l=m
  .rw[ac h,decide_eq_true h]
  .rw[ae h,decide_eq_false h]
 .rw[ac an,decide_eq_false (λe=>o (by rw[e]))]
theorem Pc(l m:Fp):slices_Equal_int l m=Y (decide (l=m)):=QE l m
theorem fW(l m:List Bx):GQ l m=Y (decide (l=m)):=QE l m
theorem oD(l m:List CA):H0 l m=Y (decide (l=m)):=QE l m
theorem oE(l m:List Test):H4 l m=Y (decide (l=m)):=QE l m
theorem Zk(l m:Fp):IY l m=Y (decide (l=m)):=QE l m
theorem jY(l m:Fp):Gw l m=Y (decide (l=m)):=QE l m
theorem Wb(a b:d6):FO a b=Y (decide (a=b)):=by
 unfold FO;rw[Pc,Pc];obtain⟨a1,a2⟩:=a;obtain⟨e,j⟩:=b;by_cases h:a1=e<;>by_cases d:a2=j<;>simp[h,d]
theorem vK(a b:d6):Pg a b=Y (decide (a=b)):=by
 unfold Pg;rw[Zk,Zk];obtain⟨a1,a2⟩:=a;obtain⟨e,j⟩:=b;by_cases h:a1=e<;>by_cases d:a2=j<;>simp[h,d]
theorem vI(a b:d5):Pf a b=Y (decide (a=b)):=by
 unfold Pf;rw[jY,bs];obtain⟨a1,a2⟩:=a;obtain⟨o,j⟩:=b;by_cases h:a1=o
 .by_cases d:a2.length=j.length
  .rw[ae (by simp[h,d]),iv d];by_cases m:a2=j<;>simp[h,m]
  .rw[ac an];rw[decide_eq_false (λe=>d (by cases e;rfl))]
 .simp[h]
noncomputable def Wr(a b:d7):Bool:=@decide (a=b) (z! _)
theorem ZN{a b:d7}:Wr a b=X↔a=b:=by
 unfold Wr;exact@decide_eq_true_iff _ (z! _)
noncomputable def Z9(l m:List d7):Bool:=@decide (l=m) (z! _)
theorem WL{l m:List d7}:Z9 l m=X↔l=m:=by
 unfold Z9;exact@decide_eq_true_iff _ (z! _)
theorem uC(a b:d7):Wr a b=(decide (a.kq=b.kq)&&decide (a.Map=b.Map)&&decide (a.ea=b.ea)&&Z9 a.fu b.fu):=by
 rw [w!,ZN];obtain⟨a1,a2,a3,m⟩:=a;obtain⟨o,q,r,u⟩:=b;simp only[pq,tn,WL,d7.mk.injEq];constructor
 .rintro⟨d,e,h,j⟩;exact⟨⟨⟨d,h⟩,j⟩,e⟩
 .rintro⟨⟨⟨d,h⟩,j⟩,e⟩;exact⟨d,e,h,j⟩
theorem nQ{l m:List d7}{f:d7->d7->K1}(hf:∀x∈l,∀y,f x y=Y (Wr x y))(r:l.length=m.length):em (jj (ρ:=Bool) (λ(q:Int)(_:Unit)=>
 (idx l q).bind λd=>
 (idx m q).bind λe=>
 (f d e).bind λj=>
 if (!j)=X then
 Y (.ret T)
 else
 Y (.next ())) 0 (l.length:Int) ()) (λ_=>
 Y X) (λu=>Y u)=Y (Z9 l m):=by
 rw [Bf (λi=>!Wr (AA l i) (AA m i)) T]
 .have:=Zr Wr (l:=l) (m:=m) (λ_ _ _ _=>ZN) r;cases o:l3 (λi=>!Wr (AA l i) (AA m i)) 0 l.length
  .rw[WL.2 (this.1 o)];rfl
  .have:Z9 l m=T:=by
    rw [<-w?,WL];intro h;rw[this.2 h]at o;cases o
   rw [this];rfl
 .intro i i1 i2 _;rw[AD i1 i2,bs,AD i1 U,bs,hf _ (AF i1 i2),bs,I7]
theorem uD{l m:List d7}(h:¬l.length=m.length):Z9 l m=T:=by
 rw [<-w?,WL];exact λe=>h (by rw[e])
theorem ny:∀(N:Nat)(a b:d7),SizeOf.sizeOf a<=N->∀n,N<=n->C1 n a b=Y (Wr a b)
 |0,a,_,h,_,_=>by have:=Dx a;omega|N+1,a,b,h,n,G=>by
  obtain ⟨n,rfl⟩:∃m,n=m+1:=⟨n-1,U⟩;have v:CZ a.fu b.fu (C1 n)=Y (Z9 a.fu b.fu):=by
   unfold CZ;by_cases d:a.fu.length=b.fu.length
   .rw[ae (by simp[d]),nQ (λx u y=>by have:=Eb u;exact ny N x y U n U) d]
   .rw[ac an,uD d]
  rw [C1,Wb,Pc,fW,oD,oE,v,uC];have w:decide (a.ea=b.ea)=(decide (a.ea.fd=b.ea.fd)&&decide (a.ea.d5.d3=b.ea.d5.d3)&&decide (a.ea.d5.d4=b.ea.d5.d4)&&decide (a.ea.ek=b.ea.ek)&&decide (a.ea.kl=b.ea.kl)):=by
   rw [w!];simp only[pq,tn];obtain⟨_,_,_,⟨⟨a1,a2⟩,a3,z,A⟩⟩:=a;obtain⟨_,_,_,⟨⟨B,C⟩,D,E,F⟩⟩:=b;simp only[ea.mk.injEq,d5.mk.injEq];constructor
   .rintro⟨⟨e,j⟩,o,q,r⟩;exact⟨⟨⟨⟨q,e⟩,j⟩,o⟩,r⟩
   .rintro⟨⟨⟨⟨q,e⟩,j⟩,o⟩,r⟩;exact⟨⟨e,j⟩,o,q,r⟩
  rw [w];generalize decide (a.kq=b.kq)=c1;generalize decide (a.Map=b.Map)=c2;generalize decide (a.ea.fd=b.ea.fd)=c3;generalize decide (a.ea.d5.d3=b.ea.d5.d3)=c4;generalize decide (a.ea.d5.d4=b.ea.d5.d4)=c5;generalize decide (a.ea.ek=b.ea.ek)=c6;generalize decide (a.ea.kl=b.ea.kl)=c7;generalize Z9 a.fu b.fu=c8;cases c1
  .rfl
  cases c2
  .rfl
  cases c3
  .rfl
  cases c4
  .rfl
  cases c5
  .rfl
  cases c6
  .rfl
  cases c7
  .rfl
  rfl
theorem ur(a b:d7):NG a b=Y (Wr a b):=D0 (SizeOf.sizeOf a) λn d=>ny _ a b (az _) n d
end Go.Sf.Sc
namespace Go.Sf.Sc
open Go Go.Sf
mutual
def Dv:d7->Nat
 |⟨_,kids,_,_⟩=>1+TO kids
def TO:List d7->Nat
 |[]=>0|k::l=>Dv k+TO l
end
mutual
def dep:d7->Nat
 |⟨k,kids,_,_⟩=>(if k=5 then 1 else 0)+wy kids
def wy:List d7->Nat
 |[]=>0|k::l=>max (dep k) (wy l)
end
theorem VN(c:d7):Dv c=1+TO c.fu:=by cases c;rfl
variable{k:Int}
theorem uB{l:List d7}(d:0<=k)(e:k<l.length):l.drop k.toNat=AA l k::l.drop (k+1).toNat:=by
 rw [show(k+1).toNat=k.toNat+1 by omega,List.drop_eq_getElem_cons U];unfold AA;rw[List.getD_eq_getElem?_getD,List.getElem?_eq_getElem U];rfl
theorem aC:∀(N:Nat)(c:d7),SizeOf.sizeOf c<=N->(AI c).Sm->∀sx:Int,0<=sx->sx<=1000->∃r,(∀n,N<=n->DA n c sx=Y r)/\-1<=r/\r<=sx-1/\(0<=r->EL c/\(Dv c:Int)+r<=sx)
 |0,c,h,_,_,_,_=>by have:=Dx c;omega|N+1,c,h,κ,sx,m0,m1=>by
  obtain ⟨L,M,D⟩:=ii κ;obtain⟨O,z,P⟩:=Tk c.ea;obtain⟨Q,F,R⟩:=ZQ L;have step:∀n,N+1<=n->∃m,n=m+1/\N<=m:=λn d=>⟨n-1,U,U⟩;cases O
  .refine⟨-1,λn d=>?_,U,U,λh=>U⟩;obtain⟨n,rfl,_⟩:=step n d;rw[DA,z];rfl
  cases Q
  .refine⟨-1,λn d=>?_,U,U,λh=>U⟩;obtain⟨n,rfl,_⟩:=step n d;rw[DA,z,bs,F];rfl
  have loop:∀(m:Nat)(k left:Int),0<=k->k+m=c.fu.length->-1<=left->left<=1000->∃e w,(∀n,N<=n->MU (ρ:=Int) (λ(q:Int×Int)=>
    if ((decide (q.2<(c.fu.length:Int)))&&(decide (0<=q.1)))=X then
    (idx c.fu q.2).bind λA=>
    (DA n A q.1).bind λB=>
    Y (.next (B,AJ (q.2+1)))
    else
    Y (.brk (q.1,q.2))) (left,k) (.inl (e,w)))/\-1<=e/\e<=left/\(0<=e->(∀j,k<=j->j<c.fu.length->EL (AA c.fu j))/\(TO (c.fu.drop k.toNat):Int)+e<=left):=by
   intro m
   induction m with
   |zero=>
    intro k left y I E l1;refine⟨left,k,λn d=>.brk ?_,E,U,λ_=>⟨λj C x=>U,?_⟩⟩
    .rw[ae an]
    .rw[List.drop_of_length_le U,TO];omega
   |succ m ε=>
    intro k left y I E l1;by_cases J:0<=left
    .have o:=AF (l:=c.fu) y U;have:=Eb o;obtain⟨r,S,θ,η,H⟩:=aC N _ U (D _ o) left J l1;obtain⟨e,w,a1,a2,a3,v⟩:=ε (k+1) r U U θ U;refine⟨e,w,λn d=>.next (s':=(r,k+1)) ?_ (a1 n d),a2,U,λu=>⟨λj C x=>?_,?_⟩⟩
     .rw[ac an,AD y U,bs,S n d,bs,AT U U]
     .by_cases K:j=k
      .subst K;exact(H U).1
      .exact(v u).1 j U x
     .have z:=(H U).2;have F:=(v u).2;rw[uB y U,TO];omega
    .refine⟨left,k,λn d=>.brk ?_,E,U,λh=>U⟩;rw[ae an]
  obtain ⟨e,w,a1,a2,a3,v⟩:=loop c.fu.length 0 (sx-1) U U U U;refine⟨e,λn d=>?_,a2,a3,λu=>⟨.mk c (P rfl) (R rfl) (λk D=>?_),?_⟩⟩
  .obtain⟨n,rfl,G⟩:=step n d;rw[DA,z,bs,F];simp only[bs,x_,x!,if_false];rw[AT (n:=sx-1) U U,(a1 n G).eq,B2]
  .obtain⟨j,C,x,rfl⟩:=BT D;exact(v u).1 j C x
  .have:=(v u).2;rw[show(0:Int).toNat=0 from rfl,List.drop_zero]at this;rw[VN];omega
variable{c:d7}
theorem mu(d:(AI c).Sm):∃b,Kt c=Y b/\(b=X->EL c/\Dv c<=40):=by
 obtain ⟨r,j,_,_,m⟩:=aC (SizeOf.sizeOf c) c (az _) d 40 U U;have e:Rt c 40=Y r:=D0 (SizeOf.sizeOf c) j;unfold Kt;rw[e];exact⟨_,rfl,λh=>by have:=m b?;exact⟨this.1,by have:=this.2;simp at h;omega⟩⟩
theorem XI:∀{l:List d7}{k:d7},k∈l->Dv k<=TO l
 |x::l,k,h=>by
  rw [TO];rcases List.mem_cons.1 h with rfl|h
  .omega
  .have:=XI h;omega
end Go.Sf.Sc
namespace Go.Sf.Sc
open Go Go.Sf
class PL(α:Type)where
 at_:α->Int->Int
 ok:α->Nat->Prop
instance:PL Fp:=⟨AA,λl n=>l.length=n⟩
instance:PL (Option Fp):=⟨λo i=>match o with|none=>-1|some l=>AA l i,λo n=>match o with|none=>True|some l=>l.length=n⟩
structure Nn(f:AM):Prop where
 pn:PL.ok f.gl.d3 f.p.d3.length
 pe:PL.ok f.gl.d4 f.p.d4.length
 ends:∀e∈f.p.d4,0≤e.ke/\e.ke<f.p.d3.length/\0≤e.To/\e.To<f.p.d3.length
 kinds:∀n∈f.p.d3,0<=n/\n<f.is.length/\∀t∈f.g.d3,0<=t/\t<(AA f.is n).length
 small:f.p.d3.length<=1000/\f.p.d4.length<=1000/\f.g.d3.length<=1000/\f.g.d4.length<=1000
def LX(f:AM)(i k:Int):Bool:=
 (decide (PL.at_ f.gl.d4 i<0)||decide (PL.at_ f.gl.d4 i=k))&&decide (AA f.g.d4 k=⟨(AA f.p.d4 i).kg,AA f.ec (AA f.p.d4 i).ke,AA f.ec (AA f.p.d4 i).To⟩)
variable{α:Type}
theorem nY{l:List α}(h:l≠[]):XZ l=Y ():=by grind[XZ]
variable{l:Fp}{i:Int}
theorem YO(e:0<=i)(d:i<l.length):((XZ l).bind λ_=>(idx l i).bind λx=>Y x)=Y (AA l i):=by
 rw [nY (by intro h;subst h;simp at d;omega),bs,AD e d,bs]
variable{n:Nat}
theorem eJ:∀{l},PL.ok l n->0<=i->i<n->M2 l i=Y (PL.at_ l i):=by
 intro l h d e
 first
  |(cases l with
    |none=>rfl|some l=>exact YO d (by have:l.length=n:=h;omega))
  |exact YO d (by have:l.length=n:=h;omega)
variable{f:AM}{k:Int}
theorem n9(hf:Nn f)(d:0<=i)(i1:i<f.p.d4.length)(e:0<=k)(h:k<f.g.d4.length)(j:(AA f.p.d4 i).ke<f.ec.length)(hT:(AA f.p.d4 i).To<f.ec.length):EN f i k=Y (LX f i k):=by
 have he:=hf.ends _ (AF d i1);unfold EN LX;rw[AD d i1,bs,eJ hf.pe d i1,bs,AD e h,bs,AD he.1 j,bs,AD he.2.2.1 hT,bs]
 grind
def QO(f:AM):Bool:=!l3 (λi=>decide (max (AA f.p.d4 i).ke (AA f.p.d4 i).To=(f.ec.length:Int)-1)&&!l3 (λk=>LX f i k) 0 f.g.d4.length) 0 f.p.d4.length
variable{b:Int}
theorem th{f:Int->Bool->Option (B0 Bool Bool)}(p:Int->Bool)(h:∀i,0<=i->i<b->f i T=Y (if p i=X then .brk X else .next T)):jj f 0 b T=Y (.inl (l3 p 0 b)):=by
 have key:∀(m:Nat)(i:Int),0<=i->i+m=b->z1 f m i T=Y (.inl (l3 p i b)):=by
  intro m
  induction m with
  |zero=>
   intro i d hi;have:l3 p i b=T:=by rw[By];intro j q r;omega
   rw [this];rfl
  |succ m u=>
   intro i d hi;rw[GF,h i d U];by_cases o:p i=X
   .have:l3 p i b=X:=by rw[Cu];exact⟨i,A_ _,U,o⟩
    rw [ac o,this]
   .have e:l3 p i b=l3 p (i+1) b:=by
     rw [w!,Cu,Cu]
     grind
    grind
 unfold jj;by_cases hb:0<=b
 .grind
 .have:l3 p 0 b=T:=by rw[By];intro j q r;omega
  rw [this,show(b-0).toNat=0 by omega];rfl
theorem lQ(hf:Nn f)(o:0<f.ec.length)(h:f.ec.length<=1000):Cc f=Y (QO f):=by
 unfold Cc QO;rw[Bf (λi=>decide (max (AA f.p.d4 i).ke (AA f.p.d4 i).To=(f.ec.length:Int)-1)&&!l3 (λk=>LX f i k) 0 f.g.d4.length) T]
 .generalize l3 (λi=>decide (max (AA f.p.d4 i).ke (AA f.p.d4 i).To=(f.ec.length:Int)-1)&&!l3 (λk=>LX f i k) 0 f.g.d4.length) 0 f.p.d4.length=b;cases b<;>rfl
 .intro i d i1 _;rw[AD d i1,bs,AT (n:=(f.ec.length:Int)-1) U U];by_cases e:max (AA f.p.d4 i).ke (AA f.p.d4 i).To=(f.ec.length:Int)-1
  .rw[ae c_,th (λk=>LX f i k) (λk j m=>by
    rw [n9 hf d i1 j m U U,bs,I7])]
   generalize l3 (λk=>LX f i k) 0 f.g.d4.length=b;rw[decide_eq_true e];cases b<;>rfl
  grind
def A0(n:Nat):Fp:=(List.range n).map Int.ofNat
theorem V8(n:Nat):A0 (n+1)=A0 n++[(n:Int)]:=by grind[A0,List.range_succ]
def SV(f:AM)(k:Int):Bool:=(decide (PL.at_ f.gl.d3 f.ec.length<0)||decide (PL.at_ f.gl.d3 f.ec.length=k))&&AA (AA f.is (AA f.p.d3 f.ec.length)) (AA f.g.d3 k)&&!(f.fq&&f.ec.any λx=>decide (k=x))
def SU(f:AM)(k:Int):Bool:=LX f f.eh.length k&&!(f.fq&&f.eh.any λx=>decide (k=x))
def EM:Nat->AM->List d6
 |0,f=>[⟨f.ec,f.eh⟩]|n+1,f=>(A0 f.g.d4.length).flatMap λk=>if SU f k=X then EM n {f with eh:=f.eh++[k]}else[]
def K4:Nat->AM->List d6
 |0,f=>EM f.p.d4.length f|n+1,f=>(A0 f.g.d3.length).flatMap λk=>if(SV f k&&QO {f with ec:=f.ec++[k]})=X then K4 n {f with ec:=f.ec++[k]}else[]
theorem bY(a b:List α)(m:Nat):((a.take m)++b).take m=(a++b).take m:=by
 by_cases h:a.length<=m
 .rw[A! h]
 grind
end Go.Sf.Sc
namespace Go.Sf.Sc
open Go Go.Sf
def Ud(f:AM)(o:List d6):AM:={f with out:=o}
variable{f:AM}
theorem Nn.out(h:Nn f)(o:List d6):Nn (Ud f o):=⟨h.pn,h.pe,h.ends,h.kinds,h.small⟩
theorem SF:∀(n:Nat)(f:AM)(o:List d6),EM n (Ud f o)=EM n f
 |0,_,_=>rfl|n+1,f,o=>by
  rw [EM,EM];refine congrArg (λF=>(A0 f.g.d4.length).flatMap F) (funext λk=>?_);have:=SF n {f with eh:=f.eh++[k]} o;show(if SU f k=X then EM n (Ud {f with eh:=f.eh++[k]} o)else[])=_;rw[this]
theorem dO:∀(n:Nat)(f:AM)(o:List d6),K4 n (Ud f o)=K4 n f
 |0,f,o=>SF _ f o|n+1,f,o=>by
  rw [K4,K4];refine congrArg (λF=>(A0 f.g.d3.length).flatMap F) (funext λk=>?_);have:=dO n {f with ec:=f.ec++[k]} o;show(if(SV f k&&QO {f with ec:=f.ec++[k]})=X then K4 n (Ud {f with ec:=f.ec++[k]} o)else[])=_;rw[this]
def BU(f:AM)(l:List d6):AM:=Ud f ((f.out++l).take f.sx.toNat)
structure ZC(f:AM):Prop where
 m0:0<=f.sx
 m1:f.sx<=10000
 out:(f.out.length:Int)<=f.sx
theorem Mc(h:ZC f):BU f []=f:=by
 unfold BU;rw[A?,A! (by have:=h.out;have:=h.m0;omega)];rfl
theorem aS(h:(f.out.length:Int)=f.sx)(l:List d6):BU f l=f:=by
 unfold BU;rw[B_ U,A! U];rfl
theorem aU(h:ZC f)(l:List d6):ZC (BU f l):=by
 refine ⟨h.m0,h.m1,?_⟩;have:=h.m0;show(((f.out++l).take f.sx.toNat).length:Int)<=f.sx
 grind
theorem aT(f:AM)(a b:List d6):BU (BU f a) b=BU f (a++b):=by
 show Ud f ((((f.out++a).take f.sx.toNat)++b).take f.sx.toNat)=_;rw[bY,ci];rfl
theorem YH:∀(n:Nat)(f:AM),Nn f->ZC f->f.ec.length=f.p.d3.length->f.eh.length+n=f.p.d4.length->∀m,n+1<=m->BL m f=Y (BU f (EM n f))
 |n,f,hf,hr,J,he,m,w=>by
  obtain ⟨m,rfl⟩:∃k,m=k+1:=⟨m-1,U⟩;have K:=hf.small;have M:=hr.m0;have N:=hr.m1;have O:=hr.out;rw[BL];by_cases e:(f.out.length:Int)=f.sx
  .grind[aS]
  rw [ae f_,ae an]
  match n,he,w with
  |0,he,w=>
   rw [ae an];unfold slices_Clone_int;rw[Be b_,bs,Be b_,bs,AS a_,bs,bs];unfold BU;rw[A! (by simp[EM];omega)];rfl
  |n+1,he,w=>
   rw [ac an];have F:∀k,SU f k=X->Nn {f with eh:=f.eh++[k]}:=λk _=>⟨hf.pn,hf.pe,hf.ends,hf.kinds,hf.small⟩;rw[CC (a:=0) (s:=f) (λi=>BU f ((A0 i.toNat).flatMap λk=>if SU f k=X then EM n {f with eh:=f.eh++[k]}else[])) U (Mc hr)]
   .grind[A',EM]
   .intro i B i1;have C:A0 (i+1).toNat=A0 i.toNat++[i]:=by
     rw [show(i+1).toNat=i.toNat+1 by omega,V8];rw[show((i.toNat:Nat):Int)=i by omega]
    have D:∀l,BU f ((A0 (i+1).toNat).flatMap l)=BU (BU f ((A0 i.toNat).flatMap l)) (l i):=by
     intro l;rw[aT,C,B'];simp
    rw [D];generalize (A0 i.toNat).flatMap (λk=>if SU f k=X then EM n {f with eh:=f.eh++[k]}else[])=L;have o:=aU hr L;have u:Nn (BU f L):=hf.out _;have y:=hf.ends _ (AF (l:=f.p.d4) (i:=(f.eh.length:Int)) U U);rw[n9 u (i:=(f.eh.length:Int)) (k:=i) U (by show _<(f.p.d4.length:Int);omega) B (by exact i1) (by show(AA f.p.d4 f.eh.length).ke<(f.ec.length:Int);omega) (by show(AA f.p.d4 f.eh.length).To<(f.ec.length:Int);omega),bs];have E:slices_Contains_int (BU f L).eh i=Y (f.eh.any λx=>decide (i=x)):=Mb f.eh i;rw[E];have q:LX (BU f L) f.eh.length i=LX f f.eh.length i:=rfl;have key:((AY (BU f L).eh [i]).bind λh=>
      (BL m (AM.mk (BU f L).p (BU f L).g (BU f L).is (BU f L).gl (BU f L).fq (BU f L).sx (BU f L).ec h (BU f L).out)).bind λd=>
      (slc d.eh 0 (f.eh.length:Int)).bind λj=>
      Y (AM.mk d.p d.g d.is d.gl d.fq d.sx d.ec j d.out))=Y (BU (BU f L) (EM n {f with eh:=f.eh++[i]})):=by
     have G:AY (BU f L).eh [i]=Y (f.eh++[i]):=AS (by show f.eh.length+1<=AX;unfold AX;omega);have z:=YH n {BU f L with eh:=f.eh++[i]} ⟨hf.pn,hf.pe,hf.ends,hf.kinds,hf.small⟩ ⟨o.m0,o.m1,o.out⟩ J (by show(f.eh++[i]).length+n=f.p.d4.length;simp;omega) m U;have H:EM n {BU f L with eh:=f.eh++[i]}=EM n {f with eh:=f.eh++[i]}:=SF n {f with eh:=f.eh++[i]} _;rw[H]at z;rw[G,bs];show(BL m {BU f L with eh:=f.eh++[i]}).bind _=_;rw[z,bs];have I:slc (BU {BU f L with eh:=f.eh++[i]} (EM n {f with eh:=f.eh++[i]})).eh 0 (f.eh.length:Int)=Y f.eh:=by
      show slc (f.eh++[i]) 0 (f.eh.length:Int)=_;rw[Iv U (by rw[b6];omega),A',B!]
     rw [I];rfl
    rw [key,q];have v:SU f i=(LX f f.eh.length i&&!(f.fq&&f.eh.any λx=>decide (i=x))):=rfl;have r:(BU f L).fq=f.fq:=rfl;rw[v,r];generalize P:EM n {f with eh:=f.eh++[i]}=A;cases LX f f.eh.length i
    .simp only[x?,x!,if_false,Mc o];rfl
    .cases f.fq
     .rfl
     .cases f.eh.any λx=>decide (i=x)
      .rfl
      .simp only[y_,x_,y!,x!,if_false,Mc o];rfl
end Go.Sf.Sc
namespace Go.Sf.Sc
open Go Go.Sf
theorem YI:∀(n:Nat)(f:AM),Nn f->ZC f->f.eh=[]->f.ec.length+n=f.p.d3.length->∀m,n+f.p.d4.length+1<=m->BL m f=Y (BU f (K4 n f))
 |0,f,hf,hr,he,O,m,P=>by
  grind [K4,YH]
 |n+1,f,hf,hr,he,O,m,P=>by
  obtain ⟨m,rfl⟩:∃k,m=k+1:=⟨m-1,U⟩;have Q:=hf.small;have R:=hr.m0;have S:=hr.m1;have θ:=hr.out;rw[BL];by_cases j:(f.out.length:Int)=f.sx
  .grind[aS]
  rw [ae e?,ac an];rw[CC (a:=0) (s:=f) (λi=>BU f ((A0 i.toNat).flatMap λk=>if(SV f k&&QO {f with ec:=f.ec++[k]})=X then K4 n {f with ec:=f.ec++[k]}else[])) U (Mc hr)]
  .grind[A',K4]
  .intro i z i1;have D:A0 (i+1).toNat=A0 i.toNat++[i]:=by
    rw [show(i+1).toNat=i.toNat+1 by omega,V8];rw[show((i.toNat:Nat):Int)=i by omega]
   have E:∀l,BU f ((A0 (i+1).toNat).flatMap l)=BU (BU f ((A0 i.toNat).flatMap l)) (l i):=by
    intro l;rw[aT,D,B'];simp
   rw [E];generalize (A0 i.toNat).flatMap (λk=>if(SV f k&&QO {f with ec:=f.ec++[k]})=X then K4 n {f with ec:=f.ec++[k]}else[])=L;have o:=aU hr L;have u:(f.ec.length:Int)<(f.p.d3.length:Int):=U
   have q:=hf.kinds _ (AF (l:=f.p.d3) (i:=(f.ec.length:Int)) U u);have v:=q.2.2 _ (AF z i1);have key:((AY (BU f L).ec [i]).bind λe=>
     (Cc (AM.mk (BU f L).p (BU f L).g (BU f L).is (BU f L).gl (BU f L).fq (BU f L).sx e (BU f L).eh (BU f L).out)).bind λr=>
     if r=X then
     (BL m (AM.mk (BU f L).p (BU f L).g (BU f L).is (BU f L).gl (BU f L).fq (BU f L).sx e (BU f L).eh (BU f L).out)).bind λd=>
     (slc d.ec 0 (f.ec.length:Int)).bind λh=>
     Y (AM.mk d.p d.g d.is d.gl d.fq d.sx h d.eh d.out)
     else
     (slc e 0 (f.ec.length:Int)).bind λh=>
     Y (AM.mk (BU f L).p (BU f L).g (BU f L).is (BU f L).gl (BU f L).fq (BU f L).sx h (BU f L).eh (BU f L).out))=Y (BU (BU f L) (if QO {f with ec:=f.ec++[i]}=X then K4 n {f with ec:=f.ec++[i]}else[])):=by
    have F:AY (BU f L).ec [i]=Y (f.ec++[i]):=AS (by show f.ec.length+1<=AX;unfold AX;omega);have B:slc (f.ec++[i]) 0 (f.ec.length:Int)=Y f.ec:=by
     rw [Iv U (by rw[b6];omega),A',B!]
    have G:Cc {BU f L with ec:=f.ec++[i]}=Y (QO {f with ec:=f.ec++[i]}):=lQ (f:={BU f L with ec:=f.ec++[i]}) ⟨hf.pn,hf.pe,hf.ends,hf.kinds,hf.small⟩ (by show 0<(f.ec++[i]).length;simp) (by show(f.ec++[i]).length<=1000;rw[b6];simp;omega);have C:=YI n {BU f L with ec:=f.ec++[i]} ⟨hf.pn,hf.pe,hf.ends,hf.kinds,hf.small⟩ ⟨o.m0,o.m1,o.out⟩ he (by show(f.ec++[i]).length+n=f.p.d3.length;rw[b6];simp;omega) m (by show n+f.p.d4.length+1<=m;omega);have H:K4 n {BU f L with ec:=f.ec++[i]}=K4 n {f with ec:=f.ec++[i]}:=dO n {f with ec:=f.ec++[i]} _;rw[H]at C;rw[F,bs];show(Cc {BU f L with ec:=f.ec++[i]}).bind _=_;rw[G,bs];cases QO {f with ec:=f.ec++[i]}
    .rw[ae a!,ae a!,B,Mc o];rfl
    .rw[ac rfl,ac rfl];show(BL m {BU f L with ec:=f.ec++[i]}).bind _=_;rw[C,bs];have I:slc (BU {BU f L with ec:=f.ec++[i]} (K4 n {f with ec:=f.ec++[i]})).ec 0 (f.ec.length:Int)=Y f.ec:=B;rw[I];rfl
   have J:M2 (BU f L).gl.d3 (f.ec.length:Int)=Y (PL.at_ f.gl.d3 f.ec.length):=eJ (n:=f.p.d3.length) hf.pn U U;have K:idx (BU f L).p.d3 (f.ec.length:Int)=Y (AA f.p.d3 f.ec.length):=AD U u;have hi:idx (BU f L).is (AA f.p.d3 f.ec.length)=Y (AA f.is (AA f.p.d3 f.ec.length)):=AD q.1 q.2.1;have M:idx (AA f.is (AA f.p.d3 f.ec.length)) (AA f.g.d3 i)=Y (AA (AA f.is (AA f.p.d3 f.ec.length)) (AA f.g.d3 i)):=AD v.1 v.2;have N:slices_Contains_int (BU f L).ec i=Y (f.ec.any λx=>decide (i=x)):=Mb f.ec i;have w:(BU f L).fq=f.fq:=rfl;have y:SV f i=((decide (PL.at_ f.gl.d3 f.ec.length<0)||decide (PL.at_ f.gl.d3 f.ec.length=i))&&AA (AA f.is (AA f.p.d3 f.ec.length)) (AA f.g.d3 i)&&!(f.fq&&f.ec.any λx=>decide (i=x))):=rfl;rw[AD z i1,bs,J,bs,K,bs,hi,bs,M,bs,N,key,w,y];generalize AA (AA f.is (AA f.p.d3 f.ec.length)) (AA f.g.d3 i)=c2;have hb:(decide (0<=PL.at_ f.gl.d3 f.ec.length)&&!decide (PL.at_ f.gl.d3 f.ec.length=i))=!(decide (PL.at_ f.gl.d3 f.ec.length<0)||decide (PL.at_ f.gl.d3 f.ec.length=i)):=by
    rw [Bool.not_or];congr 1;rw[<-decide_not];exact decide_eq_decide.2 U
   rw [hb];generalize (decide (PL.at_ f.gl.d3 f.ec.length<0)||decide (PL.at_ f.gl.d3 f.ec.length=i))=c1;generalize QO {f with ec:=f.ec++[i]}=c5;generalize K4 n {f with ec:=f.ec++[i]}=A;cases c1
   .simp only[x?,x!,if_false,Mc o];rfl
   .cases c2
    .simp only[y!,x?,x!,if_false,Mc o];rfl
    .cases f.fq
     .rfl
     .cases f.ec.any λx=>decide (i=x)
      .rfl
      .simp only[y_,x_,y!,x?,x!,if_false,Mc o];rfl
variable{f:AM}
theorem nt(hf:Nn f)(hr:ZC f)(he:f.eh=[])(d:f.ec=[]):HZ f=Y (BU f (K4 f.p.d3.length f)):=
 D0 (f.p.d3.length+f.p.d4.length+1) λm e=>YI _ f hf hr he (by rw[d];simp) m e
end Go.Sf.Sc
namespace Go.Sf.Sc
open Go Go.Sf
theorem A5(n:Nat):(A0 n).length=n:=by simp[A0]
variable{n:Nat}{i:Int}
theorem C6:i∈A0 n↔0<=i/\i<n:=by
 unfold A0;rw[List.mem_map];constructor
 .grind
 .rintro⟨d,e⟩;exact⟨i.toNat,List.mem_range.2 U,by show((i.toNat:Nat):Int)=i;omega⟩
variable{α:Type}
theorem JI[Inhabited α](F:Int->α)(d:0<=i)(e:i<n):AA ((A0 n).map F) i=F i:=by
 unfold AA A0
 grind
theorem Em(d:0<=i):A0 (i+1).toNat=A0 i.toNat++[i]:=by
 rw [show(i+1).toNat=i.toNat+1 by omega,V8,show((i.toNat:Nat):Int)=i by omega]
def Pq(t:AC)(a:Int):a6:=(A0 t.d3.length).map λk=>G2 t k a
def KB(t:AC):List a6:=(A0 t.d3.length).map (Pq t)
variable{t:AC}{a:Int}
theorem ud(hf:A3 t)(h:Fc t)(hv:(BC t).2=0)(a0:0<=a)(a1:a<t.d3.length):KC t a=Y ((A0 t.d3.length).filter λi=>G2 t i a,0):=by
 have d:=h.ec;unfold KC;have hb:MI t a=X:=by simp[MI,a0,a1]
 rw [Zh hf,bs,ae (by simp[hv,hb])];rw[CC (λi=>(A0 i.toNat).filter λi=>G2 t i a) U t?,bs,A']
 grind [ql,Em,A0,G2,List.length_filter_le,A5,AS,AX]
variable{l:Fp}
theorem vY(r:∀x∈l,0<=x/\x<n):n8 (λ(i2:Int)(s2:a6)=>
  (idx l i2).bind λd=>
  (idx s2 d).bind λ_=>
  Y (BE s2 d X)) 0 (l.length:Int) (B? n T)=Y ((A0 n).map λk=>l.any λx=>decide (x=k)):=by
 rw [CC (λj=>(A0 n).map λk=>(l.take j.toNat).any λx=>decide (x=k)) U (by
  refine C_ (by simp[A5]) (λj m w=>V))]
 .rw[A',List.take_length]
 .intro j o m;have q:=r _ (AF o m);rw[AD o m,bs,AD q.1 (by rw[c9,A5];exact q.2),bs,CH o m];congr 1;unfold BE;refine C_ V (λk y u=>?_);have v:k<n:=by simpa[A5]using u
  rw [List.getElem_set];have e:(A0 n)[k]'(by rw[A5];exact v)=(k:Int):=by simp[A0]
  simp only[List.getElem_map,e,C',C!,C?,y?];by_cases h:(AA l j).toNat=k
  .rw[ac h,decide_eq_true (show AA l j=(k:Int)by omega),Bool.or_true]
  .rw[ae h,decide_eq_false (show¬AA l j=(k:Int)by omega),y?]
theorem lU(hf:A3 t)(h:Fc t)(hv:(BC t).2=0):HP t=Y (KB t):=by
 have r:=h.ec;unfold HP;rw[CC (λi=>(A0 i.toNat).map (Pq t)) U t?,bs,A']
 .rfl
 .intro i o i1;have q:He (t.d3.length:Int) T=Y (B? t.d3.length T):=by
   unfold He;rw[ac U,A']
  rw [q,bs,ud hf h hv o i1,bs];have:=vY (n:=t.d3.length) (l:=(A0 t.d3.length).filter λk=>G2 t k i) (λx j=>C6.1 (D_.1 j).1);show(n8 (λ(i2:Int)(s2:a6)=>
   (idx ((A0 t.d3.length).filter λk=>G2 t k i) i2).bind λd=>
   (idx s2 d).bind λ_=>
   Y (BE s2 d X)) 0 (((A0 t.d3.length).filter λk=>G2 t k i).length:Int) (B? t.d3.length T)).bind _=_
  rw [this,bs,AS (by rw[c9,A5];simp;unfold AX;omega),bs,Em o,List.map_append];congr 2;simp only[List.map_cons,List.map_nil];congr 1;unfold Pq;refine List.map_congr_left (λk m=>?_);have m:=C6.1 m;rw[w!,D'];constructor
  .rintro⟨x,j,e⟩;rw[tn]at e;subst e;exact(D_.1 j).2
  .intro hb;exact⟨k,D_.2 ⟨C6.2 m,hb⟩,V⟩
end Go.Sf.Sc
namespace Go.Sf.Sc
open Go Go.Sf
def FT:Nat->AM->List d6
 |0,f=>EM f.p.d4.length f|n+1,f=>(A0 f.g.d3.length).flatMap λk=>if SV f k=X then FT n {f with ec:=f.ec++[k]}else[]
def kC(f:AM)(i:Int):Prop:=0<=i/\i<f.p.d4.length/\0<=(AA f.p.d4 i).ke/\(AA f.p.d4 i).ke<f.ec.length/\0<=(AA f.p.d4 i).To/\(AA f.p.d4 i).To<f.ec.length/\∀k:Int,0<=k->k<f.g.d4.length->LX f i k=T
theorem Xo(f:AM)(i k:Int):LX f i k=((decide (PL.at_ f.gl.d4 i<0)||decide (PL.at_ f.gl.d4 i=k))&&decide (AA f.g.d4 k=⟨(AA f.p.d4 i).kg,AA f.ec (AA f.p.d4 i).ke,AA f.ec (AA f.p.d4 i).To⟩)):=rfl
variable{α:Type}{i:Int}
theorem Ll[Inhabited α](l:List α)(x:α)(d:0<=i)(e:i<l.length):AA (l++[x]) i=AA l i:=by
 unfold AA
 grind
theorem mj:∀(n:Nat)(f:AM)(i:Int),kC f i->(f.eh.length:Int)<=i->i<f.eh.length+n->EM n f=[]
 |0,f,i,_,e,h=>by omega|n+1,f,i,hd,e,h=>by
  rw [EM];refine D!.2 (λk d=>?_);have d:=C6.1 d;by_cases he:(f.eh.length:Int)=i
  .have:SU f k=T:=by
    unfold SU;rw[he,hd.2.2.2.2.2.2 k d.1 d.2];rfl
   grind
  .split
   .exact mj n {f with eh:=f.eh++[k]} i hd (by show((f.eh++[k]).length:Int)<=i;rw[b6];simp;omega) (by show i<((f.eh++[k]).length:Int)+n;rw[b6];simp;omega)
   .rfl
theorem dk:∀(n:Nat)(f:AM)(i:Int),f.eh=[]->kC f i->FT n f=[]
 |0,f,i,he,hd=>by
  rw [FT];exact mj _ f i hd (by rw[he];simpa using hd.1) (by rw[he];simpa using hd.2.1)
 |n+1,f,i,he,hd=>by
  rw [FT];refine D!.2 (λk o=>?_);split
  .refine dk n {f with ec:=f.ec++[k]} i he ?_;obtain⟨d,e,h,v,m,w,x⟩:=hd;have u:((f.ec++[k]).length:Int)=f.ec.length+1:=by rw[b6];simp
   refine ⟨d,e,h,?_,m,?_,λj q r=>?_⟩
   .grind
   .grind
   grind [Xo,AA,Ll]
  .rfl
variable{f:AM}
theorem qx(hf:Nn f)(h:QO f=T):∃i,kC f i:=by
 unfold QO at h;rw[w_,Cu]at h;obtain⟨i,d,i1,h⟩:=h;rw[pq,tn,z_,By]at h;have he:=hf.ends _ (AF d i1);exact⟨i,d,i1,he.1,U,he.2.2.1,U,h.2⟩
theorem dN:∀(n:Nat)(f:AM),Nn f->f.eh=[]->K4 n f=FT n f
 |0,_,_,_=>rfl|n+1,f,hf,he=>by
  rw [K4,FT];refine congrArg (λF=>(A0 f.g.d3.length).flatMap F) (funext λk=>?_);have d:Nn {f with ec:=f.ec++[k]}:=⟨hf.pn,hf.pe,hf.ends,hf.kinds,hf.small⟩;cases SV f k
  .rfl
  .cases e:QO {f with ec:=f.ec++[k]}
   .obtain⟨i,hd⟩:=qx d e
    grind [dk]
   .simp;exact dN n _ d he
end Go.Sf.Sc
namespace Go.Sf.Sc
open Go Go.Sf
variable{a b:Int}
theorem Pz{σ ρ:Type}{f:σ×Int->Option (B0 (σ×Int) ρ)}(g:Int->σ){s:σ}(d:a<=b)(e:s=g a)(h:∀i,a<=i->i<b->f (g i,i)=Y (.next (g (i+1),i+1)))(hb:f (g b,b)=Y (.brk (g b,b))):C3 f (s,a)=Y (.inl (g b,b)):=by
 subst e;have key:∀(n:Nat)(i:Int),a<=i->i+n=b->MU f (g i,i) (.inl (g b,b)):=by
  intro n
  induction n with
  |zero=>
   intro i _ hi;have:i=b:=U
   subst this;exact .brk hb
  |succ n m=>
   intro i j o;exact .next (h i j U) (m (i+1) U U)
 exact (key (b-a).toNat a (A_ _) U).eq
def JM(s:Az)(ec eh:Fp):AM:=⟨s.p,s.g,KB s.t,s.gl,s.fq,s.sx+1,ec,eh,s.Aau⟩
def Cn(s:Az)(l:List d6):Az:={s with Aau:=(s.Aau++l).take (s.sx+1).toNat}
structure X5(s:Az):Prop where
 m0:0<=s.sx
 m1:s.sx<=9999
 out:(s.Aau.length:Int)<=s.sx+1
variable{s:Az}
theorem RF(h:X5 s):Cn s []=s:=by
 unfold Cn;rw[A?,A! (by have:=h.out;have:=h.m0;omega)]
theorem Yy(h:(s.Aau.length:Int)=s.sx+1)(l:List d6):Cn s l=s:=by
 unfold Cn;rw[B_ U,A! U]
theorem Yz(h:X5 s)(l:List d6):X5 (Cn s l):=by
 refine ⟨h.m0,h.m1,?_⟩;have:=h.m0;show(((s.Aau++l).take (s.sx+1).toNat).length:Int)<=s.sx+1
 grind
theorem W8(s:Az)(a b:List d6):Cn (Cn s a) b=Cn s (a++b):=by
 show ({s with Aau:=(((s.Aau++a).take (s.sx+1).toNat)++b).take (s.sx+1).toNat}:Az)=_;rw[bY,ci];rfl
variable{l:Fp}
theorem oa(s:Az)(d:l.length<=1000)(n:Int):Ci s l n=Y (s.fq&&l.any λx=>decide (n=x)):=by
 unfold Ci;cases s.fq
 .rw[Wi (λ_=>T) X (a:=0) (b:=0) (A_ _) (λi i1 i2=>U) (by rw[ae V])];rfl
 .rw[Wi (λi=>decide (AA l i=n)) X (a:=0) (b:=l.length) U (λi i1 i2=>by
   rw [ac (by simp;exact i2),AD i1 i2,bs,AT U U,I7]) (by rw[ae V])]
  have e:l3 (λi=>decide (AA l i=n)) 0 l.length=l.any λx=>decide (n=x):=by
   rw [w!,Cu,D']
   grind [AF,BT]
  rw [e,Bool.true_and];cases l.any λx=>decide (n=x)<;>rfl
theorem bI:∀(n:Nat)(s:Az)(ec l:Fp),Nn (JM s [] [])->X5 s->ec.length=s.p.d3.length->l.length+n=s.p.d4.length->∀m,n+1<=m->B3 m s ec l=Y (Cn s (EM n (JM s ec l)))
 |n,s,ec,l,hf,hr,y,he,m,z=>by
  obtain ⟨m,rfl⟩:∃k,m=k+1:=⟨m-1,U⟩;have r:=hf.small;have P:s.p.d3.length<=1000:=r.1;have s2:s.p.d4.length<=1000:=r.2.1;have Q:s.g.d3.length<=1000:=r.2.2.1;have R:s.g.d4.length<=1000:=r.2.2.2;have S:=hr.m0;have θ:=hr.m1;have ε:=hr.out;rw[B3];by_cases u:(s.Aau.length:Int)=s.sx+1
  .grind[Yy]
  rw [ae an]
  match n,he,z with
  |0,he,z=>
   rw [ac an,Be b_,bs,Be b_,bs,AS a_,bs];unfold Cn;rw[A! (by simp[EM];omega)];rfl
  |n+1,he,z=>
   have e:(0:Int)<=l.length:=U
   have q:(l.length:Int)<s.p.d4.length:=U
   have d:=hf.ends _ (AF (l:=s.p.d4) e q);have E:(AA s.p.d4 l.length).ke<ec.length:=by rw[y];exact d.2.1
   have G:(AA s.p.d4 l.length).To<ec.length:=by rw[y];exact d.2.2.2
   have v:(l.length:Int)<s.gl.d4.length:=by
    have:s.gl.d4.length=s.p.d4.length:=hf.pe;omega
   rw [ae an,AD e q,bs];rw[Pz (λi=>Cn s ((A0 i.toNat).flatMap λk=>if SU (JM s ec l) k=X then EM n (JM s ec (l++[k]))else[])) (a:=0) (b:=(s.g.d4.length:Int)) (s:=s) U (RF hr).symm (λi B i1=>by
    have H:∀F,Cn s ((A0 (i+1).toNat).flatMap F)=Cn (Cn s ((A0 i.toNat).flatMap F)) (F i):=by
     intro F;rw[W8,Em B,List.flatMap_append];simp
    rw [H];generalize (A0 i.toNat).flatMap (λk=>if SU (JM s ec l) k=true then EM n (JM s ec (l++[k]))else[])=L;have C:=Yz hr L;rw[ac (by rw[tn];exact i1)];have I:idx (Cn s L).g.d4 i=some (AA s.g.d4 i):=AD B i1;have J:idx (Cn s L).gl.d4 (l.length:Int)=some (AA s.gl.d4 l.length):=AD e v;have K:Ci (Cn s L) l i=some (s.fq&&l.any λx=>decide (i=x)):=oa (Cn s L) U i;have key:((AY [] l).bind λh=>
      (AY h [i]).bind λj=>
      (B3 m (Cn s L) ec j).bind λo=>
      some (.next (o,AJ (i+1)):B0 (Az×Int) Az))=some (.next (Cn (Cn s L) (EM n (JM s ec (l++[i]))),i+1)):=by
     have D:=bI n (Cn s L) ec (l++[i]) ⟨hf.pn,hf.pe,hf.ends,hf.kinds,hf.small⟩ C y (by show(l++[i]).length+n=s.p.d4.length;rw[b6];simp;omega) m U;have M:EM n (JM (Cn s L) ec (l++[i]))=EM n (JM s ec (l++[i])):=SF n (JM s ec (l++[i])) _;rw[M]at D;rw[Be b_,bs,AS a_,bs,D,bs,AT U U]
    rw [I,bs,J,bs,K,key];simp only[bs];rw[AD d.1 E,AD d.2.2.1 G,AT (n:=i+1) U U];simp only[bs];have w:SU (JM s ec l) i=(((decide (AA s.gl.d4 l.length<0)||decide (AA s.gl.d4 l.length=i))&&decide (AA s.g.d4 i=⟨(AA s.p.d4 l.length).kg,AA ec (AA s.p.d4 l.length).ke,AA ec (AA s.p.d4 l.length).To⟩))&&!(s.fq&&l.any λx=>decide (i=x))):=rfl;have N:decide (AA s.g.d4 i=⟨(AA s.p.d4 l.length).kg,AA ec (AA s.p.d4 l.length).ke,AA ec (AA s.p.d4 l.length).To⟩)=(decide ((AA s.p.d4 l.length).kg=(AA s.g.d4 i).kg)&&decide ((AA s.g.d4 i).ke=AA ec (AA s.p.d4 l.length).ke)&&decide ((AA s.g.d4 i).To=AA ec (AA s.p.d4 l.length).To)):=by
     rw [Bool.eq_iff_iff];simp[tn];generalize AA s.g.d4 i=x;obtain⟨x1,κ,η⟩:=x;simp;constructor
     .rintro⟨a,b,c⟩;exact⟨⟨a.symm,b⟩,c⟩
     .rintro⟨⟨a,b⟩,c⟩;exact⟨a.symm,b,c⟩
    have O:(decide (AA s.gl.d4 l.length<0)||decide (AA s.gl.d4 l.length=i))=!(decide (0<=AA s.gl.d4 l.length)&&!decide (AA s.gl.d4 l.length=i)):=by
     rw [Bool.not_and,Bool.not_not];congr 1;rw[<-decide_not];exact decide_eq_decide.2 U
    rw [w,N,O];generalize EM n (JM s ec (l++[i]))=A;generalize decide (0<=AA s.gl.d4 l.length)=c1;generalize decide (AA s.gl.d4 l.length=i)=c2;generalize decide ((AA s.p.d4 l.length).kg=(AA s.g.d4 i).kg)=c3;generalize decide ((AA s.g.d4 i).ke=AA ec (AA s.p.d4 l.length).ke)=c4;generalize decide ((AA s.g.d4 i).To=AA ec (AA s.p.d4 l.length).To)=c5;generalize (s.fq&&l.any λx=>decide (i=x))=c6;cases c1<;>cases c2<;>cases c3<;>cases c4<;>cases c5<;>cases c6<;>first|rfl|(simp[RF C];try rfl)) (by rw[ae (by simp[Cn])]),B2,A',EM]
   rfl
end Go.Sf.Sc
namespace Go.Sf.Sc
open Go Go.Sf
def Un(s:Az)(l:Fp)(i k:Int):Bool:=decide (AA s.g.d4 k=⟨(AA s.p.d4 i).kg,AA l (AA s.p.d4 i).ke,AA l (AA s.p.d4 i).To⟩)
def UF(s:Az)(l:Fp)(i:Int):Bool:=(decide ((AA s.p.d4 i).ke<l.length)&&decide ((AA s.p.d4 i).To<l.length))&&!(A0 s.g.d4.length).any (Un s l i)
variable{s:Az}{l:Fp}
theorem yA(hf:Nn (JM s [] [])):F9 s l=Y (!l3 (UF s l) 0 s.p.d4.length):=by
 unfold F9;rw[Bf (UF s l) T]
 .cases l3 (UF s l) 0 s.p.d4.length<;>rfl
 .intro i d i1 _;have he:=hf.ends _ (AF (l:=s.p.d4) d i1);rw[AD d i1,bs];unfold UF;by_cases h:(AA s.p.d4 i).ke<l.length
  .by_cases hT:(AA s.p.d4 i).To<l.length
   .rw[ae an,CC (λk=>(A0 k.toNat).any (Un s l i)) U t?,bs,A',decide_eq_true h,decide_eq_true hT]
    .grind
    .intro k e j;rw[AD e j,bs,Em e,C'];have m:Un s l i k=(decide ((AA s.p.d4 i).kg=(AA s.g.d4 k).kg)&&decide ((AA s.g.d4 k).ke=AA l (AA s.p.d4 i).ke)&&decide ((AA s.g.d4 k).To=AA l (AA s.p.d4 i).To)):=by
      unfold Un;rw[w!];simp[tn];generalize AA s.g.d4 k=x;obtain⟨x1,o,q⟩:=x;simp;constructor
      .rintro⟨a,b,c⟩;exact⟨⟨a.symm,b⟩,c⟩
      .rintro⟨⟨a,b⟩,c⟩;exact⟨a.symm,b,c⟩
     rw [AD he.1 h,AD he.2.2.1 hT];simp only[C!,C?,y?,bs];rw[m];generalize (A0 k.toNat).any (Un s l i)=c1;generalize decide ((AA s.p.d4 i).kg=(AA s.g.d4 k).kg)=c3;generalize decide ((AA s.g.d4 k).ke=AA l (AA s.p.d4 i).ke)=c4;generalize decide ((AA s.g.d4 k).To=AA l (AA s.p.d4 i).To)=c5;cases c1<;>cases c3<;>cases c4<;>cases c5<;>rfl
   grind
  grind
theorem xx(hf:Nn (JM s [] []))(h:l3 (UF s l) 0 s.p.d4.length=X):∃i,kC (JM s l []) i:=by
 rw [Cu]at h;obtain⟨i,d,i1,h⟩:=h;unfold UF at h;rw[pq,pq,tn,tn,z_,List.any_eq_false]at h;have he:=hf.ends _ (AF (l:=s.p.d4) d i1);refine⟨i,d,i1,he.1,h.1.1,he.2.2.1,h.1.2,λk j m=>?_⟩;have:=h.2 k (C6.2 ⟨j,m⟩);have e:Un s l i k=T:=by rw[<-w?];exact this
 rw [Xo];show((decide (AA s.gl.d4 i<0)||decide (AA s.gl.d4 i=k))&&Un s l i k)=T;rw[e,y!]
end Go.Sf.Sc
namespace Go.Sf.Sc
open Go Go.Sf
theorem dP:∀(n:Nat)(f:AM)(o:List d6),FT n (Ud f o)=FT n f
 |0,f,o=>SF _ f o|n+1,f,o=>by
  rw [FT,FT];refine congrArg (λF=>(A0 f.g.d3.length).flatMap F) (funext λk=>?_);have:=dP n {f with ec:=f.ec++[k]} o
  grind [SV,FT,Ud]
theorem bJ:∀(n:Nat)(s:Az)(l:Fp),Fc s.t->Nn (JM s [] [])->X5 s->l.length+n=s.p.d3.length->∀m,n+1<=m->B4 m s l=Y (Cn s (FT n (JM s l [])))
 |n,s,l,N,hf,hr,I,m,y=>by
  obtain ⟨m,rfl⟩:∃k,m=k+1:=⟨m-1,U⟩;have J:=hf.small;have ζ:s.p.d3.length<=1000:=J.1;have δ:s.g.d3.length<=1000:=J.2.2.1;have Z:=hr.m0;have h1:=hr.m1;have h2:=hr.out;rw[B4];by_cases C:(s.Aau.length:Int)=s.sx+1
  .grind[Yy]
  rw [ae an,yA hf];cases hd:l3 (UF s l) 0 s.p.d4.length
  case true=>
   grind [xx,dk,JM,RF]
  simp only[bs,Bool.not_false,x_,x!,if_false]
  match n,I,y with
  |0,I,y=>
   rw [ac an,Option.bind_fun_some,FT];exact D0 (s.p.d4.length+1) λm y=>bI s.p.d4.length s l [] hf hr U V m U
  |n+1,I,y=>
   have v:(l.length:Int)<s.p.d3.length:=U
   have o:(0:Int)<=l.length:=U
   have D:(l.length:Int)<s.gl.d3.length:=by
    have:s.gl.d3.length=s.p.d3.length:=hf.pn;omega
   have O:(KB s.t).length=s.t.d3.length:=by unfold KB;rw[c9,A5]
   have d:=hf.kinds _ (AF (l:=s.p.d3) o v);have E:AA s.p.d3 l.length<s.t.d3.length:=by rw[<-O];exact d.2.1
   have j:AA (KB s.t) (AA s.p.d3 l.length)=Pq s.t (AA s.p.d3 l.length):=JI (Pq s.t) d.1 E;rw[ae an];rw[Pz (λi=>Cn s ((A0 i.toNat).flatMap λk=>if SV (JM s l []) k=X then FT n (JM s (l++[k]) [])else[])) (a:=0) (b:=(s.g.d3.length:Int)) (s:=s) U (RF hr).symm (λi z i1=>by
    have P:∀F,Cn s ((A0 (i+1).toNat).flatMap F)=Cn (Cn s ((A0 i.toNat).flatMap F)) (F i):=by
     intro F;rw[W8,Em z,List.flatMap_append];simp
    rw [P];generalize (A0 i.toNat).flatMap (λk=>if SV (JM s l []) k=true then FT n (JM s (l++[k]) [])else[])=L;have K:=Yz hr L;rw[ac (by rw[tn];exact i1)];have q:=d.2.2 _ (AF (l:=s.g.d3) z i1);have w:AA s.g.d3 i<s.t.d3.length:=by
     have h:=q.2;have e:AA (JM s [] []).is (AA s.p.d3 l.length)=Pq s.t (AA s.p.d3 l.length):=j;rw[e]at h;unfold Pq at h
     rwa [c9,A5]at h
    have G:FE (Cn s L).t (AA s.g.d3 i) (AA s.p.d3 l.length)=some (G2 s.t (AA s.g.d3 i) (AA s.p.d3 l.length)):=We N q.1 w d.1;have Q:idx (Cn s L).g.d3 i=some (AA s.g.d3 i):=AD z i1;have R:idx (Cn s L).gl.d3 (l.length:Int)=some (AA s.gl.d3 l.length):=AD o D;have S:Ci (Cn s L) l i=some (s.fq&&l.any λx=>decide (i=x)):=oa (Cn s L) U i;have θ:idx (Cn s L).p.d3 (l.length:Int)=some (AA s.p.d3 l.length):=AD o v;have key:((AY [] l).bind λB=>
      (AY B [i]).bind λr=>
      (B4 m (Cn s L) r).bind λu=>
      some (.next (u,AJ (i+1)):B0 (Az×Int) Az))=some (.next (Cn (Cn s L) (FT n (JM s (l++[i]) [])),i+1)):=by
     have M:=bJ n (Cn s L) (l++[i]) N ⟨hf.pn,hf.pe,hf.ends,hf.kinds,hf.small⟩ K (by show(l++[i]).length+n=s.p.d3.length;rw[b6];simp;omega) m U;have ε:FT n (JM (Cn s L) (l++[i]) [])=FT n (JM s (l++[i]) []):=dP n (JM s (l++[i]) []) _;rw[ε]at M;rw[Be b_,bs,AS a_,bs,M,bs,AT U U]
    rw [R,bs,S,Q,θ,key];simp only[bs];rw[G,AT (n:=i+1) U U];simp only[bs];have H:SV (JM s l []) i=((decide (AA s.gl.d3 l.length<0)||decide (AA s.gl.d3 l.length=i))&&AA (AA (KB s.t) (AA s.p.d3 l.length)) (AA s.g.d3 i)&&!(s.fq&&l.any λx=>decide (i=x))):=rfl;have κ:AA (AA (KB s.t) (AA s.p.d3 l.length)) (AA s.g.d3 i)=G2 s.t (AA s.g.d3 i) (AA s.p.d3 l.length):=by
     rw [j];exact JI (λk=>G2 s.t k (AA s.p.d3 l.length)) q.1 w
    have η:(decide (AA s.gl.d3 l.length<0)||decide (AA s.gl.d3 l.length=i))=!(decide (0<=AA s.gl.d3 l.length)&&!decide (AA s.gl.d3 l.length=i)):=by
     rw [Bool.not_and,Bool.not_not];congr 1;rw[<-decide_not];exact decide_eq_decide.2 U
    rw [H,κ,η];generalize FT n (JM s (l++[i]) [])=A;generalize decide (0<=AA s.gl.d3 l.length)=c1;generalize decide (AA s.gl.d3 l.length=i)=c2;generalize G2 s.t (AA s.g.d3 i) (AA s.p.d3 l.length)=c3;generalize (s.fq&&l.any λx=>decide (i=x))=c6;cases c1<;>cases c2<;>cases c3<;>cases c6<;>first|rfl|(simp[RF K];try rfl)) (by rw[ae (by simp[Cn])]),B2,A',FT]
   rfl
end Go.Sf.Sc
namespace Go.Sf.Sc
open Go Go.Sf
def FF(t:AC)(p g:d5)(pa:d6)(inj:Bool):AM:=⟨p,g,KB t,pa,inj,5001,[],[],[]⟩
def JY(t:AC)(p g:d5)(pa:d6)(inj:Bool):List d6:=(FT p.d3.length (FF t p g pa inj)).take 5001
variable{t:AC}{p g:d5}
theorem uh{pa:d6}{inj:Bool}(j:A3 t)(hv:(BC t).2=0)(d:Nn (FF t p g pa inj)):GL t p g pa inj 5001=Y (JY t p g pa inj):=by
 unfold GL;rw[lU j (Cq hv) hv,bs];have h:=nt (f:=FF t p g pa inj) d ⟨by show(0:Int)<=5001;omega,by show(5001:Int)<=10000;omega,by show((0:Nat):Int)<=5001;omega⟩ rfl rfl;rw[dN _ _ d rfl]at h;have e:AM.mk p g (KB t) pa inj 5001 [] [] []=FF t p g pa inj:=rfl;rw[e,h];rfl
theorem tN{pa:d6}{inj:Bool}(hv:(BC t).2=0)(d:Nn (FF t p g pa inj)):Kr t p g pa inj 5000=Y (JY t p g pa inj):=by
 unfold Kr;have h:HV ⟨t,p,g,pa,inj,5000,[]⟩ []=Y (Cn ⟨t,p,g,pa,inj,5000,[]⟩ (FT p.d3.length (FF t p g pa inj))):=
  D0 (p.d3.length+1) λm e=>bJ p.d3.length ⟨t,p,g,pa,inj,5000,[]⟩ [] (Cq hv) d ⟨by show(0:Int)<=5000;omega,by show(5000:Int)<=9999;omega,by show((0:Nat):Int)<=5000+1;omega⟩ p? m e
 rw [h];rfl
end Go.Sf.Sc
namespace Go.Sf.Sc
open Go Go.Sf
def XE(n k:Int):Bool:=decide (k< -1)||decide (n<=k)
def S7(l:Fp)(n:Int):Int:=if l.any (XE n)=X then 6 else 0
theorem nw(l:Fp)(n:Int):IV l n=Y (S7 l n):=by grind[IV,S7,OY,XE,VJ]
variable{l:Fp}
theorem fj{c:Int}(n:Int)(h:(l.length:Int)=c):Kf l c n=Y (S7 l n):=by
 unfold Kf S7;rw[ae s?,Bf (λi=>XE n (AA l i)) 6]
 .have e:l3 (λi=>XE n (AA l i)) 0 l.length=l.any (XE n):=by
   rw [w!,Cu,D']
   grind [AF,BT]
  rw [e];cases l.any (XE n)<;>rfl
 grind [AD,XE,AA]
end Go.Sf.Sc
namespace Go.Sf.Sc
open Go Go.Sf
theorem fT(t:AC)(g:d5):GX t g=Y (C0 t g):=by grind[GX,C0,MP,VJ,MQ,iZ]
def Ep(t:AC)(p g:d5):Int:=if(BC t).2≠0 then(BC t).2 else if CE p≠0 then CE p else if CE g≠0 then CE g else if(C0 t p&&C0 t g)=X then 0 else 13
variable{t:AC}
theorem Wc(hf:A3 t)(p g:d5):FH t p g=Y (Ep t p g):=by
 unfold FH Ep;rw[O0 hf,bs];refine EO λ_=>?_;have o:jj (ρ:=Int) (λ(m:Int)(_:Unit)=>
   (idx [p,g] m).bind λj=>
   (DO j).bind λh=>
   if (!decide (h=0))=X then
   Y (.ret h)
   else
   Y (.next ())) 0 ([p,g].length:Int) ()=Y (if CE p≠0 then .inr (CE p)else if CE g≠0 then .inr (CE g)else .inl ()):=by
  show z1 _ 2 0 ()=_;rw[GF,show idx [p,g] 0=Y p from rfl,bs,Oz,bs];by_cases d:CE p=0
  .rw[ae (by simp[d]),ae (by simp[d])];show z1 _ 1 (0+1) ()=_;rw[GF,show idx [p,g] (0+1)=Y g from rfl,bs,Oz,bs];by_cases e:CE g=0
   .rw[ae c_,ae c_];rfl
   .rw[ac c_,ac e]
  .rw[ac (by simp[d]),ac d]
 rw [o];by_cases d:CE p=0
 .by_cases e:CE g=0
  .simp[d,e,B2];rw[fT,fT,bs];cases C0 t p<;>cases C0 t g<;>rfl
  .simp[d,e,not_false_eq_true,TH]
 .simp[d,not_false_eq_true,TH]
theorem Ui(hf:A3 t)(p g:d5):F3 t p g=Y (Ep t p g):=by
 unfold F3 Ep;rw[R7 hf,bs];refine EO λ_=>?_;rw[NU,bs];refine EO λd=>?_;rw[NU,bs];refine EO λe=>?_
 grind [Zo,Dh,C0]
end Go.Sf.Sc
namespace Go.Sf.Sc
open Go Go.Sf
variable{t:AC}{p g:d5}
theorem XM{pa:d6}{inj:Bool}(h:Ep t p g=0)(r:pa.d3.length=p.d3.length)(u:pa.d4.length=p.d4.length):(BC t).2=0/\Nn (FF t p g pa inj):=by
 unfold Ep at h;by_cases hv:(BC t).2=0
 .rw[ae l_]at h;by_cases o:CE p=0
  .rw[ae q?]at h;by_cases q:CE g=0
   .rw[ae (by simp[q])]at h;by_cases d:(C0 t p&&C0 t g)=X
    .rw[pq]at d;have op:=Dh o;have m:=Dh q;have tp:=Hq op d.1;have w:=Hq m d.2;have x:(KB t).length=t.d3.length:=by unfold KB;rw[c9,A5]
     refine ⟨hv,r,u,λe he=>?_,λn v=>?_,Nat.le_trans op.ec U,Nat.le_trans op.eh U,Nat.le_trans m.ec U,Nat.le_trans m.eh U⟩
     .have:=op.fit e he;exact⟨this.2.1.1,this.2.1.2,this.2.2.1,this.2.2.2⟩
     .have:=tp.1 n v;refine⟨this.1,by show n<((KB t).length:Int);rw[x];exact this.2,λk j=>?_⟩;have j:=w.1 k j;refine⟨j.1,?_⟩;show k<((AA (KB t) n).length:Int)
      grind [KB,JI,Pq,c9,A5]
    grind
   grind
  grind
 grind
def UH(t:AC)(p g:d5)(pa:d6)(inj:Bool):List d6×Int:=
 if Ep t p g≠0 then([],Ep t p g)else if¬(pa.d3.length=p.d3.length/\pa.d4.length=p.d4.length)then([],20)else
 if S7 pa.d3 g.d3.length≠0 then([],S7 pa.d3 g.d3.length)else if S7 pa.d4 g.d4.length≠0 then([],S7 pa.d4 g.d4.length)else
 if 5000<(JY t p g pa inj).length then([],3)else(JY t p g pa inj,0)
theorem qh(hf:A3 t)(p g:d5)(pa:d6)(inj:Bool):Hp t p g pa inj=Y (UH t p g pa inj):=by
 unfold Hp UH;rw[Wc hf,bs];refine Dy λe=>?_;refine Q4 (by simp[z_,decide_eq_false_iff_not];omega) λd=>?_;have d:=z?.1 d;rw[nw,bs];refine Dy λh=>?_;rw[nw,bs];refine Dy λj=>?_
 grind [XM,Jn,uh,JY]
theorem rC(hf:A3 t)(p g:d5)(pa:d6)(inj:Bool):Io t p g pa inj=Y (UH t p g pa inj):=by
 unfold Io UH;rw[Ui hf,bs];refine Dy λe=>?_;refine Q4 (by simp[z_,decide_eq_false_iff_not];omega) λd=>?_;have d:=z?.1 d;rw[fj _ U,bs];refine Dy λh=>?_;rw[fj _ U,bs];refine Dy λj=>?_
 grind [XM,tN,JY]
def NS(p:d5):d6:=⟨B? p.d3.length (-1),B? p.d4.length (-1)⟩
variable{n:Nat}{i:Int}
theorem gJ(d:0<=i)(e:i<n):BE (B? i.toNat (-1:Int)++B? (n-i.toNat) 0) i (-1)=B? (i+1).toNat (-1)++B? (n-(i+1).toNat) 0:=by
 unfold BE;rw[List.set_append_right _ _ V,show n-i.toNat=(n-(i+1).toNat)+1 by omega,List.replicate_succ,List.length_replicate,Nat.sub_self,List.set_cons_zero,show(i+1).toNat=i.toNat+1 by omega,List.replicate_succ',ci];rfl
theorem rJ(h:p.d3.length<=100)(j:p.d4.length<=100):LQ p=Y (NS p):=by
 unfold LQ;have m1:He (p.d3.length:Int) (0:Int)=Y (B? p.d3.length 0):=by unfold He;rw[ac U,A']
 have e:He (p.d4.length:Int) (0:Int)=Y (B? p.d4.length 0):=by unfold He;rw[ac U,A']
 rw [m1,bs,e,bs];rw[Pz (λi=>(⟨B? i.toNat (-1)++B? (p.d3.length-i.toNat) 0,B? p.d4.length 0⟩:d6)) (a:=0) (b:=p.d3.length) U V,B2]
 .dsimp only;rw[Pz (λi=>(⟨B? p.d3.length (-1),B? i.toNat (-1)++B? (p.d4.length-i.toNat) 0⟩:d6)) (a:=0) (b:=p.d4.length) U V,B2]
  .simp[NS]
  .intro i d i1;dsimp only;rw[ac an,AD d an,bs,gJ d i1,AT (n:=i+1) U U]
  .dsimp only;rw[ae V]
 .intro i d i1;dsimp only;rw[ac an,AD d an,bs,gJ d i1,AT (n:=i+1) U U]
 .dsimp only;rw[ae V]
end Go.Sf.Sc
