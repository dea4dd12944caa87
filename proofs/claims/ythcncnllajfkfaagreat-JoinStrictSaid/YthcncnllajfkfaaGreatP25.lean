/- Plain lemmas: what the functions of the program and of the reference compute. -/
import Derived.Test.YthcncnllajfkfaaGreatP1
import Derived.Test.YthcncnllajfkfaaGreatEval
set_option linter.all false
set_option maxRecDepth 100000
open Option renaming some->Y
open Bool renaming true->X,false->T
open Bool renaming not_eq_false'->v1,eq_iff_iff->v5,not_eq_true->v6,not_true->v_,false_eq_true->v!,false_and->v?,and_self->w_,and_false->w!,or_false->w?,not_eq_true'->x_
open Classical renaming propDecidable->x!,not_not->x?
open Int renaming le_refl->y_,toNat_natCast->y!
open List renaming take_of_length_le->y?,append_nil->z_,take_append_of_le_length->z!,flatMap_append->z?,take_left->A_,replicate->A',ext_getElem->A!,any_append->A?,any_cons->B_,any_nil->B',mem_filter->B!,any_eq_true->B?,flatMap_eq_nil_iff->C_
namespace Go.Sf.Sc
open Go Go.Sf
variable{t:AC}{c:d5}
theorem vM(hf:A0 t)(p:d7)(e:ET c):D0 t p c=Y (PK t p c):=by
 by_cases d:(BF t).2=0
 .exact oT hf d p e
 .unfold D0 PK;rw[Ym hf,bs];refine EX λh=>?_;exfalso;unfold JP at h;rw[a6 d]at h;exact d h
end Go.Sf.Sc
namespace Go.Sf.Sc
open Go Go.Sf
variable{α:Type}
theorem Z6[Inhabited α](b:α->α->Bool){l m:List α}(hb:∀x∈l,∀y∈m,(b x y=X↔x=y))(d:l.length=m.length):kg (λi=>!b (AA l i) (AA m i)) 0 l.length=T↔l=m:=by
 rw [B6];constructor
 .intro h;refine Xv d (λi i1 i2=>?_);have:=h i i1 i2;rw[v1]at this;exact(hb _ (AI i1 i2) _ (AI i1 U)).1 this
 .rintro rfl i i1 i2;rw[v1];exact(hb _ (AI i1 i2) _ (AI i1 i2)).2 rfl
theorem V3[Inhabited α][DecidableEq α]{l m:List α}(q:l.length=m.length){k:Unit->K1}{j:Bool->K1}:ei (gt (ρ:=Bool) (λ(o:Int)(_:Unit)=>
 (idx l o).bind λd=>
 (idx m o).bind λe=>
 if (!decide (d=e))=X then
 Y (.ret T)
 else
 Y (.next ())) 0 (l.length:Int) ()) k j=if l=m then k ()else j T:=by
 rw [Bk (λi=>!decide (AA l i=AA m i)) T]
 .have:=Z6 (λx y:α=>decide (x=y)) (l:=l) (m:=m) (λ_ _ _ _=>decide_eq_true_iff) q;by_cases h:l=m
  .rw[this.2 h,a6 h];rfl
  .rw[ac h];cases r:kg (λi=>!decide (AA l i=AA m i)) 0 l.length
   .exact absurd (this.1 r) h
   .rfl
 .intro i i1 i2 _;rw[AD i1 i2,bs,AD i1 U,bs,JO]
theorem QE[Inhabited α][DecidableEq α](l m:List α):(if(!decide ((l.length:Int)=(m.length:Int)))=X then
 Y T
 else
 ei (gt (ρ:=Bool) (λ(q:Int)(_:Unit)=>
 (idx l q).bind λd=>
 (idx m q).bind λj=>
 if (!decide (d=j))=X then
 Y (.ret T)
 else
 Y (.next ())) 0 (l.length:Int) ()) (λ_=>
 Y X) (λr=>Y r))=Y (decide (l=m)):=by
 by_cases o:l.length=m.length
 .rw[ac p?,V3 o];by_cases h:l=m
  .rw[a6 h,decide_eq_true h]
  .rw[ac h,decide_eq_false h]
 .rw[a6 a_,decide_eq_false (λe=>o (by rw[e]))]
theorem Kb(l m:Fp):slices_Equal_int l m=Y (decide (l=m)):=QE l m
theorem gO(l m:List CN):Gn l m=Y (decide (l=m)):=QE l m
theorem om(l m:List C4):IL l m=Y (decide (l=m)):=QE l m
theorem oo(l m:List Test):IM l m=Y (decide (l=m)):=QE l m
theorem Z1(l m:Fp):Ir l m=Y (decide (l=m)):=QE l m
theorem WK(l m:Fp):Dq l m=Y (decide (l=m)):=QE l m
theorem WH(a b:d4):Fm a b=Y (decide (a=b)):=by
 unfold Fm;rw[Kb,Kb];obtain⟨a1,e⟩:=a;obtain⟨j,m⟩:=b;by_cases h:a1=j<;>by_cases d:e=m<;>simp[h,d]
theorem WM(a b:d4):IT a b=Y (decide (a=b)):=by
 unfold IT;rw[Z1,Z1];obtain⟨a1,e⟩:=a;obtain⟨j,m⟩:=b;by_cases h:a1=j<;>by_cases d:e=m<;>simp[h,d]
theorem kW(a b:dr):NX a b=Y (decide (a=b)):=by
 unfold NX;rw[WK,bs];obtain⟨a1,j⟩:=a;obtain⟨q,m⟩:=b;by_cases h:a1=q
 .by_cases d:j.length=m.length
  .rw[ac (by simp[h,d]),V3 d];by_cases o:j=m<;>simp[h,o]
  .rw[a6 a_];rw[decide_eq_false (λe=>d (by cases e;rfl))]
 .simp[h]
theorem kX(a b:d7):LY a b=Y (decide (a=b)):=by
 unfold LY;rw[kW,bs];obtain⟨a1,r,x,u⟩:=a;obtain⟨y,v,z,w⟩:=b;by_cases h:a1=y/\x=z/\r.length=v.length/\u.length=w.length
 .obtain⟨j,m,o,d⟩:=h;rw[ac (by simp[j,m,o,d]),V3 o];by_cases q:r=v
  .rw[a6 q,V3 d];by_cases A:u=w<;>simp[j,m,q,A]
  .simp[q]
 .rw[a6 ?_]
  .rw[decide_eq_false (λe=>h (by cases e;exact⟨rfl,rfl,rfl,rfl⟩))]
  .by_cases j:a1=y
   .by_cases m:x=z
    .by_cases o:r.length=v.length
     .have d:¬u.length=w.length:=λd=>h ⟨j,m,o,d⟩;simp;omega
     .simp;omega
    .simp[m]
   .simp[j]
noncomputable def Ur(a b:d5):Bool:=@decide (a=b) (x! _)
theorem ZL{a b:d5}:Ur a b=X↔a=b:=by
 unfold Ur;exact@decide_eq_true_iff _ (x! _)
noncomputable def aP(l m:List d5):Bool:=@decide (l=m) (x! _)
theorem V2{l m:List d5}:aP l m=X↔l=m:=by
 unfold aP;exact@decide_eq_true_iff _ (x! _)
theorem ji(a b:d5):Ur a b=(decide (a.jj=b.jj)&&decide (a.Map=b.Map)&&decide (a.d7=b.d7)&&aP a.em b.em):=by
 rw [v5,ZL];obtain⟨a1,m,o,q⟩:=a;obtain⟨r,u,v,w⟩:=b;simp only[ne,sA,V2,d5.mk.injEq];constructor
 .rintro⟨d,e,h,j⟩;exact⟨⟨⟨d,h⟩,j⟩,e⟩
 .rintro⟨⟨⟨d,h⟩,j⟩,e⟩;exact⟨d,e,h,j⟩
theorem bG{l m:List d5}{f:d5->d5->K1}(hf:∀x∈l,∀y,f x y=Y (Ur x y))(r:l.length=m.length):ei (gt (ρ:=Bool) (λ(q:Int)(_:Unit)=>
 (idx l q).bind λd=>
 (idx m q).bind λe=>
 (f d e).bind λj=>
 if (!j)=X then
 Y (.ret T)
 else
 Y (.next ())) 0 (l.length:Int) ()) (λ_=>
 Y X) (λu=>Y u)=Y (aP l m):=by
 rw [Bk (λi=>!Ur (AA l i) (AA m i)) T]
 .have:=Z6 Ur (l:=l) (m:=m) (λ_ _ _ _=>ZL) r;cases o:kg (λi=>!Ur (AA l i) (AA m i)) 0 l.length
  .rw[V2.2 (this.1 o)];rfl
  .have:aP l m=T:=by
    rw [<-v6,V2];intro h;rw[this.2 h]at o;cases o
   rw [this];rfl
 .intro i i1 i2 _;rw[AD i1 i2,bs,AD i1 U,bs,hf _ (AI i1 i2),bs,JO]
theorem jm{l m:List d5}(h:¬l.length=m.length):aP l m=T:=by
 rw [<-v6,V2];exact λe=>h (by rw[e])
theorem oc:∀(N:Nat)(a b:d5),SizeOf.sizeOf a<=N->∀n,N<=n->DC n a b=Y (Ur a b)
 |0,a,_,h,_,_=>by have:=EI a;omega|N+1,a,b,h,n,I=>by
  obtain ⟨n,rfl⟩:∃m,n=m+1:=⟨n-1,U⟩;have v:Ci a.em b.em (DC n)=Y (aP a.em b.em):=by
   unfold Ci;by_cases d:a.em.length=b.em.length
   .rw[ac (by simp[d]),bG (λx u y=>by have:=FG u;exact oc N x y U n U) d]
   .rw[a6 a_,jm d]
  rw [DC,WH,Kb,gO,om,oo,v,ji];have w:decide (a.d7=b.d7)=(decide (a.d7.ey=b.d7.ey)&&decide (a.d7.dr.dl=b.d7.dr.dl)&&decide (a.d7.dr.d3=b.d7.dr.d3)&&decide (a.d7.ek=b.d7.ek)&&decide (a.d7.j4=b.d7.j4)):=by
   rw [v5];simp only[ne,sA];obtain⟨_,_,_,⟨⟨a1,z⟩,A,B,C⟩⟩:=a;obtain⟨_,_,_,⟨⟨D,E⟩,F,G,H⟩⟩:=b;simp only[d7.mk.injEq,dr.mk.injEq];constructor
   .rintro⟨⟨e,j⟩,o,q,r⟩;exact⟨⟨⟨⟨q,e⟩,j⟩,o⟩,r⟩
   .rintro⟨⟨⟨⟨q,e⟩,j⟩,o⟩,r⟩;exact⟨⟨e,j⟩,o,q,r⟩
  rw [w];generalize decide (a.jj=b.jj)=c1;generalize decide (a.Map=b.Map)=c2;generalize decide (a.d7.ey=b.d7.ey)=c3;generalize decide (a.d7.dr.dl=b.d7.dr.dl)=c4;generalize decide (a.d7.dr.d3=b.d7.dr.d3)=c5;generalize decide (a.d7.ek=b.d7.ek)=c6;generalize decide (a.d7.j4=b.d7.j4)=c7;generalize aP a.em b.em=c8;cases c1
  .rfl
  cases c2
  .rfl
  cases c3
  .rfl
  cases c4
  .rfl
  cases c5
  .rfl
  cases c6
  .rfl
  cases c7
  .rfl
  rfl
theorem vW(a b:d5):NI a b=Y (Ur a b):=DV (SizeOf.sizeOf a) λn d=>oc _ a b (ae _) n d
theorem pC:∀(N:Nat)(a b:d5),SizeOf.sizeOf a<=N->∀n,N<=n->Ii n a b=Y (Ur a b)
 |0,a,_,h,_,_=>by have:=EI a;omega|N+1,a,b,h,n,j=>by
  obtain ⟨n,rfl⟩:∃m,n=m+1:=⟨n-1,U⟩;rw[Ii,WM,kX,ji];by_cases d:a.em.length=b.em.length
  .rw[bG (λx e y=>by have:=FG e;exact pC N x y U n U) d,decide_eq_true (show(a.em.length:Int)=b.em.length by rw[d])];generalize decide (a.jj=b.jj)=c1;generalize decide (a.Map=b.Map)=c2;generalize decide (a.d7=b.d7)=c3;cases c1
   .rfl
   cases c2
   .rfl
   cases c3
   .rfl
   rfl
  .rw[decide_eq_false (show¬(a.em.length:Int)=b.em.length by omega),jm d];generalize decide (a.jj=b.jj)=c1;simp
theorem vt(a b:d5):UX a b=Y (Ur a b):=DV (SizeOf.sizeOf a) λn d=>pC _ a b (ae _) n d
end Go.Sf.Sc
namespace Go.Sf.Sc
open Go Go.Sf
mutual
def Do:d5->Nat
 |⟨_,kids,_,_⟩=>1+S9 kids
def S9:List d5->Nat
 |[]=>0|k::l=>Do k+S9 l
end
mutual
def dep:d5->Nat
 |⟨k,kids,_,_⟩=>(if k=5 then 1 else 0)+xX kids
def xX:List d5->Nat
 |[]=>0|k::l=>max (dep k) (xX l)
end
theorem U8(c:d5):Do c=1+S9 c.em:=by cases c;rfl
variable{k:Int}
theorem ui{l:List d5}(d:0<=k)(e:k<l.length):l.drop k.toNat=AA l k::l.drop (k+1).toNat:=by
 rw [show(k+1).toNat=k.toNat+1 by omega,List.drop_eq_getElem_cons U];unfold AA;rw[List.getD_eq_getElem?_getD,List.getElem?_eq_getElem U];rfl
theorem aT:∀(N:Nat)(c:d5),SizeOf.sizeOf c<=N->(AJ c).Sm->∀pf:Int,0<=pf->pf<=1000->∃r,(∀n,N<=n->DK n c pf=Y r)/\-1<=r/\r<=pf-1/\(0<=r->ET c/\(Do c:Int)+r<=pf)
 |0,c,h,_,_,_,_=>by have:=EI c;omega|N+1,c,h,ζ,pf,m0,m1=>by
  obtain ⟨O,P,D⟩:=jf ζ;obtain⟨Q,z,R⟩:=TO c.d7;obtain⟨S,F,θ⟩:=ZO O;have step:∀n,N+1<=n->∃m,n=m+1/\N<=m:=λn d=>⟨n-1,U,U⟩;cases Q
  .refine⟨-1,λn d=>?_,U,U,λh=>U⟩;obtain⟨n,rfl,_⟩:=step n d;rw[DK,z];rfl
  cases S
  .refine⟨-1,λn d=>?_,U,U,λh=>U⟩;obtain⟨n,rfl,_⟩:=step n d;rw[DK,z,bs,F];rfl
  have loop:∀(m:Nat)(k left:Int),0<=k->k+m=c.em.length->-1<=left->left<=1000->∃e w,(∀n,N<=n->MJ (ρ:=Int) (λ(q:Int×Int)=>
    if ((decide (q.2<(c.em.length:Int)))&&(decide (0<=q.1)))=X then
    (idx c.em q.2).bind λA=>
    (DK n A q.1).bind λB=>
    Y (.next (B,At (q.2+1)))
    else
    Y (.brk (q.1,q.2))) (left,k) (.inl (e,w)))/\-1<=e/\e<=left/\(0<=e->(∀j,k<=j->j<c.em.length->ET (AA c.em j))/\(S9 (c.em.drop k.toNat):Int)+e<=left):=by
   intro m
   induction m with
   |zero=>
    intro k left y K E l1;refine⟨left,k,λn d=>.brk ?_,E,U,λ_=>⟨λj C x=>U,?_⟩⟩
    .rw[ac a_]
    .rw[List.drop_of_length_le U,S9];omega
   |succ m η=>
    intro k left y K E l1;by_cases L:0<=left
    .have o:=AI (l:=c.em) y U;have:=FG o;obtain⟨r,ε,κ,δ,I⟩:=aT N _ U (D _ o) left L l1;obtain⟨e,w,a1,G,J,v⟩:=η (k+1) r U U κ U;refine⟨e,w,λn d=>.next (s':=(r,k+1)) ?_ (a1 n d),G,U,λu=>⟨λj C x=>?_,?_⟩⟩
     .rw[a6 a_,AD y U,bs,ε n d,bs,A1 U U]
     .by_cases M:j=k
      .subst M;exact(I U).1
      .exact(v u).1 j U x
     .have z:=(I U).2;have F:=(v u).2;rw[ui y U,S9];omega
    .refine⟨left,k,λn d=>.brk ?_,E,U,λh=>U⟩;rw[ac a_]
  obtain ⟨e,w,a1,G,J,v⟩:=loop c.em.length 0 (pf-1) U U U U;refine⟨e,λn d=>?_,G,J,λu=>⟨.mk c (R rfl) (θ rfl) (λk D=>?_),?_⟩⟩
  .obtain⟨n,rfl,H⟩:=step n d;rw[DK,z,bs,F];simp only[bs,v_,v!,if_false];rw[A1 (n:=pf-1) U U,(a1 n H).eq,B1]
  .obtain⟨j,C,x,rfl⟩:=Bh D;exact(v u).1 j C x
  .have:=(v u).2;rw[show(0:Int).toNat=0 from rfl,List.drop_zero]at this;rw[U8];omega
variable{c:d5}
theorem nm(d:(AJ c).Sm):∃b,LA c=Y b/\(b=X->ET c/\Do c<=40):=by
 obtain ⟨r,j,_,_,m⟩:=aT (SizeOf.sizeOf c) c (ae _) d 40 U U;have e:Ri c 40=Y r:=DV (SizeOf.sizeOf c) j;unfold LA;rw[e];exact⟨_,rfl,λh=>by have:=m c?;exact⟨this.1,by have:=this.2;simp at h;omega⟩⟩
theorem Wz:∀{l:List d5}{k:d5},k∈l->Do k<=S9 l
 |x::l,k,h=>by
  rw [S9];rcases List.mem_cons.1 h with rfl|h
  .omega
  .have:=Wz h;omega
end Go.Sf.Sc
namespace Go.Sf.Sc
open Go Go.Sf
class PL(α:Type)where
 at_:α->Int->Int
 ok:α->Nat->Prop
instance:PL Fp:=⟨AA,λl n=>l.length=n⟩
instance:PL (Option Fp):=⟨λo i=>match o with|none=>-1|some l=>AA l i,λo n=>match o with|none=>True|some l=>l.length=n⟩
structure Np(f:AM):Prop where
 pn:PL.ok f.ff.dl f.p.dl.length
 pe:PL.ok f.ff.d3 f.p.d3.length
 ends:∀e∈f.p.d3,0≤e.hV/\e.hV<f.p.dl.length/\0≤e.To/\e.To<f.p.dl.length
 kinds:∀n∈f.p.dl,0<=n/\n<f.is.length/\∀t∈f.g.dl,0<=t/\t<(AA f.is n).length
 small:f.p.dl.length<=1000/\f.p.d3.length<=1000/\f.g.dl.length<=1000/\f.g.d3.length<=1000
def Lg(f:AM)(i k:Int):Bool:=
 (decide (PL.at_ f.ff.d3 i<0)||decide (PL.at_ f.ff.d3 i=k))&&decide (AA f.g.d3 k=⟨(AA f.p.d3 i).ia,AA f.ea (AA f.p.d3 i).hV,AA f.ea (AA f.p.d3 i).To⟩)
variable{α:Type}
theorem oK{l:List α}(h:l≠[]):XL l=Y ():=by grind[XL]
variable{l:Fp}{i:Int}
theorem YI(e:0<=i)(d:i<l.length):((XL l).bind λ_=>(idx l i).bind λx=>Y x)=Y (AA l i):=by
 rw [oK (by intro h;subst h;simp at d;omega),bs,AD e d,bs]
variable{n:Nat}
theorem eV:∀{l},PL.ok l n->0<=i->i<n->M7 l i=Y (PL.at_ l i):=by
 intro l h d e
 first
  |(cases l with
    |none=>rfl|some l=>exact YI d (by have:l.length=n:=h;omega))
  |exact YI d (by have:l.length=n:=h;omega)
variable{f:AM}{k:Int}
theorem oe(hf:Np f)(d:0<=i)(i1:i<f.p.d3.length)(e:0<=k)(h:k<f.g.d3.length)(j:(AA f.p.d3 i).hV<f.ea.length)(hT:(AA f.p.d3 i).To<f.ea.length):EW f i k=Y (Lg f i k):=by
 have he:=hf.ends _ (AI d i1);unfold EW Lg;rw[AD d i1,bs,eV hf.pe d i1,bs,AD e h,bs,AD he.1 j,bs,AD he.2.2.1 hT,bs]
 grind
def QI(f:AM):Bool:=!kg (λi=>decide (max (AA f.p.d3 i).hV (AA f.p.d3 i).To=(f.ea.length:Int)-1)&&!kg (λk=>Lg f i k) 0 f.g.d3.length) 0 f.p.d3.length
variable{b:Int}
theorem uY{f:Int->Bool->Option (CF Bool Bool)}(p:Int->Bool)(h:∀i,0<=i->i<b->f i T=Y (if p i=X then .brk X else .next T)):gt f 0 b T=Y (.inl (kg p 0 b)):=by
 have key:∀(m:Nat)(i:Int),0<=i->i+m=b->tl f m i T=Y (.inl (kg p i b)):=by
  intro m
  induction m with
  |zero=>
   intro i d hi;have:kg p i b=T:=by rw[B6];intro j q r;omega
   rw [this];rfl
  |succ m u=>
   intro i d hi;rw[Ew,h i d U];by_cases o:p i=X
   .have:kg p i b=X:=by rw[Ee];exact⟨i,y_ _,U,o⟩
    rw [a6 o,this]
   .have e:kg p i b=kg p (i+1) b:=by
     rw [v5,Ee,Ee]
     grind
    grind
 unfold gt;by_cases hb:0<=b
 .grind
 .have:kg p 0 b=T:=by rw[B6];intro j q r;omega
  rw [this,show(b-0).toNat=0 by omega];rfl
theorem mP(hf:Np f)(o:0<f.ea.length)(h:f.ea.length<=1000):Ck f=Y (QI f):=by
 unfold Ck QI;rw[Bk (λi=>decide (max (AA f.p.d3 i).hV (AA f.p.d3 i).To=(f.ea.length:Int)-1)&&!kg (λk=>Lg f i k) 0 f.g.d3.length) T]
 .generalize kg (λi=>decide (max (AA f.p.d3 i).hV (AA f.p.d3 i).To=(f.ea.length:Int)-1)&&!kg (λk=>Lg f i k) 0 f.g.d3.length) 0 f.p.d3.length=b;cases b<;>rfl
 .intro i d i1 _;rw[AD d i1,bs,A1 (n:=(f.ea.length:Int)-1) U U];by_cases e:max (AA f.p.d3 i).hV (AA f.p.d3 i).To=(f.ea.length:Int)-1
  .rw[ac b?,uY (λk=>Lg f i k) (λk j m=>by
    rw [oe hf d i1 j m U U,bs,JO])]
   generalize kg (λk=>Lg f i k) 0 f.g.d3.length=b;rw[decide_eq_true e];cases b<;>rfl
  grind
def A3(n:Nat):Fp:=(List.range n).map Int.ofNat
theorem Vs(n:Nat):A3 (n+1)=A3 n++[(n:Int)]:=by grind[A3,List.range_succ]
def SJ(f:AM)(k:Int):Bool:=(decide (PL.at_ f.ff.dl f.ea.length<0)||decide (PL.at_ f.ff.dl f.ea.length=k))&&AA (AA f.is (AA f.p.dl f.ea.length)) (AA f.g.dl k)&&!(f.en&&f.ea.any λx=>decide (k=x))
def SI(f:AM)(k:Int):Bool:=Lg f f.eg.length k&&!(f.en&&f.eg.any λx=>decide (k=x))
def EU:Nat->AM->List d4
 |0,f=>[⟨f.ea,f.eg⟩]|n+1,f=>(A3 f.g.d3.length).flatMap λk=>if SI f k=X then EU n {f with eg:=f.eg++[k]}else[]
def LF:Nat->AM->List d4
 |0,f=>EU f.p.d3.length f|n+1,f=>(A3 f.g.dl.length).flatMap λk=>if(SJ f k&&QI {f with ea:=f.ea++[k]})=X then LF n {f with ea:=f.ea++[k]}else[]
theorem bz(a b:List α)(m:Nat):((a.take m)++b).take m=(a++b).take m:=by
 by_cases h:a.length<=m
 .rw[y? h]
 grind
end Go.Sf.Sc
namespace Go.Sf.Sc
open Go Go.Sf
def UQ(f:AM)(o:List d4):AM:={f with out:=o}
variable{f:AM}
theorem Np.out(h:Np f)(o:List d4):Np (UQ f o):=⟨h.pn,h.pe,h.ends,h.kinds,h.small⟩
theorem R5:∀(n:Nat)(f:AM)(o:List d4),EU n (UQ f o)=EU n f
 |0,_,_=>rfl|n+1,f,o=>by
  rw [EU,EU];refine congrArg (λF=>(A3 f.g.d3.length).flatMap F) (funext λk=>?_);have:=R5 n {f with eg:=f.eg++[k]} o;show(if SI f k=X then EU n (UQ {f with eg:=f.eg++[k]} o)else[])=_;rw[this]
theorem dW:∀(n:Nat)(f:AM)(o:List d4),LF n (UQ f o)=LF n f
 |0,f,o=>R5 _ f o|n+1,f,o=>by
  rw [LF,LF];refine congrArg (λF=>(A3 f.g.dl.length).flatMap F) (funext λk=>?_);have:=dW n {f with ea:=f.ea++[k]} o;show(if(SJ f k&&QI {f with ea:=f.ea++[k]})=X then LF n (UQ {f with ea:=f.ea++[k]} o)else[])=_;rw[this]
def BT(f:AM)(l:List d4):AM:=UQ f ((f.out++l).take f.pf.toNat)
structure ZC(f:AM):Prop where
 m0:0<=f.pf
 m1:f.pf<=10000
 out:(f.out.length:Int)<=f.pf
theorem Mn(h:ZC f):BT f []=f:=by
 unfold BT;rw[z_,y? (by have:=h.out;have:=h.m0;omega)];rfl
theorem ar(h:(f.out.length:Int)=f.pf)(l:List d4):BT f l=f:=by
 unfold BT;rw[z! U,y? U];rfl
theorem aw(h:ZC f)(l:List d4):ZC (BT f l):=by
 refine ⟨h.m0,h.m1,?_⟩;have:=h.m0;show(((f.out++l).take f.pf.toNat).length:Int)<=f.pf
 grind
theorem av(f:AM)(a b:List d4):BT (BT f a) b=BT f (a++b):=by
 show UQ f ((((f.out++a).take f.pf.toNat)++b).take f.pf.toNat)=_;rw[bz,ci];rfl
theorem X9:∀(n:Nat)(f:AM),Np f->ZC f->f.ea.length=f.p.dl.length->f.eg.length+n=f.p.d3.length->∀m,n+1<=m->BJ m f=Y (BT f (EU n f))
 |n,f,hf,hr,J,he,m,w=>by
  obtain ⟨m,rfl⟩:∃k,m=k+1:=⟨m-1,U⟩;have K:=hf.small;have M:=hr.m0;have N:=hr.m1;have O:=hr.out;rw[BJ];by_cases e:(f.out.length:Int)=f.pf
  .grind[ar]
  rw [ac d_,ac a_]
  match n,he,w with
  |0,he,w=>
   rw [ac a_];unfold slices_Clone_int;rw[Be a?,bs,Be a?,bs,AV b_,bs,bs];unfold BT;rw[y? (by simp[EU];omega)];rfl
  |n+1,he,w=>
   rw [a6 a_];have F:∀k,SI f k=X->Np {f with eg:=f.eg++[k]}:=λk _=>⟨hf.pn,hf.pe,hf.ends,hf.kinds,hf.small⟩;rw[By (a:=0) (s:=f) (λi=>BT f ((A3 i.toNat).flatMap λk=>if SI f k=X then EU n {f with eg:=f.eg++[k]}else[])) U (Mn hr)]
   .grind[y!,EU]
   .intro i B i1;have C:A3 (i+1).toNat=A3 i.toNat++[i]:=by
     rw [show(i+1).toNat=i.toNat+1 by omega,Vs];rw[show((i.toNat:Nat):Int)=i by omega]
    have D:∀l,BT f ((A3 (i+1).toNat).flatMap l)=BT (BT f ((A3 i.toNat).flatMap l)) (l i):=by
     intro l;rw[av,C,z?];simp
    rw [D];generalize (A3 i.toNat).flatMap (λk=>if SI f k=X then EU n {f with eg:=f.eg++[k]}else[])=L;have o:=aw hr L;have u:Np (BT f L):=hf.out _;have y:=hf.ends _ (AI (l:=f.p.d3) (i:=(f.eg.length:Int)) U U);rw[oe u (i:=(f.eg.length:Int)) (k:=i) U (by show _<(f.p.d3.length:Int);omega) B (by exact i1) (by show(AA f.p.d3 f.eg.length).hV<(f.ea.length:Int);omega) (by show(AA f.p.d3 f.eg.length).To<(f.ea.length:Int);omega),bs];have E:slices_Contains_int (BT f L).eg i=Y (f.eg.any λx=>decide (i=x)):=Mm f.eg i;rw[E];have q:Lg (BT f L) f.eg.length i=Lg f f.eg.length i:=rfl;have key:((Aw (BT f L).eg [i]).bind λh=>
      (BJ m (AM.mk (BT f L).p (BT f L).g (BT f L).is (BT f L).ff (BT f L).en (BT f L).pf (BT f L).ea h (BT f L).out)).bind λd=>
      (slc d.eg 0 (f.eg.length:Int)).bind λj=>
      Y (AM.mk d.p d.g d.is d.ff d.en d.pf d.ea j d.out))=Y (BT (BT f L) (EU n {f with eg:=f.eg++[i]})):=by
     have G:Aw (BT f L).eg [i]=Y (f.eg++[i]):=AV (by show f.eg.length+1<=AY;unfold AY;omega);have z:=X9 n {BT f L with eg:=f.eg++[i]} ⟨hf.pn,hf.pe,hf.ends,hf.kinds,hf.small⟩ ⟨o.m0,o.m1,o.out⟩ J (by show(f.eg++[i]).length+n=f.p.d3.length;simp;omega) m U;have H:EU n {BT f L with eg:=f.eg++[i]}=EU n {f with eg:=f.eg++[i]}:=R5 n {f with eg:=f.eg++[i]} _;rw[H]at z;rw[G,bs];show(BJ m {BT f L with eg:=f.eg++[i]}).bind _=_;rw[z,bs];have I:slc (BT {BT f L with eg:=f.eg++[i]} (EU n {f with eg:=f.eg++[i]})).eg 0 (f.eg.length:Int)=Y f.eg:=by
      show slc (f.eg++[i]) 0 (f.eg.length:Int)=_;rw[H9 U (by rw[az];omega),y!,A_]
     rw [I];rfl
    rw [key,q];have v:SI f i=(Lg f f.eg.length i&&!(f.en&&f.eg.any λx=>decide (i=x))):=rfl;have r:(BT f L).en=f.en:=rfl;rw[v,r];generalize P:EU n {f with eg:=f.eg++[i]}=A;cases Lg f f.eg.length i
    .simp only[v?,v!,if_false,Mn o];rfl
    .cases f.en
     .rfl
     .cases f.eg.any λx=>decide (i=x)
      .rfl
      .simp only[w_,v_,w!,v!,if_false,Mn o];rfl
end Go.Sf.Sc
namespace Go.Sf.Sc
open Go Go.Sf
theorem YA:∀(n:Nat)(f:AM),Np f->ZC f->f.eg=[]->f.ea.length+n=f.p.dl.length->∀m,n+f.p.d3.length+1<=m->BJ m f=Y (BT f (LF n f))
 |0,f,hf,hr,he,O,m,P=>by
  grind [LF,X9]
 |n+1,f,hf,hr,he,O,m,P=>by
  obtain ⟨m,rfl⟩:∃k,m=k+1:=⟨m-1,U⟩;have Q:=hf.small;have R:=hr.m0;have S:=hr.m1;have θ:=hr.out;rw[BJ];by_cases j:(f.out.length:Int)=f.pf
  .grind[ar]
  rw [ac f_,a6 a_];rw[By (a:=0) (s:=f) (λi=>BT f ((A3 i.toNat).flatMap λk=>if(SJ f k&&QI {f with ea:=f.ea++[k]})=X then LF n {f with ea:=f.ea++[k]}else[])) U (Mn hr)]
  .grind[y!,LF]
  .intro i z i1;have D:A3 (i+1).toNat=A3 i.toNat++[i]:=by
    rw [show(i+1).toNat=i.toNat+1 by omega,Vs];rw[show((i.toNat:Nat):Int)=i by omega]
   have E:∀l,BT f ((A3 (i+1).toNat).flatMap l)=BT (BT f ((A3 i.toNat).flatMap l)) (l i):=by
    intro l;rw[av,D,z?];simp
   rw [E];generalize (A3 i.toNat).flatMap (λk=>if(SJ f k&&QI {f with ea:=f.ea++[k]})=X then LF n {f with ea:=f.ea++[k]}else[])=L;have o:=aw hr L;have u:(f.ea.length:Int)<(f.p.dl.length:Int):=U
   have q:=hf.kinds _ (AI (l:=f.p.dl) (i:=(f.ea.length:Int)) U u);have v:=q.2.2 _ (AI z i1);have key:((Aw (BT f L).ea [i]).bind λe=>
     (Ck (AM.mk (BT f L).p (BT f L).g (BT f L).is (BT f L).ff (BT f L).en (BT f L).pf e (BT f L).eg (BT f L).out)).bind λr=>
     if r=X then
     (BJ m (AM.mk (BT f L).p (BT f L).g (BT f L).is (BT f L).ff (BT f L).en (BT f L).pf e (BT f L).eg (BT f L).out)).bind λd=>
     (slc d.ea 0 (f.ea.length:Int)).bind λh=>
     Y (AM.mk d.p d.g d.is d.ff d.en d.pf h d.eg d.out)
     else
     (slc e 0 (f.ea.length:Int)).bind λh=>
     Y (AM.mk (BT f L).p (BT f L).g (BT f L).is (BT f L).ff (BT f L).en (BT f L).pf h (BT f L).eg (BT f L).out))=Y (BT (BT f L) (if QI {f with ea:=f.ea++[i]}=X then LF n {f with ea:=f.ea++[i]}else[])):=by
    have F:Aw (BT f L).ea [i]=Y (f.ea++[i]):=AV (by show f.ea.length+1<=AY;unfold AY;omega);have B:slc (f.ea++[i]) 0 (f.ea.length:Int)=Y f.ea:=by
     rw [H9 U (by rw[az];omega),y!,A_]
    have G:Ck {BT f L with ea:=f.ea++[i]}=Y (QI {f with ea:=f.ea++[i]}):=mP (f:={BT f L with ea:=f.ea++[i]}) ⟨hf.pn,hf.pe,hf.ends,hf.kinds,hf.small⟩ (by show 0<(f.ea++[i]).length;simp) (by show(f.ea++[i]).length<=1000;rw[az];simp;omega);have C:=YA n {BT f L with ea:=f.ea++[i]} ⟨hf.pn,hf.pe,hf.ends,hf.kinds,hf.small⟩ ⟨o.m0,o.m1,o.out⟩ he (by show(f.ea++[i]).length+n=f.p.dl.length;rw[az];simp;omega) m (by show n+f.p.d3.length+1<=m;omega);have H:LF n {BT f L with ea:=f.ea++[i]}=LF n {f with ea:=f.ea++[i]}:=dW n {f with ea:=f.ea++[i]} _;rw[H]at C;rw[F,bs];show(Ck {BT f L with ea:=f.ea++[i]}).bind _=_;rw[G,bs];cases QI {f with ea:=f.ea++[i]}
    .rw[ac a!,ac a!,B,Mn o];rfl
    .rw[a6 rfl,a6 rfl];show(BJ m {BT f L with ea:=f.ea++[i]}).bind _=_;rw[C,bs];have I:slc (BT {BT f L with ea:=f.ea++[i]} (LF n {f with ea:=f.ea++[i]})).ea 0 (f.ea.length:Int)=Y f.ea:=B;rw[I];rfl
   have J:M7 (BT f L).ff.dl (f.ea.length:Int)=Y (PL.at_ f.ff.dl f.ea.length):=eV (n:=f.p.dl.length) hf.pn U U;have K:idx (BT f L).p.dl (f.ea.length:Int)=Y (AA f.p.dl f.ea.length):=AD U u;have hi:idx (BT f L).is (AA f.p.dl f.ea.length)=Y (AA f.is (AA f.p.dl f.ea.length)):=AD q.1 q.2.1;have M:idx (AA f.is (AA f.p.dl f.ea.length)) (AA f.g.dl i)=Y (AA (AA f.is (AA f.p.dl f.ea.length)) (AA f.g.dl i)):=AD v.1 v.2;have N:slices_Contains_int (BT f L).ea i=Y (f.ea.any λx=>decide (i=x)):=Mm f.ea i;have w:(BT f L).en=f.en:=rfl;have y:SJ f i=((decide (PL.at_ f.ff.dl f.ea.length<0)||decide (PL.at_ f.ff.dl f.ea.length=i))&&AA (AA f.is (AA f.p.dl f.ea.length)) (AA f.g.dl i)&&!(f.en&&f.ea.any λx=>decide (i=x))):=rfl;rw[AD z i1,bs,J,bs,K,bs,hi,bs,M,bs,N,key,w,y];generalize AA (AA f.is (AA f.p.dl f.ea.length)) (AA f.g.dl i)=c2;have hb:(decide (0<=PL.at_ f.ff.dl f.ea.length)&&!decide (PL.at_ f.ff.dl f.ea.length=i))=!(decide (PL.at_ f.ff.dl f.ea.length<0)||decide (PL.at_ f.ff.dl f.ea.length=i)):=by
    rw [Bool.not_or];congr 1;rw[<-decide_not];exact decide_eq_decide.2 U
   rw [hb];generalize (decide (PL.at_ f.ff.dl f.ea.length<0)||decide (PL.at_ f.ff.dl f.ea.length=i))=c1;generalize QI {f with ea:=f.ea++[i]}=c5;generalize LF n {f with ea:=f.ea++[i]}=A;cases c1
   .simp only[v?,v!,if_false,Mn o];rfl
   .cases c2
    .simp only[w!,v?,v!,if_false,Mn o];rfl
    .cases f.en
     .rfl
     .cases f.ea.any λx=>decide (i=x)
      .rfl
      .simp only[w_,v_,w!,v?,v!,if_false,Mn o];rfl
variable{f:AM}
theorem oY(hf:Np f)(hr:ZC f)(he:f.eg=[])(d:f.ea=[]):Hs f=Y (BT f (LF f.p.dl.length f)):=
 DV (f.p.dl.length+f.p.d3.length+1) λm e=>YA _ f hf hr he (by rw[d];simp) m e
end Go.Sf.Sc
namespace Go.Sf.Sc
open Go Go.Sf
theorem A4(n:Nat):(A3 n).length=n:=by simp[A3]
variable{n:Nat}{i:Int}
theorem Dx:i∈A3 n↔0<=i/\i<n:=by
 unfold A3;rw[List.mem_map];constructor
 .grind
 .rintro⟨d,e⟩;exact⟨i.toNat,List.mem_range.2 U,by show((i.toNat:Nat):Int)=i;omega⟩
variable{α:Type}
theorem Iw[Inhabited α](F:Int->α)(d:0<=i)(e:i<n):AA ((A3 n).map F) i=F i:=by
 unfold AA A3
 grind
theorem Hh(d:0<=i):A3 (i+1).toNat=A3 i.toNat++[i]:=by
 rw [show(i+1).toNat=i.toNat+1 by omega,Vs,show((i.toNat:Nat):Int)=i by omega]
def Pr(t:AC)(a:Int):a5:=(A3 t.dl.length).map λk=>HP t k a
def KT(t:AC):List a5:=(A3 t.dl.length).map (Pr t)
variable{t:AC}{a:Int}
theorem vJ(hf:A0 t)(h:F6 t)(hv:(BF t).2=0)(a0:0<=a)(a1:a<t.dl.length):KV t a=Y ((A3 t.dl.length).filter λi=>HP t i a,0):=by
 have d:=h.ea;unfold KV;have hb:MT t a=X:=by simp[MT,a0,a1]
 rw [Z0 hf,bs,ac (by simp[hv,hb])];rw[By (λi=>(A3 i.toNat).filter λi=>HP t i a) U q?,bs,y!]
 grind [rR,Hh,A3,HP,List.length_filter_le,A4,AV,AY]
variable{l:Fp}
theorem wJ(r:∀x∈l,0<=x/\x<n):ls (λ(i2:Int)(s2:a5)=>
  (idx l i2).bind λd=>
  (idx s2 d).bind λ_=>
  Y (BR s2 d X)) 0 (l.length:Int) (A' n T)=Y ((A3 n).map λk=>l.any λx=>decide (x=k)):=by
 rw [By (λj=>(A3 n).map λk=>(l.take j.toNat).any λx=>decide (x=k)) U (by
  refine A! (by simp[A4]) (λj m w=>V))]
 .rw[y!,List.take_length]
 .intro j o m;have q:=r _ (AI o m);rw[AD o m,bs,AD q.1 (by rw[c9,A4];exact q.2),bs,BU o m];congr 1;unfold BR;refine A! V (λk y u=>?_);have v:k<n:=by simpa[A4]using u
  rw [List.getElem_set];have e:(A3 n)[k]'(by rw[A4];exact v)=(k:Int):=by simp[A3]
  simp only[List.getElem_map,e,A?,B_,B',w?];by_cases h:(AA l j).toNat=k
  .rw[a6 h,decide_eq_true (show AA l j=(k:Int)by omega),Bool.or_true]
  .rw[ac h,decide_eq_false (show¬AA l j=(k:Int)by omega),w?]
theorem mR(hf:A0 t)(h:F6 t)(hv:(BF t).2=0):Hn t=Y (KT t):=by
 have r:=h.ea;unfold Hn;rw[By (λi=>(A3 i.toNat).map (Pr t)) U q?,bs,y!]
 .rfl
 .intro i o i1;have q:Hv (t.dl.length:Int) T=Y (A' t.dl.length T):=by
   unfold Hv;rw[a6 U,y!]
  rw [q,bs,vJ hf h hv o i1,bs];have:=wJ (n:=t.dl.length) (l:=(A3 t.dl.length).filter λk=>HP t k i) (λx j=>Dx.1 (B!.1 j).1);show(ls (λ(i2:Int)(s2:a5)=>
   (idx ((A3 t.dl.length).filter λk=>HP t k i) i2).bind λd=>
   (idx s2 d).bind λ_=>
   Y (BR s2 d X)) 0 (((A3 t.dl.length).filter λk=>HP t k i).length:Int) (A' t.dl.length T)).bind _=_
  rw [this,bs,AV (by rw[c9,A4];simp;unfold AY;omega),bs,Hh o,List.map_append];congr 2;simp only[List.map_cons,List.map_nil];congr 1;unfold Pr;refine List.map_congr_left (λk m=>?_);have m:=Dx.1 m;rw[v5,B?];constructor
  .rintro⟨x,j,e⟩;rw[sA]at e;subst e;exact(B!.1 j).2
  .intro hb;exact⟨k,B!.2 ⟨Dx.2 m,hb⟩,V⟩
end Go.Sf.Sc
namespace Go.Sf.Sc
open Go Go.Sf
def Fw:Nat->AM->List d4
 |0,f=>EU f.p.d3.length f|n+1,f=>(A3 f.g.dl.length).flatMap λk=>if SJ f k=X then Fw n {f with ea:=f.ea++[k]}else[]
def lK(f:AM)(i:Int):Prop:=0<=i/\i<f.p.d3.length/\0<=(AA f.p.d3 i).hV/\(AA f.p.d3 i).hV<f.ea.length/\0<=(AA f.p.d3 i).To/\(AA f.p.d3 i).To<f.ea.length/\∀k:Int,0<=k->k<f.g.d3.length->Lg f i k=T
theorem Xc(f:AM)(i k:Int):Lg f i k=((decide (PL.at_ f.ff.d3 i<0)||decide (PL.at_ f.ff.d3 i=k))&&decide (AA f.g.d3 k=⟨(AA f.p.d3 i).ia,AA f.ea (AA f.p.d3 i).hV,AA f.ea (AA f.p.d3 i).To⟩)):=rfl
variable{α:Type}{i:Int}
theorem Xu[Inhabited α](l:List α)(x:α)(d:0<=i)(e:i<l.length):AA (l++[x]) i=AA l i:=by
 unfold AA
 grind
theorem nj:∀(n:Nat)(f:AM)(i:Int),lK f i->(f.eg.length:Int)<=i->i<f.eg.length+n->EU n f=[]
 |0,f,i,_,e,h=>by omega|n+1,f,i,hd,e,h=>by
  rw [EU];refine C_.2 (λk d=>?_);have d:=Dx.1 d;by_cases he:(f.eg.length:Int)=i
  .have:SI f k=T:=by
    unfold SI;rw[he,hd.2.2.2.2.2.2 k d.1 d.2];rfl
   grind
  .split
   .exact nj n {f with eg:=f.eg++[k]} i hd (by show((f.eg++[k]).length:Int)<=i;rw[az];simp;omega) (by show i<((f.eg++[k]).length:Int)+n;rw[az];simp;omega)
   .rfl
theorem du:∀(n:Nat)(f:AM)(i:Int),f.eg=[]->lK f i->Fw n f=[]
 |0,f,i,he,hd=>by
  rw [Fw];exact nj _ f i hd (by rw[he];simpa using hd.1) (by rw[he];simpa using hd.2.1)
 |n+1,f,i,he,hd=>by
  rw [Fw];refine C_.2 (λk o=>?_);split
  .refine du n {f with ea:=f.ea++[k]} i he ?_;obtain⟨d,e,h,v,m,w,x⟩:=hd;have u:((f.ea++[k]).length:Int)=f.ea.length+1:=by rw[az];simp
   refine ⟨d,e,h,?_,m,?_,λj q r=>?_⟩
   .grind
   .grind
   grind [Xc,AA,Xu]
  .rfl
variable{f:AM}
theorem rY(hf:Np f)(h:QI f=T):∃i,lK f i:=by
 unfold QI at h;rw[v1,Ee]at h;obtain⟨i,d,i1,h⟩:=h;rw[ne,sA,x_,B6]at h;have he:=hf.ends _ (AI d i1);exact⟨i,d,i1,he.1,U,he.2.2.1,U,h.2⟩
theorem dV:∀(n:Nat)(f:AM),Np f->f.eg=[]->LF n f=Fw n f
 |0,_,_,_=>rfl|n+1,f,hf,he=>by
  rw [LF,Fw];refine congrArg (λF=>(A3 f.g.dl.length).flatMap F) (funext λk=>?_);have d:Np {f with ea:=f.ea++[k]}:=⟨hf.pn,hf.pe,hf.ends,hf.kinds,hf.small⟩;cases SJ f k
  .rfl
  .cases e:QI {f with ea:=f.ea++[k]}
   .obtain⟨i,hd⟩:=rY d e
    grind [du]
   .simp;exact dV n _ d he
end Go.Sf.Sc
namespace Go.Sf.Sc
open Go Go.Sf
variable{a b:Int}
theorem P1{σ ρ:Type}{f:σ×Int->Option (CF (σ×Int) ρ)}(g:Int->σ){s:σ}(d:a<=b)(e:s=g a)(h:∀i,a<=i->i<b->f (g i,i)=Y (.next (g (i+1),i+1)))(hb:f (g b,b)=Y (.brk (g b,b))):D5 f (s,a)=Y (.inl (g b,b)):=by
 subst e;have key:∀(n:Nat)(i:Int),a<=i->i+n=b->MJ f (g i,i) (.inl (g b,b)):=by
  intro n
  induction n with
  |zero=>
   intro i _ hi;have:i=b:=U
   subst this;exact .brk hb
  |succ n m=>
   intro i j o;exact .next (h i j U) (m (i+1) U U)
 exact (key (b-a).toNat a (y_ _) U).eq
def Jd(s:Ay)(ea eg:Fp):AM:=⟨s.p,s.g,KT s.t,s.ff,s.en,s.pf+1,ea,eg,s.wA⟩
def Cz(s:Ay)(l:List d4):Ay:={s with wA:=(s.wA++l).take (s.pf+1).toNat}
structure Xr(s:Ay):Prop where
 m0:0<=s.pf
 m1:s.pf<=9999
 out:(s.wA.length:Int)<=s.pf+1
variable{s:Ay}
theorem Q5(h:Xr s):Cz s []=s:=by
 unfold Cz;rw[z_,y? (by have:=h.out;have:=h.m0;omega)]
theorem Y0(h:(s.wA.length:Int)=s.pf+1)(l:List d4):Cz s l=s:=by
 unfold Cz;rw[z! U,y? U]
theorem Y1(h:Xr s)(l:List d4):Xr (Cz s l):=by
 refine ⟨h.m0,h.m1,?_⟩;have:=h.m0;show(((s.wA++l).take (s.pf+1).toNat).length:Int)<=s.pf+1
 grind
theorem Wo(s:Ay)(a b:List d4):Cz (Cz s a) b=Cz s (a++b):=by
 show ({s with wA:=(((s.wA++a).take (s.pf+1).toNat)++b).take (s.pf+1).toNat}:Ay)=_;rw[bz,ci];rfl
variable{l:Fp}
theorem pF(s:Ay)(d:l.length<=1000)(n:Int):Cs s l n=Y (s.en&&l.any λx=>decide (n=x)):=by
 unfold Cs;cases s.en
 .rw[WT (λ_=>T) X (a:=0) (b:=0) (y_ _) (λi i1 i2=>U) (by rw[ac V])];rfl
 .rw[WT (λi=>decide (AA l i=n)) X (a:=0) (b:=l.length) U (λi i1 i2=>by
   rw [a6 (by simp;exact i2),AD i1 i2,bs,A1 U U,JO]) (by rw[ac V])]
  have e:kg (λi=>decide (AA l i=n)) 0 l.length=l.any λx=>decide (n=x):=by
   rw [v5,Ee,B?]
   grind [AI,Bh]
  rw [e,Bool.true_and];cases l.any λx=>decide (n=x)<;>rfl
theorem bh:∀(n:Nat)(s:Ay)(ea l:Fp),Np (Jd s [] [])->Xr s->ea.length=s.p.dl.length->l.length+n=s.p.d3.length->∀m,n+1<=m->CA m s ea l=Y (Cz s (EU n (Jd s ea l)))
 |n,s,ea,l,hf,hr,y,he,m,z=>by
  obtain ⟨m,rfl⟩:∃k,m=k+1:=⟨m-1,U⟩;have r:=hf.small;have P:s.p.dl.length<=1000:=r.1;have s2:s.p.d3.length<=1000:=r.2.1;have Q:s.g.dl.length<=1000:=r.2.2.1;have R:s.g.d3.length<=1000:=r.2.2.2;have S:=hr.m0;have θ:=hr.m1;have ε:=hr.out;rw[CA];by_cases u:(s.wA.length:Int)=s.pf+1
  .grind[Y0]
  rw [ac a_]
  match n,he,z with
  |0,he,z=>
   rw [a6 a_,Be a?,bs,Be a?,bs,AV b_,bs];unfold Cz;rw[y? (by simp[EU];omega)];rfl
  |n+1,he,z=>
   have e:(0:Int)<=l.length:=U
   have q:(l.length:Int)<s.p.d3.length:=U
   have d:=hf.ends _ (AI (l:=s.p.d3) e q);have E:(AA s.p.d3 l.length).hV<ea.length:=by rw[y];exact d.2.1
   have G:(AA s.p.d3 l.length).To<ea.length:=by rw[y];exact d.2.2.2
   have v:(l.length:Int)<s.ff.d3.length:=by
    have:s.ff.d3.length=s.p.d3.length:=hf.pe;omega
   rw [ac a_,AD e q,bs];rw[P1 (λi=>Cz s ((A3 i.toNat).flatMap λk=>if SI (Jd s ea l) k=X then EU n (Jd s ea (l++[k]))else[])) (a:=0) (b:=(s.g.d3.length:Int)) (s:=s) U (Q5 hr).symm (λi B i1=>by
    have H:∀F,Cz s ((A3 (i+1).toNat).flatMap F)=Cz (Cz s ((A3 i.toNat).flatMap F)) (F i):=by
     intro F;rw[Wo,Hh B,List.flatMap_append];simp
    rw [H];generalize (A3 i.toNat).flatMap (λk=>if SI (Jd s ea l) k=true then EU n (Jd s ea (l++[k]))else[])=L;have C:=Y1 hr L;rw[a6 (by rw[sA];exact i1)];have I:idx (Cz s L).g.d3 i=some (AA s.g.d3 i):=AD B i1;have J:idx (Cz s L).ff.d3 (l.length:Int)=some (AA s.ff.d3 l.length):=AD e v;have K:Cs (Cz s L) l i=some (s.en&&l.any λx=>decide (i=x)):=pF (Cz s L) U i;have key:((Aw [] l).bind λh=>
      (Aw h [i]).bind λj=>
      (CA m (Cz s L) ea j).bind λo=>
      some (.next (o,At (i+1)):CF (Ay×Int) Ay))=some (.next (Cz (Cz s L) (EU n (Jd s ea (l++[i]))),i+1)):=by
     have D:=bh n (Cz s L) ea (l++[i]) ⟨hf.pn,hf.pe,hf.ends,hf.kinds,hf.small⟩ C y (by show(l++[i]).length+n=s.p.d3.length;rw[az];simp;omega) m U;have M:EU n (Jd (Cz s L) ea (l++[i]))=EU n (Jd s ea (l++[i])):=R5 n (Jd s ea (l++[i])) _;rw[M]at D;rw[Be a?,bs,AV b_,bs,D,bs,A1 U U]
    rw [I,bs,J,bs,K,key];simp only[bs];rw[AD d.1 E,AD d.2.2.1 G,A1 (n:=i+1) U U];simp only[bs];have w:SI (Jd s ea l) i=(((decide (AA s.ff.d3 l.length<0)||decide (AA s.ff.d3 l.length=i))&&decide (AA s.g.d3 i=⟨(AA s.p.d3 l.length).ia,AA ea (AA s.p.d3 l.length).hV,AA ea (AA s.p.d3 l.length).To⟩))&&!(s.en&&l.any λx=>decide (i=x))):=rfl;have N:decide (AA s.g.d3 i=⟨(AA s.p.d3 l.length).ia,AA ea (AA s.p.d3 l.length).hV,AA ea (AA s.p.d3 l.length).To⟩)=(decide ((AA s.p.d3 l.length).ia=(AA s.g.d3 i).ia)&&decide ((AA s.g.d3 i).hV=AA ea (AA s.p.d3 l.length).hV)&&decide ((AA s.g.d3 i).To=AA ea (AA s.p.d3 l.length).To)):=by
     rw [Bool.eq_iff_iff];simp[sA];generalize AA s.g.d3 i=x;obtain⟨x1,κ,η⟩:=x;simp;constructor
     .rintro⟨a,b,c⟩;exact⟨⟨a.symm,b⟩,c⟩
     .rintro⟨⟨a,b⟩,c⟩;exact⟨a.symm,b,c⟩
    have O:(decide (AA s.ff.d3 l.length<0)||decide (AA s.ff.d3 l.length=i))=!(decide (0<=AA s.ff.d3 l.length)&&!decide (AA s.ff.d3 l.length=i)):=by
     rw [Bool.not_and,Bool.not_not];congr 1;rw[<-decide_not];exact decide_eq_decide.2 U
    rw [w,N,O];generalize EU n (Jd s ea (l++[i]))=A;generalize decide (0<=AA s.ff.d3 l.length)=c1;generalize decide (AA s.ff.d3 l.length=i)=c2;generalize decide ((AA s.p.d3 l.length).ia=(AA s.g.d3 i).ia)=c3;generalize decide ((AA s.g.d3 i).hV=AA ea (AA s.p.d3 l.length).hV)=c4;generalize decide ((AA s.g.d3 i).To=AA ea (AA s.p.d3 l.length).To)=c5;generalize (s.en&&l.any λx=>decide (i=x))=c6;cases c1<;>cases c2<;>cases c3<;>cases c4<;>cases c5<;>cases c6<;>first|rfl|(simp[Q5 C];try rfl)) (by rw[ac (by simp[Cz])]),B1,y!,EU]
   rfl
end Go.Sf.Sc
namespace Go.Sf.Sc
open Go Go.Sf
def Uc(s:Ay)(l:Fp)(i k:Int):Bool:=decide (AA s.g.d3 k=⟨(AA s.p.d3 i).ia,AA l (AA s.p.d3 i).hV,AA l (AA s.p.d3 i).To⟩)
def Tz(s:Ay)(l:Fp)(i:Int):Bool:=(decide ((AA s.p.d3 i).hV<l.length)&&decide ((AA s.p.d3 i).To<l.length))&&!(A3 s.g.d3.length).any (Uc s l i)
variable{s:Ay}{l:Fp}
theorem yf(hf:Np (Jd s [] [])):GT s l=Y (!kg (Tz s l) 0 s.p.d3.length):=by
 unfold GT;rw[Bk (Tz s l) T]
 .cases kg (Tz s l) 0 s.p.d3.length<;>rfl
 .intro i d i1 _;have he:=hf.ends _ (AI (l:=s.p.d3) d i1);rw[AD d i1,bs];unfold Tz;by_cases h:(AA s.p.d3 i).hV<l.length
  .by_cases hT:(AA s.p.d3 i).To<l.length
   .rw[ac a_,By (λk=>(A3 k.toNat).any (Uc s l i)) U q?,bs,y!,decide_eq_true h,decide_eq_true hT]
    .grind
    .intro k e j;rw[AD e j,bs,Hh e,A?];have m:Uc s l i k=(decide ((AA s.p.d3 i).ia=(AA s.g.d3 k).ia)&&decide ((AA s.g.d3 k).hV=AA l (AA s.p.d3 i).hV)&&decide ((AA s.g.d3 k).To=AA l (AA s.p.d3 i).To)):=by
      unfold Uc;rw[v5];simp[sA];generalize AA s.g.d3 k=x;obtain⟨x1,o,q⟩:=x;simp;constructor
      .rintro⟨a,b,c⟩;exact⟨⟨a.symm,b⟩,c⟩
      .rintro⟨⟨a,b⟩,c⟩;exact⟨a.symm,b,c⟩
     rw [AD he.1 h,AD he.2.2.1 hT];simp only[B_,B',w?,bs];rw[m];generalize (A3 k.toNat).any (Uc s l i)=c1;generalize decide ((AA s.p.d3 i).ia=(AA s.g.d3 k).ia)=c3;generalize decide ((AA s.g.d3 k).hV=AA l (AA s.p.d3 i).hV)=c4;generalize decide ((AA s.g.d3 k).To=AA l (AA s.p.d3 i).To)=c5;cases c1<;>cases c3<;>cases c4<;>cases c5<;>rfl
   grind
  grind
theorem yb(hf:Np (Jd s [] []))(h:kg (Tz s l) 0 s.p.d3.length=X):∃i,lK (Jd s l []) i:=by
 rw [Ee]at h;obtain⟨i,d,i1,h⟩:=h;unfold Tz at h;rw[ne,ne,sA,sA,x_,List.any_eq_false]at h;have he:=hf.ends _ (AI (l:=s.p.d3) d i1);refine⟨i,d,i1,he.1,h.1.1,he.2.2.1,h.1.2,λk j m=>?_⟩;have:=h.2 k (Dx.2 ⟨j,m⟩);have e:Uc s l i k=T:=by rw[<-v6];exact this
 rw [Xc];show((decide (AA s.ff.d3 i<0)||decide (AA s.ff.d3 i=k))&&Uc s l i k)=T;rw[e,w!]
end Go.Sf.Sc
namespace Go.Sf.Sc
open Go Go.Sf
theorem dX:∀(n:Nat)(f:AM)(o:List d4),Fw n (UQ f o)=Fw n f
 |0,f,o=>R5 _ f o|n+1,f,o=>by
  rw [Fw,Fw];refine congrArg (λF=>(A3 f.g.dl.length).flatMap F) (funext λk=>?_);have:=dX n {f with ea:=f.ea++[k]} o
  grind [SJ,Fw,UQ]
theorem bi:∀(n:Nat)(s:Ay)(l:Fp),F6 s.t->Np (Jd s [] [])->Xr s->l.length+n=s.p.dl.length->∀m,n+1<=m->CB m s l=Y (Cz s (Fw n (Jd s l [])))
 |n,s,l,N,hf,hr,I,m,y=>by
  obtain ⟨m,rfl⟩:∃k,m=k+1:=⟨m-1,U⟩;have J:=hf.small;have ζ:s.p.dl.length<=1000:=J.1;have δ:s.g.dl.length<=1000:=J.2.2.1;have Z:=hr.m0;have h1:=hr.m1;have h2:=hr.out;rw[CB];by_cases C:(s.wA.length:Int)=s.pf+1
  .grind[Y0]
  rw [ac a_,yf hf];cases hd:kg (Tz s l) 0 s.p.d3.length
  case true=>
   grind [yb,du,Jd,Q5]
  simp only[bs,Bool.not_false,v_,v!,if_false]
  match n,I,y with
  |0,I,y=>
   rw [a6 a_,Option.bind_fun_some,Fw];exact DV (s.p.d3.length+1) λm y=>bh s.p.d3.length s l [] hf hr U V m U
  |n+1,I,y=>
   have v:(l.length:Int)<s.p.dl.length:=U
   have o:(0:Int)<=l.length:=U
   have D:(l.length:Int)<s.ff.dl.length:=by
    have:s.ff.dl.length=s.p.dl.length:=hf.pn;omega
   have O:(KT s.t).length=s.t.dl.length:=by unfold KT;rw[c9,A4]
   have d:=hf.kinds _ (AI (l:=s.p.dl) o v);have E:AA s.p.dl l.length<s.t.dl.length:=by rw[<-O];exact d.2.1
   have j:AA (KT s.t) (AA s.p.dl l.length)=Pr s.t (AA s.p.dl l.length):=Iw (Pr s.t) d.1 E;rw[ac a_];rw[P1 (λi=>Cz s ((A3 i.toNat).flatMap λk=>if SJ (Jd s l []) k=X then Fw n (Jd s (l++[k]) [])else[])) (a:=0) (b:=(s.g.dl.length:Int)) (s:=s) U (Q5 hr).symm (λi z i1=>by
    have P:∀F,Cz s ((A3 (i+1).toNat).flatMap F)=Cz (Cz s ((A3 i.toNat).flatMap F)) (F i):=by
     intro F;rw[Wo,Hh z,List.flatMap_append];simp
    rw [P];generalize (A3 i.toNat).flatMap (λk=>if SJ (Jd s l []) k=true then Fw n (Jd s (l++[k]) [])else[])=L;have K:=Y1 hr L;rw[a6 (by rw[sA];exact i1)];have q:=d.2.2 _ (AI (l:=s.g.dl) z i1);have w:AA s.g.dl i<s.t.dl.length:=by
     have h:=q.2;have e:AA (Jd s [] []).is (AA s.p.dl l.length)=Pr s.t (AA s.p.dl l.length):=j;rw[e]at h;unfold Pr at h
     rwa [c9,A4]at h
    have G:Hk (Cz s L).t (AA s.g.dl i) (AA s.p.dl l.length)=some (HP s.t (AA s.g.dl i) (AA s.p.dl l.length)):=WL N q.1 w d.1;have Q:idx (Cz s L).g.dl i=some (AA s.g.dl i):=AD z i1;have R:idx (Cz s L).ff.dl (l.length:Int)=some (AA s.ff.dl l.length):=AD o D;have S:Cs (Cz s L) l i=some (s.en&&l.any λx=>decide (i=x)):=pF (Cz s L) U i;have θ:idx (Cz s L).p.dl (l.length:Int)=some (AA s.p.dl l.length):=AD o v;have key:((Aw [] l).bind λB=>
      (Aw B [i]).bind λr=>
      (CB m (Cz s L) r).bind λu=>
      some (.next (u,At (i+1)):CF (Ay×Int) Ay))=some (.next (Cz (Cz s L) (Fw n (Jd s (l++[i]) [])),i+1)):=by
     have M:=bi n (Cz s L) (l++[i]) N ⟨hf.pn,hf.pe,hf.ends,hf.kinds,hf.small⟩ K (by show(l++[i]).length+n=s.p.dl.length;rw[az];simp;omega) m U;have ε:Fw n (Jd (Cz s L) (l++[i]) [])=Fw n (Jd s (l++[i]) []):=dX n (Jd s (l++[i]) []) _;rw[ε]at M;rw[Be a?,bs,AV b_,bs,M,bs,A1 U U]
    rw [R,bs,S,Q,θ,key];simp only[bs];rw[G,A1 (n:=i+1) U U];simp only[bs];have H:SJ (Jd s l []) i=((decide (AA s.ff.dl l.length<0)||decide (AA s.ff.dl l.length=i))&&AA (AA (KT s.t) (AA s.p.dl l.length)) (AA s.g.dl i)&&!(s.en&&l.any λx=>decide (i=x))):=rfl;have κ:AA (AA (KT s.t) (AA s.p.dl l.length)) (AA s.g.dl i)=HP s.t (AA s.g.dl i) (AA s.p.dl l.length):=by
     rw [j];exact Iw (λk=>HP s.t k (AA s.p.dl l.length)) q.1 w
    have η:(decide (AA s.ff.dl l.length<0)||decide (AA s.ff.dl l.length=i))=!(decide (0<=AA s.ff.dl l.length)&&!decide (AA s.ff.dl l.length=i)):=by
     rw [Bool.not_and,Bool.not_not];congr 1;rw[<-decide_not];exact decide_eq_decide.2 U
    rw [H,κ,η];generalize Fw n (Jd s (l++[i]) [])=A;generalize decide (0<=AA s.ff.dl l.length)=c1;generalize decide (AA s.ff.dl l.length=i)=c2;generalize HP s.t (AA s.g.dl i) (AA s.p.dl l.length)=c3;generalize (s.en&&l.any λx=>decide (i=x))=c6;cases c1<;>cases c2<;>cases c3<;>cases c6<;>first|rfl|(simp[Q5 K];try rfl)) (by rw[ac (by simp[Cz])]),B1,y!,Fw]
   rfl
end Go.Sf.Sc
namespace Go.Sf.Sc
open Go Go.Sf
def FF(t:AC)(p g:dr)(pa:d4)(inj:Bool):AM:=⟨p,g,KT t,pa,inj,5001,[],[],[]⟩
def Jk(t:AC)(p g:dr)(pa:d4)(inj:Bool):List d4:=(Fw p.dl.length (FF t p g pa inj)).take 5001
variable{t:AC}{p g:dr}
theorem vO{pa:d4}{inj:Bool}(j:A0 t)(hv:(BF t).2=0)(d:Np (FF t p g pa inj)):Gf t p g pa inj 5001=Y (Jk t p g pa inj):=by
 unfold Gf;rw[mR j (C6 hv) hv,bs];have h:=oY (f:=FF t p g pa inj) d ⟨by show(0:Int)<=5001;omega,by show(5001:Int)<=10000;omega,by show((0:Nat):Int)<=5001;omega⟩ rfl rfl;rw[dV _ _ d rfl]at h;have e:AM.mk p g (KT t) pa inj 5001 [] [] []=FF t p g pa inj:=rfl;rw[e,h];rfl
theorem uI{pa:d4}{inj:Bool}(hv:(BF t).2=0)(d:Np (FF t p g pa inj)):K8 t p g pa inj 5000=Y (Jk t p g pa inj):=by
 unfold K8;have h:Hr ⟨t,p,g,pa,inj,5000,[]⟩ []=Y (Cz ⟨t,p,g,pa,inj,5000,[]⟩ (Fw p.dl.length (FF t p g pa inj))):=
  DV (p.dl.length+1) λm e=>bi p.dl.length ⟨t,p,g,pa,inj,5000,[]⟩ [] (C6 hv) d ⟨by show(0:Int)<=5000;omega,by show(5000:Int)<=9999;omega,by show((0:Nat):Int)<=5000+1;omega⟩ p_ m e
 rw [h];rfl
end Go.Sf.Sc
namespace Go.Sf.Sc
open Go Go.Sf
def Wv(n k:Int):Bool:=decide (k< -1)||decide (n<=k)
def Sv(l:Fp)(n:Int):Int:=if l.any (Wv n)=X then 6 else 0
theorem oa(l:Fp)(n:Int):Im l n=Y (Sv l n):=by grind[Im,Sv,OW,Wv,R9]
variable{l:Fp}
theorem gc{c:Int}(n:Int)(h:(l.length:Int)=c):Ku l c n=Y (Sv l n):=by
 unfold Ku Sv;rw[ac q_,Bk (λi=>Wv n (AA l i)) 6]
 .have e:kg (λi=>Wv n (AA l i)) 0 l.length=l.any (Wv n):=by
   rw [v5,Ee,B?]
   grind [AI,Bh]
  rw [e];cases l.any (Wv n)<;>rfl
 grind [AD,Wv,AA]
end Go.Sf.Sc
namespace Go.Sf.Sc
open Go Go.Sf
theorem gK(t:AC)(g:dr):Gv t g=Y (DZ t g):=by grind[Gv,DZ,Mb,R9,Mc,jZ]
def E5(t:AC)(p g:dr):Int:=if(BF t).2≠0 then(BF t).2 else if CL p≠0 then CL p else if CL g≠0 then CL g else if(DZ t p&&DZ t g)=X then 0 else 13
variable{t:AC}
theorem WI(hf:A0 t)(p g:dr):Fc t p g=Y (E5 t p g):=by
 unfold Fc E5;rw[Oy hf,bs];refine EX λ_=>?_;have o:gt (ρ:=Int) (λ(m:Int)(_:Unit)=>
   (idx [p,g] m).bind λj=>
   (Db j).bind λh=>
   if (!decide (h=0))=X then
   Y (.ret h)
   else
   Y (.next ())) 0 ([p,g].length:Int) ()=Y (if CL p≠0 then .inr (CL p)else if CL g≠0 then .inr (CL g)else .inl ()):=by
  show tl _ 2 0 ()=_;rw[Ew,show idx [p,g] 0=Y p from rfl,bs,NV,bs];by_cases d:CL p=0
  .rw[ac (by simp[d]),ac (by simp[d])];show tl _ 1 (0+1) ()=_;rw[Ew,show idx [p,g] (0+1)=Y g from rfl,bs,NV,bs];by_cases e:CL g=0
   .rw[ac b?,ac b?];rfl
   .rw[a6 b?,a6 e]
  .rw[a6 (by simp[d]),a6 d]
 rw [o];by_cases d:CL p=0
 .by_cases e:CL g=0
  .simp[d,e,B1];rw[gK,gK,bs];cases DZ t p<;>cases DZ t g<;>rfl
  .simp[d,e,not_false_eq_true,S4]
 .simp[d,not_false_eq_true,S4]
theorem UV(hf:A0 t)(p g:dr):GM t p g=Y (E5 t p g):=by
 unfold GM E5;rw[R0 hf,bs];refine EX λ_=>?_;rw[Oz,bs];refine EX λd=>?_;rw[Oz,bs];refine EX λe=>?_
 grind [Z4,Dp,DZ]
end Go.Sf.Sc
namespace Go.Sf.Sc
open Go Go.Sf
variable{t:AC}{p g:dr}
theorem W8{pa:d4}{inj:Bool}(h:E5 t p g=0)(r:pa.dl.length=p.dl.length)(u:pa.d3.length=p.d3.length):(BF t).2=0/\Np (FF t p g pa inj):=by
 unfold E5 at h;by_cases hv:(BF t).2=0
 .rw[ac l!]at h;by_cases o:CL p=0
  .rw[ac p?]at h;by_cases q:CL g=0
   .rw[ac (by simp[q])]at h;by_cases d:(DZ t p&&DZ t g)=X
    .rw[ne]at d;have op:=Dp o;have m:=Dp q;have tp:=IA op d.1;have w:=IA m d.2;have x:(KT t).length=t.dl.length:=by unfold KT;rw[c9,A4]
     refine ⟨hv,r,u,λe he=>?_,λn v=>?_,Nat.le_trans op.ea U,Nat.le_trans op.eg U,Nat.le_trans m.ea U,Nat.le_trans m.eg U⟩
     .have:=op.fit e he;exact⟨this.2.1.1,this.2.1.2,this.2.2.1,this.2.2.2⟩
     .have:=tp.1 n v;refine⟨this.1,by show n<((KT t).length:Int);rw[x];exact this.2,λk j=>?_⟩;have j:=w.1 k j;refine⟨j.1,?_⟩;show k<((AA (KT t) n).length:Int)
      grind [KT,Iw,Pr,c9,A4]
    grind
   grind
  grind
 grind
def T3(t:AC)(p g:dr)(pa:d4)(inj:Bool):List d4×Int:=
 if E5 t p g≠0 then([],E5 t p g)else if¬(pa.dl.length=p.dl.length/\pa.d3.length=p.d3.length)then([],20)else
 if Sv pa.dl g.dl.length≠0 then([],Sv pa.dl g.dl.length)else if Sv pa.d3 g.d3.length≠0 then([],Sv pa.d3 g.d3.length)else
 if 5000<(Jk t p g pa inj).length then([],3)else(Jk t p g pa inj,0)
theorem rN(hf:A0 t)(p g:dr)(pa:d4)(inj:Bool):H8 t p g pa inj=Y (T3 t p g pa inj):=by
 unfold H8 T3;rw[WI hf,bs];refine D2 λe=>?_;refine Qt (by simp[x_,decide_eq_false_iff_not];omega) λd=>?_;have d:=x?.1 d;rw[oa,bs];refine D2 λh=>?_;rw[oa,bs];refine D2 λj=>?_
 grind [W8,Jz,vO,Jk]
theorem ra(hf:A0 t)(p g:dr)(pa:d4)(inj:Bool):I5 t p g pa inj=Y (T3 t p g pa inj):=by
 unfold I5 T3;rw[UV hf,bs];refine D2 λe=>?_;refine Qt (by simp[x_,decide_eq_false_iff_not];omega) λd=>?_;have d:=x?.1 d;rw[gc _ U,bs];refine D2 λh=>?_;rw[gc _ U,bs];refine D2 λj=>?_
 grind [W8,uI,Jk]
def NU(p:dr):d4:=⟨A' p.dl.length (-1),A' p.d3.length (-1)⟩
variable{n:Nat}{i:Int}
theorem Xb(d:0<=i)(e:i<n):BR (A' i.toNat (-1:Int)++A' (n-i.toNat) 0) i (-1)=A' (i+1).toNat (-1)++A' (n-(i+1).toNat) 0:=by
 unfold BR;rw[List.set_append_right _ _ V,show n-i.toNat=(n-(i+1).toNat)+1 by omega,List.replicate_succ,List.length_replicate,Nat.sub_self,List.set_cons_zero,show(i+1).toNat=i.toNat+1 by omega,List.replicate_succ',ci];rfl
theorem rg(h:p.dl.length<=100)(j:p.d3.length<=100):LX p=Y (NU p):=by
 unfold LX;have m1:Hv (p.dl.length:Int) (0:Int)=Y (A' p.dl.length 0):=by unfold Hv;rw[a6 U,y!]
 have e:Hv (p.d3.length:Int) (0:Int)=Y (A' p.d3.length 0):=by unfold Hv;rw[a6 U,y!]
 rw [m1,bs,e,bs];rw[P1 (λi=>(⟨A' i.toNat (-1)++A' (p.dl.length-i.toNat) 0,A' p.d3.length 0⟩:d4)) (a:=0) (b:=p.dl.length) U V,B1]
 .dsimp only;rw[P1 (λi=>(⟨A' p.dl.length (-1),A' i.toNat (-1)++A' (p.d3.length-i.toNat) 0⟩:d4)) (a:=0) (b:=p.d3.length) U V,B1]
  .simp[NU]
  .intro i d i1;dsimp only;rw[a6 a_,AD d a_,bs,Xb d i1,A1 (n:=i+1) U U]
  .dsimp only;rw[ac V]
 .intro i d i1;dsimp only;rw[a6 a_,AD d a_,bs,Xb d i1,A1 (n:=i+1) U U]
 .dsimp only;rw[ac V]
end Go.Sf.Sc
