/- Plain lemmas: what the functions of the program and of the reference compute. -/
import Derived.Test.YthcncnllajfkfaaGreatP1
import Derived.Test.YthcncnllajfkfaaGreatEval
set_option linter.all false
set_option maxRecDepth 100000
open Option renaming some->Y
open Bool renaming true->X,false->T
open Bool renaming not_eq_false'->v5,eq_iff_iff->v6,not_eq_true->v_,not_true->v!,false_eq_true->v?,false_and->w_,and_self->w!,and_false->w?,or_false->x_,not_eq_true'->x!
open Classical renaming propDecidable->x?,not_not->y_
open Int renaming le_refl->y!,toNat_natCast->y?
open List renaming take_of_length_le->z_,append_nil->z!,take_append_of_le_length->z?,flatMap_append->A_,take_left->A',replicate->A!,ext_getElem->A?,any_append->B_,any_cons->B',any_nil->B!,mem_filter->B?,any_eq_true->C_,flatMap_eq_nil_iff->C'
namespace Go.Sf.Sc
open Go Go.Sf
variable{t:AC}{c:d5}
theorem vC(hf:Aq t)(p:d7)(e:EJ c):Dp t p c=Y (O9 t p c):=by
 by_cases d:(A5 t).2=0
 .exact oI hf d p e
 .unfold Dp O9;rw[Yh hf,bs];refine EM λh=>?_;exfalso;unfold JF at h;rw[a6 d]at h;exact d h
end Go.Sf.Sc
namespace Go.Sf.Sc
open Go Go.Sf
variable{α:Type}
theorem Z1[Inhabited α](b:α->α->Bool){l m:List α}(hb:∀x∈l,∀y∈m,(b x y=X↔x=y))(d:l.length=m.length):kl (λi=>!b (AA l i) (AA m i)) 0 l.length=T↔l=m:=by
 rw [Bw];constructor
 .intro h;refine Xr d (λi i1 i2=>?_);have:=h i i1 i2;rw[v5]at this;exact(hb _ (AI i1 i2) _ (AI i1 U)).1 this
 .rintro rfl i i1 i2;rw[v5];exact(hb _ (AI i1 i2) _ (AI i1 i2)).2 rfl
theorem Vw[Inhabited α][DecidableEq α]{l m:List α}(q:l.length=m.length){k:Unit->K1}{j:Bool->K1}:ei (gt (ρ:=Bool) (λ(o:Int)(_:Unit)=>
 (idx l o).bind λd=>
 (idx m o).bind λe=>
 if (!decide (d=e))=X then
 Y (.ret T)
 else
 Y (.next ())) 0 (l.length:Int) ()) k j=if l=m then k ()else j T:=by
 rw [BZ (λi=>!decide (AA l i=AA m i)) T]
 .have:=Z1 (λx y:α=>decide (x=y)) (l:=l) (m:=m) (λ_ _ _ _=>decide_eq_true_iff) q;by_cases h:l=m
  .rw[this.2 h,a6 h];rfl
  .rw[ac h];cases r:kl (λi=>!decide (AA l i=AA m i)) 0 l.length
   .exact absurd (this.1 r) h
   .rfl
 .intro i i1 i2 _;rw[AD i1 i2,bs,AD i1 U,bs,JE]
theorem P4[Inhabited α][DecidableEq α](l m:List α):(if(!decide ((l.length:Int)=(m.length:Int)))=X then
 Y T
 else
 ei (gt (ρ:=Bool) (λ(q:Int)(_:Unit)=>
 (idx l q).bind λd=>
 (idx m q).bind λj=>
 if (!decide (d=j))=X then
 Y (.ret T)
 else
 Y (.next ())) 0 (l.length:Int) ()) (λ_=>
 Y X) (λr=>Y r))=Y (decide (l=m)):=by
 by_cases o:l.length=m.length
 .rw[ac q_,Vw o];by_cases h:l=m
  .rw[a6 h,decide_eq_true h]
  .rw[ac h,decide_eq_false h]
 .rw[a6 a_,decide_eq_false (λe=>o (by rw[e]))]
theorem KQ(l m:Fp):slices_Equal_int l m=Y (decide (l=m)):=P4 l m
theorem gI(l m:List CC):Gd l m=Y (decide (l=m)):=P4 l m
theorem oa(l m:List Cu):IB l m=Y (decide (l=m)):=P4 l m
theorem ob(l m:List Test):IC l m=Y (decide (l=m)):=P4 l m
theorem Zw(l m:Fp):Ig l m=Y (decide (l=m)):=P4 l m
theorem WC(l m:Fp):Dg l m=Y (decide (l=m)):=P4 l m
theorem V9(a b:d4):FW a b=Y (decide (a=b)):=by
 unfold FW;rw[KQ,KQ];obtain⟨a1,e⟩:=a;obtain⟨j,m⟩:=b;by_cases h:a1=j<;>by_cases d:e=m<;>simp[h,d]
theorem WE(a b:d4):II a b=Y (decide (a=b)):=by
 unfold II;rw[Zw,Zw];obtain⟨a1,e⟩:=a;obtain⟨j,m⟩:=b;by_cases h:a1=j<;>by_cases d:e=m<;>simp[h,d]
theorem kN(a b:dr):NN a b=Y (decide (a=b)):=by
 unfold NN;rw[WC,bs];obtain⟨a1,j⟩:=a;obtain⟨q,m⟩:=b;by_cases h:a1=q
 .by_cases d:j.length=m.length
  .rw[ac (by simp[h,d]),Vw d];by_cases o:j=m<;>simp[h,o]
  .rw[a6 a_];rw[decide_eq_false (λe=>d (by cases e;rfl))]
 .simp[h]
theorem kO(a b:d7):LM a b=Y (decide (a=b)):=by
 unfold LM;rw[kN,bs];obtain⟨a1,r,x,u⟩:=a;obtain⟨y,v,z,w⟩:=b;by_cases h:a1=y/\x=z/\r.length=v.length/\u.length=w.length
 .obtain⟨j,m,o,d⟩:=h;rw[ac (by simp[j,m,o,d]),Vw o];by_cases q:r=v
  .rw[a6 q,Vw d];by_cases A:u=w<;>simp[j,m,q,A]
  .simp[q]
 .rw[a6 ?_]
  .rw[decide_eq_false (λe=>h (by cases e;exact⟨rfl,rfl,rfl,rfl⟩))]
  .by_cases j:a1=y
   .by_cases m:x=z
    .by_cases o:r.length=v.length
     .have d:¬u.length=w.length:=λd=>h ⟨j,m,o,d⟩;simp;omega
     .simp;omega
    .simp[m]
   .simp[j]
noncomputable def Uh(a b:d5):Bool:=@decide (a=b) (x? _)
theorem ZG{a b:d5}:Uh a b=X↔a=b:=by
 unfold Uh;exact@decide_eq_true_iff _ (x? _)
noncomputable def aJ(l m:List d5):Bool:=@decide (l=m) (x? _)
theorem Vv{l m:List d5}:aJ l m=X↔l=m:=by
 unfold aJ;exact@decide_eq_true_iff _ (x? _)
theorem jX(a b:d5):Uh a b=(decide (a.jj=b.jj)&&decide (a.Map=b.Map)&&decide (a.d7=b.d7)&&aJ a.em b.em):=by
 rw [v6,ZG];obtain⟨a1,m,o,q⟩:=a;obtain⟨r,u,v,w⟩:=b;simp only[ne,sA,Vv,d5.mk.injEq];constructor
 .rintro⟨d,e,h,j⟩;exact⟨⟨⟨d,h⟩,j⟩,e⟩
 .rintro⟨⟨⟨d,h⟩,j⟩,e⟩;exact⟨d,e,h,j⟩
theorem a8{l m:List d5}{f:d5->d5->K1}(hf:∀x∈l,∀y,f x y=Y (Uh x y))(r:l.length=m.length):ei (gt (ρ:=Bool) (λ(q:Int)(_:Unit)=>
 (idx l q).bind λd=>
 (idx m q).bind λe=>
 (f d e).bind λj=>
 if (!j)=X then
 Y (.ret T)
 else
 Y (.next ())) 0 (l.length:Int) ()) (λ_=>
 Y X) (λu=>Y u)=Y (aJ l m):=by
 rw [BZ (λi=>!Uh (AA l i) (AA m i)) T]
 .have:=Z1 Uh (l:=l) (m:=m) (λ_ _ _ _=>ZG) r;cases o:kl (λi=>!Uh (AA l i) (AA m i)) 0 l.length
  .rw[Vv.2 (this.1 o)];rfl
  .have:aJ l m=T:=by
    rw [<-v_,Vv];intro h;rw[this.2 h]at o;cases o
   rw [this];rfl
 .intro i i1 i2 _;rw[AD i1 i2,bs,AD i1 U,bs,hf _ (AI i1 i2),bs,JE]
theorem jZ{l m:List d5}(h:¬l.length=m.length):aJ l m=T:=by
 rw [<-v_,Vv];exact λe=>h (by rw[e])
theorem oT:∀(N:Nat)(a b:d5),SizeOf.sizeOf a<=N->∀n,N<=n->C2 n a b=Y (Uh a b)
 |0,a,_,h,_,_=>by have:=D8 a;omega|N+1,a,b,h,n,I=>by
  obtain ⟨n,rfl⟩:∃m,n=m+1:=⟨n-1,U⟩;have v:CY a.em b.em (C2 n)=Y (aJ a.em b.em):=by
   unfold CY;by_cases d:a.em.length=b.em.length
   .rw[ac (by simp[d]),a8 (λx u y=>by have:=E5 u;exact oT N x y U n U) d]
   .rw[a6 a_,jZ d]
  rw [C2,V9,KQ,gI,oa,ob,v,jX];have w:decide (a.d7=b.d7)=(decide (a.d7.ey=b.d7.ey)&&decide (a.d7.dr.dl=b.d7.dr.dl)&&decide (a.d7.dr.d3=b.d7.dr.d3)&&decide (a.d7.ek=b.d7.ek)&&decide (a.d7.j4=b.d7.j4)):=by
   rw [v6];simp only[ne,sA];obtain⟨_,_,_,⟨⟨a1,z⟩,A,B,C⟩⟩:=a;obtain⟨_,_,_,⟨⟨D,E⟩,F,G,H⟩⟩:=b;simp only[d7.mk.injEq,dr.mk.injEq];constructor
   .rintro⟨⟨e,j⟩,o,q,r⟩;exact⟨⟨⟨⟨q,e⟩,j⟩,o⟩,r⟩
   .rintro⟨⟨⟨⟨q,e⟩,j⟩,o⟩,r⟩;exact⟨⟨e,j⟩,o,q,r⟩
  rw [w];generalize decide (a.jj=b.jj)=c1;generalize decide (a.Map=b.Map)=c2;generalize decide (a.d7.ey=b.d7.ey)=c3;generalize decide (a.d7.dr.dl=b.d7.dr.dl)=c4;generalize decide (a.d7.dr.d3=b.d7.dr.d3)=c5;generalize decide (a.d7.ek=b.d7.ek)=c6;generalize decide (a.d7.j4=b.d7.j4)=c7;generalize aJ a.em b.em=c8;cases c1
  .rfl
  cases c2
  .rfl
  cases c3
  .rfl
  cases c4
  .rfl
  cases c5
  .rfl
  cases c6
  .rfl
  cases c7
  .rfl
  rfl
theorem vM(a b:d5):M8 a b=Y (Uh a b):=DK (SizeOf.sizeOf a) λn d=>oT _ a b (ae _) n d
theorem oz:∀(N:Nat)(a b:d5),SizeOf.sizeOf a<=N->∀n,N<=n->IX n a b=Y (Uh a b)
 |0,a,_,h,_,_=>by have:=D8 a;omega|N+1,a,b,h,n,j=>by
  obtain ⟨n,rfl⟩:∃m,n=m+1:=⟨n-1,U⟩;rw[IX,WE,kO,jX];by_cases d:a.em.length=b.em.length
  .rw[a8 (λx e y=>by have:=E5 e;exact oz N x y U n U) d,decide_eq_true (show(a.em.length:Int)=b.em.length by rw[d])];generalize decide (a.jj=b.jj)=c1;generalize decide (a.Map=b.Map)=c2;generalize decide (a.d7=b.d7)=c3;cases c1
   .rfl
   cases c2
   .rfl
   cases c3
   .rfl
   rfl
  .rw[decide_eq_false (show¬(a.em.length:Int)=b.em.length by omega),jZ d];generalize decide (a.jj=b.jj)=c1;simp
theorem vf(a b:d5):UN a b=Y (Uh a b):=DK (SizeOf.sizeOf a) λn d=>oz _ a b (ae _) n d
end Go.Sf.Sc
namespace Go.Sf.Sc
open Go Go.Sf
mutual
def De:d5->Nat
 |⟨_,kids,_,_⟩=>1+Sz kids
def Sz:List d5->Nat
 |[]=>0|k::l=>De k+Sz l
end
mutual
def dep:d5->Nat
 |⟨k,kids,_,_⟩=>(if k=5 then 1 else 0)+xN kids
def xN:List d5->Nat
 |[]=>0|k::l=>max (dep k) (xN l)
end
theorem Uz(c:d5):De c=1+Sz c.em:=by cases c;rfl
variable{k:Int}
theorem uY{l:List d5}(d:0<=k)(e:k<l.length):l.drop k.toNat=AA l k::l.drop (k+1).toNat:=by
 rw [show(k+1).toNat=k.toNat+1 by omega,List.drop_eq_getElem_cons U];unfold AA;rw[List.getD_eq_getElem?_getD,List.getElem?_eq_getElem U];rfl
theorem aN:∀(N:Nat)(c:d5),SizeOf.sizeOf c<=N->(AJ c).Sm->∀pf:Int,0<=pf->pf<=1000->∃r,(∀n,N<=n->DA n c pf=Y r)/\-1<=r/\r<=pf-1/\(0<=r->EJ c/\(De c:Int)+r<=pf)
 |0,c,h,_,_,_,_=>by have:=D8 c;omega|N+1,c,h,ζ,pf,m0,m1=>by
  obtain ⟨O,P,D⟩:=jU ζ;obtain⟨Q,z,R⟩:=TE c.d7;obtain⟨S,F,θ⟩:=ZJ O;have step:∀n,N+1<=n->∃m,n=m+1/\N<=m:=λn d=>⟨n-1,U,U⟩;cases Q
  .refine⟨-1,λn d=>?_,U,U,λh=>U⟩;obtain⟨n,rfl,_⟩:=step n d;rw[DA,z];rfl
  cases S
  .refine⟨-1,λn d=>?_,U,U,λh=>U⟩;obtain⟨n,rfl,_⟩:=step n d;rw[DA,z,bs,F];rfl
  have loop:∀(m:Nat)(k left:Int),0<=k->k+m=c.em.length->-1<=left->left<=1000->∃e w,(∀n,N<=n->L8 (ρ:=Int) (λ(q:Int×Int)=>
    if ((decide (q.2<(c.em.length:Int)))&&(decide (0<=q.1)))=X then
    (idx c.em q.2).bind λA=>
    (DA n A q.1).bind λB=>
    Y (.next (B,Al (q.2+1)))
    else
    Y (.brk (q.1,q.2))) (left,k) (.inl (e,w)))/\-1<=e/\e<=left/\(0<=e->(∀j,k<=j->j<c.em.length->EJ (AA c.em j))/\(Sz (c.em.drop k.toNat):Int)+e<=left):=by
   intro m
   induction m with
   |zero=>
    intro k left y K E l1;refine⟨left,k,λn d=>.brk ?_,E,U,λ_=>⟨λj C x=>U,?_⟩⟩
    .rw[ac a_]
    .rw[List.drop_of_length_le U,Sz];omega
   |succ m η=>
    intro k left y K E l1;by_cases L:0<=left
    .have o:=AI (l:=c.em) y U;have:=E5 o;obtain⟨r,ε,κ,δ,I⟩:=aN N _ U (D _ o) left L l1;obtain⟨e,w,a1,G,J,v⟩:=η (k+1) r U U κ U;refine⟨e,w,λn d=>.next (s':=(r,k+1)) ?_ (a1 n d),G,U,λu=>⟨λj C x=>?_,?_⟩⟩
     .rw[a6 a_,AD y U,bs,ε n d,bs,Ar U U]
     .by_cases M:j=k
      .subst M;exact(I U).1
      .exact(v u).1 j U x
     .have z:=(I U).2;have F:=(v u).2;rw[uY y U,Sz];omega
    .refine⟨left,k,λn d=>.brk ?_,E,U,λh=>U⟩;rw[ac a_]
  obtain ⟨e,w,a1,G,J,v⟩:=loop c.em.length 0 (pf-1) U U U U;refine⟨e,λn d=>?_,G,J,λu=>⟨.mk c (R rfl) (θ rfl) (λk D=>?_),?_⟩⟩
  .obtain⟨n,rfl,H⟩:=step n d;rw[DA,z,bs,F];simp only[bs,v!,v?,if_false];rw[Ar (n:=pf-1) U U,(a1 n H).eq,Br]
  .obtain⟨j,C,x,rfl⟩:=BW D;exact(v u).1 j C x
  .have:=(v u).2;rw[show(0:Int).toNat=0 from rfl,List.drop_zero]at this;rw[Uz];omega
variable{c:d5}
theorem nY(d:(AJ c).Sm):∃b,Ky c=Y b/\(b=X->EJ c/\De c<=40):=by
 obtain ⟨r,j,_,_,m⟩:=aN (SizeOf.sizeOf c) c (ae _) d 40 U U;have e:RX c 40=Y r:=DK (SizeOf.sizeOf c) j;unfold Ky;rw[e];exact⟨_,rfl,λh=>by have:=m c?;exact⟨this.1,by have:=this.2;simp at h;omega⟩⟩
theorem Wt:∀{l:List d5}{k:d5},k∈l->De k<=Sz l
 |x::l,k,h=>by
  rw [Sz];rcases List.mem_cons.1 h with rfl|h
  .omega
  .have:=Wt h;omega
end Go.Sf.Sc
namespace Go.Sf.Sc
open Go Go.Sf
class PL(α:Type)where
 at_:α->Int->Int
 ok:α->Nat->Prop
instance:PL Fp:=⟨AA,λl n=>l.length=n⟩
instance:PL (Option Fp):=⟨λo i=>match o with|none=>-1|some l=>AA l i,λo n=>match o with|none=>True|some l=>l.length=n⟩
structure Nd(f:AM):Prop where
 pn:PL.ok f.ff.dl f.p.dl.length
 pe:PL.ok f.ff.d3 f.p.d3.length
 ends:∀e∈f.p.d3,0≤e.hV/\e.hV<f.p.dl.length/\0≤e.To/\e.To<f.p.dl.length
 kinds:∀n∈f.p.dl,0<=n/\n<f.is.length/\∀t∈f.g.dl,0<=t/\t<(AA f.is n).length
 small:f.p.dl.length<=1000/\f.p.d3.length<=1000/\f.g.dl.length<=1000/\f.g.d3.length<=1000
def LU(f:AM)(i k:Int):Bool:=
 (decide (PL.at_ f.ff.d3 i<0)||decide (PL.at_ f.ff.d3 i=k))&&decide (AA f.g.d3 k=⟨(AA f.p.d3 i).ia,AA f.ea (AA f.p.d3 i).hV,AA f.ea (AA f.p.d3 i).To⟩)
variable{α:Type}
theorem oB{l:List α}(h:l≠[]):XF l=Y ():=by grind[XF]
variable{l:Fp}{i:Int}
theorem YD(e:0<=i)(d:i<l.length):((XF l).bind λ_=>(idx l i).bind λx=>Y x)=Y (AA l i):=by
 rw [oB (by intro h;subst h;simp at d;omega),bs,AD e d,bs]
variable{n:Nat}
theorem eM:∀{l},PL.ok l n->0<=i->i<n->Mx l i=Y (PL.at_ l i):=by
 intro l h d e
 first
  |(cases l with
    |none=>rfl|some l=>exact YD d (by have:l.length=n:=h;omega))
  |exact YD d (by have:l.length=n:=h;omega)
variable{f:AM}{k:Int}
theorem oV(hf:Nd f)(d:0<=i)(i1:i<f.p.d3.length)(e:0<=k)(h:k<f.g.d3.length)(j:(AA f.p.d3 i).hV<f.ea.length)(hT:(AA f.p.d3 i).To<f.ea.length):EL f i k=Y (LU f i k):=by
 have he:=hf.ends _ (AI d i1);unfold EL LU;rw[AD d i1,bs,eM hf.pe d i1,bs,AD e h,bs,AD he.1 j,bs,AD he.2.2.1 hT,bs]
 grind
def P8(f:AM):Bool:=!kl (λi=>decide (max (AA f.p.d3 i).hV (AA f.p.d3 i).To=(f.ea.length:Int)-1)&&!kl (λk=>LU f i k) 0 f.g.d3.length) 0 f.p.d3.length
variable{b:Int}
theorem uO{f:Int->Bool->Option (B5 Bool Bool)}(p:Int->Bool)(h:∀i,0<=i->i<b->f i T=Y (if p i=X then .brk X else .next T)):gt f 0 b T=Y (.inl (kl p 0 b)):=by
 have key:∀(m:Nat)(i:Int),0<=i->i+m=b->tn f m i T=Y (.inl (kl p i b)):=by
  intro m
  induction m with
  |zero=>
   intro i d hi;have:kl p i b=T:=by rw[Bw];intro j q r;omega
   rw [this];rfl
  |succ m u=>
   intro i d hi;rw[Ek,h i d U];by_cases o:p i=X
   .have:kl p i b=X:=by rw[EU];exact⟨i,y! _,U,o⟩
    rw [a6 o,this]
   .have e:kl p i b=kl p (i+1) b:=by
     rw [v6,EU,EU]
     grind
    grind
 unfold gt;by_cases hb:0<=b
 .grind
 .have:kl p 0 b=T:=by rw[Bw];intro j q r;omega
  rw [this,show(b-0).toNat=0 by omega];rfl
theorem mG(hf:Nd f)(o:0<f.ea.length)(h:f.ea.length<=1000):Ca f=Y (P8 f):=by
 unfold Ca P8;rw[BZ (λi=>decide (max (AA f.p.d3 i).hV (AA f.p.d3 i).To=(f.ea.length:Int)-1)&&!kl (λk=>LU f i k) 0 f.g.d3.length) T]
 .generalize kl (λi=>decide (max (AA f.p.d3 i).hV (AA f.p.d3 i).To=(f.ea.length:Int)-1)&&!kl (λk=>LU f i k) 0 f.g.d3.length) 0 f.p.d3.length=b;cases b<;>rfl
 .intro i d i1 _;rw[AD d i1,bs,Ar (n:=(f.ea.length:Int)-1) U U];by_cases e:max (AA f.p.d3 i).hV (AA f.p.d3 i).To=(f.ea.length:Int)-1
  .rw[ac b?,uO (λk=>LU f i k) (λk j m=>by
    rw [oV hf d i1 j m U U,bs,JE])]
   generalize kl (λk=>LU f i k) 0 f.g.d3.length=b;rw[decide_eq_true e];cases b<;>rfl
  grind
def At(n:Nat):Fp:=(List.range n).map Int.ofNat
theorem Vj(n:Nat):At (n+1)=At n++[(n:Int)]:=by grind[At,List.range_succ]
def R9(f:AM)(k:Int):Bool:=(decide (PL.at_ f.ff.dl f.ea.length<0)||decide (PL.at_ f.ff.dl f.ea.length=k))&&AA (AA f.is (AA f.p.dl f.ea.length)) (AA f.g.dl k)&&!(f.en&&f.ea.any λx=>decide (k=x))
def R8(f:AM)(k:Int):Bool:=LU f f.eh.length k&&!(f.en&&f.eh.any λx=>decide (k=x))
def EK:Nat->AM->List d4
 |0,f=>[⟨f.ea,f.eh⟩]|n+1,f=>(At f.g.d3.length).flatMap λk=>if R8 f k=X then EK n {f with eh:=f.eh++[k]}else[]
def K5:Nat->AM->List d4
 |0,f=>EK f.p.d3.length f|n+1,f=>(At f.g.dl.length).flatMap λk=>if(R9 f k&&P8 {f with ea:=f.ea++[k]})=X then K5 n {f with ea:=f.ea++[k]}else[]
theorem bq(a b:List α)(m:Nat):((a.take m)++b).take m=(a++b).take m:=by
 by_cases h:a.length<=m
 .rw[z_ h]
 grind
end Go.Sf.Sc
namespace Go.Sf.Sc
open Go Go.Sf
def UG(f:AM)(o:List d4):AM:={f with out:=o}
variable{f:AM}
theorem Nd.out(h:Nd f)(o:List d4):Nd (UG f o):=⟨h.pn,h.pe,h.ends,h.kinds,h.small⟩
theorem Rv:∀(n:Nat)(f:AM)(o:List d4),EK n (UG f o)=EK n f
 |0,_,_=>rfl|n+1,f,o=>by
  rw [EK,EK];refine congrArg (λF=>(At f.g.d3.length).flatMap F) (funext λk=>?_);have:=Rv n {f with eh:=f.eh++[k]} o;show(if R8 f k=X then EK n (UG {f with eh:=f.eh++[k]} o)else[])=_;rw[this]
theorem dP:∀(n:Nat)(f:AM)(o:List d4),K5 n (UG f o)=K5 n f
 |0,f,o=>Rv _ f o|n+1,f,o=>by
  rw [K5,K5];refine congrArg (λF=>(At f.g.dl.length).flatMap F) (funext λk=>?_);have:=dP n {f with ea:=f.ea++[k]} o;show(if(R9 f k&&P8 {f with ea:=f.ea++[k]})=X then K5 n (UG {f with ea:=f.ea++[k]} o)else[])=_;rw[this]
def BI(f:AM)(l:List d4):AM:=UG f ((f.out++l).take f.pf.toNat)
structure Y7(f:AM):Prop where
 m0:0<=f.pf
 m1:f.pf<=10000
 out:(f.out.length:Int)<=f.pf
theorem Mc(h:Y7 f):BI f []=f:=by
 unfold BI;rw[z!,z_ (by have:=h.out;have:=h.m0;omega)];rfl
theorem aj(h:(f.out.length:Int)=f.pf)(l:List d4):BI f l=f:=by
 unfold BI;rw[z? U,z_ U];rfl
theorem al(h:Y7 f)(l:List d4):Y7 (BI f l):=by
 refine ⟨h.m0,h.m1,?_⟩;have:=h.m0;show(((f.out++l).take f.pf.toNat).length:Int)<=f.pf
 grind
theorem ak(f:AM)(a b:List d4):BI (BI f a) b=BI f (a++b):=by
 show UG f ((((f.out++a).take f.pf.toNat)++b).take f.pf.toNat)=_;rw[bq,ci];rfl
theorem X4:∀(n:Nat)(f:AM),Nd f->Y7 f->f.ea.length=f.p.dl.length->f.eh.length+n=f.p.d3.length->∀m,n+1<=m->A9 m f=Y (BI f (EK n f))
 |n,f,hf,hr,J,he,m,w=>by
  obtain ⟨m,rfl⟩:∃k,m=k+1:=⟨m-1,U⟩;have K:=hf.small;have M:=hr.m0;have N:=hr.m1;have O:=hr.out;rw[A9];by_cases e:(f.out.length:Int)=f.pf
  .grind[aj]
  rw [ac d_,ac a_]
  match n,he,w with
  |0,he,w=>
   rw [ac a_];unfold slices_Clone_int;rw[BT a?,bs,BT a?,bs,AV b_,bs,bs];unfold BI;rw[z_ (by simp[EK];omega)];rfl
  |n+1,he,w=>
   rw [a6 a_];have F:∀k,R8 f k=X->Nd {f with eh:=f.eh++[k]}:=λk _=>⟨hf.pn,hf.pe,hf.ends,hf.kinds,hf.small⟩;rw[Bo (a:=0) (s:=f) (λi=>BI f ((At i.toNat).flatMap λk=>if R8 f k=X then EK n {f with eh:=f.eh++[k]}else[])) U (Mc hr)]
   .grind[y?,EK]
   .intro i B i1;have C:At (i+1).toNat=At i.toNat++[i]:=by
     rw [show(i+1).toNat=i.toNat+1 by omega,Vj];rw[show((i.toNat:Nat):Int)=i by omega]
    have D:∀l,BI f ((At (i+1).toNat).flatMap l)=BI (BI f ((At i.toNat).flatMap l)) (l i):=by
     intro l;rw[ak,C,A_];simp
    rw [D];generalize (At i.toNat).flatMap (λk=>if R8 f k=X then EK n {f with eh:=f.eh++[k]}else[])=L;have o:=al hr L;have u:Nd (BI f L):=hf.out _;have y:=hf.ends _ (AI (l:=f.p.d3) (i:=(f.eh.length:Int)) U U);rw[oV u (i:=(f.eh.length:Int)) (k:=i) U (by show _<(f.p.d3.length:Int);omega) B (by exact i1) (by show(AA f.p.d3 f.eh.length).hV<(f.ea.length:Int);omega) (by show(AA f.p.d3 f.eh.length).To<(f.ea.length:Int);omega),bs];have E:slices_Contains_int (BI f L).eh i=Y (f.eh.any λx=>decide (i=x)):=Mb f.eh i;rw[E];have q:LU (BI f L) f.eh.length i=LU f f.eh.length i:=rfl;have key:((Am (BI f L).eh [i]).bind λh=>
      (A9 m (AM.mk (BI f L).p (BI f L).g (BI f L).is (BI f L).ff (BI f L).en (BI f L).pf (BI f L).ea h (BI f L).out)).bind λd=>
      (slc d.eh 0 (f.eh.length:Int)).bind λj=>
      Y (AM.mk d.p d.g d.is d.ff d.en d.pf d.ea j d.out))=Y (BI (BI f L) (EK n {f with eh:=f.eh++[i]})):=by
     have G:Am (BI f L).eh [i]=Y (f.eh++[i]):=AV (by show f.eh.length+1<=AY;unfold AY;omega);have z:=X4 n {BI f L with eh:=f.eh++[i]} ⟨hf.pn,hf.pe,hf.ends,hf.kinds,hf.small⟩ ⟨o.m0,o.m1,o.out⟩ J (by show(f.eh++[i]).length+n=f.p.d3.length;simp;omega) m U;have H:EK n {BI f L with eh:=f.eh++[i]}=EK n {f with eh:=f.eh++[i]}:=Rv n {f with eh:=f.eh++[i]} _;rw[H]at z;rw[G,bs];show(A9 m {BI f L with eh:=f.eh++[i]}).bind _=_;rw[z,bs];have I:slc (BI {BI f L with eh:=f.eh++[i]} (EK n {f with eh:=f.eh++[i]})).eh 0 (f.eh.length:Int)=Y f.eh:=by
      show slc (f.eh++[i]) 0 (f.eh.length:Int)=_;rw[Hw U (by rw[az];omega),y?,A']
     rw [I];rfl
    rw [key,q];have v:R8 f i=(LU f f.eh.length i&&!(f.en&&f.eh.any λx=>decide (i=x))):=rfl;have r:(BI f L).en=f.en:=rfl;rw[v,r];generalize P:EK n {f with eh:=f.eh++[i]}=A;cases LU f f.eh.length i
    .simp only[w_,v?,if_false,Mc o];rfl
    .cases f.en
     .rfl
     .cases f.eh.any λx=>decide (i=x)
      .rfl
      .simp only[w!,v!,w?,v?,if_false,Mc o];rfl
end Go.Sf.Sc
namespace Go.Sf.Sc
open Go Go.Sf
theorem X5:∀(n:Nat)(f:AM),Nd f->Y7 f->f.eh=[]->f.ea.length+n=f.p.dl.length->∀m,n+f.p.d3.length+1<=m->A9 m f=Y (BI f (K5 n f))
 |0,f,hf,hr,he,O,m,P=>by
  grind [K5,X4]
 |n+1,f,hf,hr,he,O,m,P=>by
  obtain ⟨m,rfl⟩:∃k,m=k+1:=⟨m-1,U⟩;have Q:=hf.small;have R:=hr.m0;have S:=hr.m1;have θ:=hr.out;rw[A9];by_cases j:(f.out.length:Int)=f.pf
  .grind[aj]
  rw [ac f?,a6 a_];rw[Bo (a:=0) (s:=f) (λi=>BI f ((At i.toNat).flatMap λk=>if(R9 f k&&P8 {f with ea:=f.ea++[k]})=X then K5 n {f with ea:=f.ea++[k]}else[])) U (Mc hr)]
  .grind[y?,K5]
  .intro i z i1;have D:At (i+1).toNat=At i.toNat++[i]:=by
    rw [show(i+1).toNat=i.toNat+1 by omega,Vj];rw[show((i.toNat:Nat):Int)=i by omega]
   have E:∀l,BI f ((At (i+1).toNat).flatMap l)=BI (BI f ((At i.toNat).flatMap l)) (l i):=by
    intro l;rw[ak,D,A_];simp
   rw [E];generalize (At i.toNat).flatMap (λk=>if(R9 f k&&P8 {f with ea:=f.ea++[k]})=X then K5 n {f with ea:=f.ea++[k]}else[])=L;have o:=al hr L;have u:(f.ea.length:Int)<(f.p.dl.length:Int):=U
   have q:=hf.kinds _ (AI (l:=f.p.dl) (i:=(f.ea.length:Int)) U u);have v:=q.2.2 _ (AI z i1);have key:((Am (BI f L).ea [i]).bind λe=>
     (Ca (AM.mk (BI f L).p (BI f L).g (BI f L).is (BI f L).ff (BI f L).en (BI f L).pf e (BI f L).eh (BI f L).out)).bind λr=>
     if r=X then
     (A9 m (AM.mk (BI f L).p (BI f L).g (BI f L).is (BI f L).ff (BI f L).en (BI f L).pf e (BI f L).eh (BI f L).out)).bind λd=>
     (slc d.ea 0 (f.ea.length:Int)).bind λh=>
     Y (AM.mk d.p d.g d.is d.ff d.en d.pf h d.eh d.out)
     else
     (slc e 0 (f.ea.length:Int)).bind λh=>
     Y (AM.mk (BI f L).p (BI f L).g (BI f L).is (BI f L).ff (BI f L).en (BI f L).pf h (BI f L).eh (BI f L).out))=Y (BI (BI f L) (if P8 {f with ea:=f.ea++[i]}=X then K5 n {f with ea:=f.ea++[i]}else[])):=by
    have F:Am (BI f L).ea [i]=Y (f.ea++[i]):=AV (by show f.ea.length+1<=AY;unfold AY;omega);have B:slc (f.ea++[i]) 0 (f.ea.length:Int)=Y f.ea:=by
     rw [Hw U (by rw[az];omega),y?,A']
    have G:Ca {BI f L with ea:=f.ea++[i]}=Y (P8 {f with ea:=f.ea++[i]}):=mG (f:={BI f L with ea:=f.ea++[i]}) ⟨hf.pn,hf.pe,hf.ends,hf.kinds,hf.small⟩ (by show 0<(f.ea++[i]).length;simp) (by show(f.ea++[i]).length<=1000;rw[az];simp;omega);have C:=X5 n {BI f L with ea:=f.ea++[i]} ⟨hf.pn,hf.pe,hf.ends,hf.kinds,hf.small⟩ ⟨o.m0,o.m1,o.out⟩ he (by show(f.ea++[i]).length+n=f.p.dl.length;rw[az];simp;omega) m (by show n+f.p.d3.length+1<=m;omega);have H:K5 n {BI f L with ea:=f.ea++[i]}=K5 n {f with ea:=f.ea++[i]}:=dP n {f with ea:=f.ea++[i]} _;rw[H]at C;rw[F,bs];show(Ca {BI f L with ea:=f.ea++[i]}).bind _=_;rw[G,bs];cases P8 {f with ea:=f.ea++[i]}
    .rw[ac a!,ac a!,B,Mc o];rfl
    .rw[a6 rfl,a6 rfl];show(A9 m {BI f L with ea:=f.ea++[i]}).bind _=_;rw[C,bs];have I:slc (BI {BI f L with ea:=f.ea++[i]} (K5 n {f with ea:=f.ea++[i]})).ea 0 (f.ea.length:Int)=Y f.ea:=B;rw[I];rfl
   have J:Mx (BI f L).ff.dl (f.ea.length:Int)=Y (PL.at_ f.ff.dl f.ea.length):=eM (n:=f.p.dl.length) hf.pn U U;have K:idx (BI f L).p.dl (f.ea.length:Int)=Y (AA f.p.dl f.ea.length):=AD U u;have hi:idx (BI f L).is (AA f.p.dl f.ea.length)=Y (AA f.is (AA f.p.dl f.ea.length)):=AD q.1 q.2.1;have M:idx (AA f.is (AA f.p.dl f.ea.length)) (AA f.g.dl i)=Y (AA (AA f.is (AA f.p.dl f.ea.length)) (AA f.g.dl i)):=AD v.1 v.2;have N:slices_Contains_int (BI f L).ea i=Y (f.ea.any λx=>decide (i=x)):=Mb f.ea i;have w:(BI f L).en=f.en:=rfl;have y:R9 f i=((decide (PL.at_ f.ff.dl f.ea.length<0)||decide (PL.at_ f.ff.dl f.ea.length=i))&&AA (AA f.is (AA f.p.dl f.ea.length)) (AA f.g.dl i)&&!(f.en&&f.ea.any λx=>decide (i=x))):=rfl;rw[AD z i1,bs,J,bs,K,bs,hi,bs,M,bs,N,key,w,y];generalize AA (AA f.is (AA f.p.dl f.ea.length)) (AA f.g.dl i)=c2;have hb:(decide (0<=PL.at_ f.ff.dl f.ea.length)&&!decide (PL.at_ f.ff.dl f.ea.length=i))=!(decide (PL.at_ f.ff.dl f.ea.length<0)||decide (PL.at_ f.ff.dl f.ea.length=i)):=by
    rw [Bool.not_or];congr 1;rw[<-decide_not];exact decide_eq_decide.2 U
   rw [hb];generalize (decide (PL.at_ f.ff.dl f.ea.length<0)||decide (PL.at_ f.ff.dl f.ea.length=i))=c1;generalize P8 {f with ea:=f.ea++[i]}=c5;generalize K5 n {f with ea:=f.ea++[i]}=A;cases c1
   .simp only[w_,v?,if_false,Mc o];rfl
   .cases c2
    .simp only[w?,w_,v?,if_false,Mc o];rfl
    .cases f.en
     .rfl
     .cases f.ea.any λx=>decide (i=x)
      .rfl
      .simp only[w!,v!,w?,w_,v?,if_false,Mc o];rfl
variable{f:AM}
theorem oN(hf:Nd f)(hr:Y7 f)(he:f.eh=[])(d:f.ea=[]):Hi f=Y (BI f (K5 f.p.dl.length f)):=
 DK (f.p.dl.length+f.p.d3.length+1) λm e=>X5 _ f hf hr he (by rw[d];simp) m e
end Go.Sf.Sc
namespace Go.Sf.Sc
open Go Go.Sf
theorem Au(n:Nat):(At n).length=n:=by simp[At]
variable{n:Nat}{i:Int}
theorem Dm:i∈At n↔0<=i/\i<n:=by
 unfold At;rw[List.mem_map];constructor
 .grind
 .rintro⟨d,e⟩;exact⟨i.toNat,List.mem_range.2 U,by show((i.toNat:Nat):Int)=i;omega⟩
variable{α:Type}
theorem Il[Inhabited α](F:Int->α)(d:0<=i)(e:i<n):AA ((At n).map F) i=F i:=by
 unfold AA At
 grind
theorem HU(d:0<=i):At (i+1).toNat=At i.toNat++[i]:=by
 rw [show(i+1).toNat=i.toNat+1 by omega,Vj,show((i.toNat:Nat):Int)=i by omega]
def Pg(t:AC)(a:Int):a5:=(At t.dl.length).map λk=>HD t k a
def KI(t:AC):List a5:=(At t.dl.length).map (Pg t)
variable{t:AC}{a:Int}
theorem u9(hf:Aq t)(h:Fv t)(hv:(A5 t).2=0)(a0:0<=a)(a1:a<t.dl.length):KK t a=Y ((At t.dl.length).filter λi=>HD t i a,0):=by
 have d:=h.ea;unfold KK;have hb:MJ t a=X:=by simp[MJ,a0,a1]
 rw [Zv hf,bs,ac (by simp[hv,hb])];rw[Bo (λi=>(At i.toNat).filter λi=>HD t i a) U q?,bs,y?]
 grind [rF,HU,At,HD,List.length_filter_le,Au,AV,AY]
variable{l:Fp}
theorem vz(r:∀x∈l,0<=x/\x<n):ls (λ(i2:Int)(s2:a5)=>
  (idx l i2).bind λd=>
  (idx s2 d).bind λ_=>
  Y (BG s2 d X)) 0 (l.length:Int) (A! n T)=Y ((At n).map λk=>l.any λx=>decide (x=k)):=by
 rw [Bo (λj=>(At n).map λk=>(l.take j.toNat).any λx=>decide (x=k)) U (by
  refine A? (by simp[Au]) (λj m w=>V))]
 .rw[y?,List.take_length]
 .intro j o m;have q:=r _ (AI o m);rw[AD o m,bs,AD q.1 (by rw[c9,Au];exact q.2),bs,BJ o m];congr 1;unfold BG;refine A? V (λk y u=>?_);have v:k<n:=by simpa[Au]using u
  rw [List.getElem_set];have e:(At n)[k]'(by rw[Au];exact v)=(k:Int):=by simp[At]
  simp only[List.getElem_map,e,B_,B',B!,x_];by_cases h:(AA l j).toNat=k
  .rw[a6 h,decide_eq_true (show AA l j=(k:Int)by omega),Bool.or_true]
  .rw[ac h,decide_eq_false (show¬AA l j=(k:Int)by omega),x_]
theorem mI(hf:Aq t)(h:Fv t)(hv:(A5 t).2=0):Hd t=Y (KI t):=by
 have r:=h.ea;unfold Hd;rw[Bo (λi=>(At i.toNat).map (Pg t)) U q?,bs,y?]
 .rfl
 .intro i o i1;have q:Hl (t.dl.length:Int) T=Y (A! t.dl.length T):=by
   unfold Hl;rw[a6 U,y?]
  rw [q,bs,u9 hf h hv o i1,bs];have:=vz (n:=t.dl.length) (l:=(At t.dl.length).filter λk=>HD t k i) (λx j=>Dm.1 (B?.1 j).1);show(ls (λ(i2:Int)(s2:a5)=>
   (idx ((At t.dl.length).filter λk=>HD t k i) i2).bind λd=>
   (idx s2 d).bind λ_=>
   Y (BG s2 d X)) 0 (((At t.dl.length).filter λk=>HD t k i).length:Int) (A! t.dl.length T)).bind _=_
  rw [this,bs,AV (by rw[c9,Au];simp;unfold AY;omega),bs,HU o,List.map_append];congr 2;simp only[List.map_cons,List.map_nil];congr 1;unfold Pg;refine List.map_congr_left (λk m=>?_);have m:=Dm.1 m;rw[v6,C_];constructor
  .rintro⟨x,j,e⟩;rw[sA]at e;subst e;exact(B?.1 j).2
  .intro hb;exact⟨k,B?.2 ⟨Dm.2 m,hb⟩,V⟩
end Go.Sf.Sc
namespace Go.Sf.Sc
open Go Go.Sf
def Fd:Nat->AM->List d4
 |0,f=>EK f.p.d3.length f|n+1,f=>(At f.g.dl.length).flatMap λk=>if R9 f k=X then Fd n {f with ea:=f.ea++[k]}else[]
def k7(f:AM)(i:Int):Prop:=0<=i/\i<f.p.d3.length/\0<=(AA f.p.d3 i).hV/\(AA f.p.d3 i).hV<f.ea.length/\0<=(AA f.p.d3 i).To/\(AA f.p.d3 i).To<f.ea.length/\∀k:Int,0<=k->k<f.g.d3.length->LU f i k=T
theorem XW(f:AM)(i k:Int):LU f i k=((decide (PL.at_ f.ff.d3 i<0)||decide (PL.at_ f.ff.d3 i=k))&&decide (AA f.g.d3 k=⟨(AA f.p.d3 i).ia,AA f.ea (AA f.p.d3 i).hV,AA f.ea (AA f.p.d3 i).To⟩)):=rfl
variable{α:Type}{i:Int}
theorem Xq[Inhabited α](l:List α)(x:α)(d:0<=i)(e:i<l.length):AA (l++[x]) i=AA l i:=by
 unfold AA
 grind
theorem nW:∀(n:Nat)(f:AM)(i:Int),k7 f i->(f.eh.length:Int)<=i->i<f.eh.length+n->EK n f=[]
 |0,f,i,_,e,h=>by omega|n+1,f,i,hd,e,h=>by
  rw [EK];refine C'.2 (λk d=>?_);have d:=Dm.1 d;by_cases he:(f.eh.length:Int)=i
  .have:R8 f k=T:=by
    unfold R8;rw[he,hd.2.2.2.2.2.2 k d.1 d.2];rfl
   grind
  .split
   .exact nW n {f with eh:=f.eh++[k]} i hd (by show((f.eh++[k]).length:Int)<=i;rw[az];simp;omega) (by show i<((f.eh++[k]).length:Int)+n;rw[az];simp;omega)
   .rfl
theorem di:∀(n:Nat)(f:AM)(i:Int),f.eh=[]->k7 f i->Fd n f=[]
 |0,f,i,he,hd=>by
  rw [Fd];exact nW _ f i hd (by rw[he];simpa using hd.1) (by rw[he];simpa using hd.2.1)
 |n+1,f,i,he,hd=>by
  rw [Fd];refine C'.2 (λk o=>?_);split
  .refine di n {f with ea:=f.ea++[k]} i he ?_;obtain⟨d,e,h,v,m,w,x⟩:=hd;have u:((f.ea++[k]).length:Int)=f.ea.length+1:=by rw[az];simp
   refine ⟨d,e,h,?_,m,?_,λj q r=>?_⟩
   .grind
   .grind
   grind [XW,AA,Xq]
  .rfl
variable{f:AM}
theorem rL(hf:Nd f)(h:P8 f=T):∃i,k7 f i:=by
 unfold P8 at h;rw[v5,EU]at h;obtain⟨i,d,i1,h⟩:=h;rw[ne,sA,x!,Bw]at h;have he:=hf.ends _ (AI d i1);exact⟨i,d,i1,he.1,U,he.2.2.1,U,h.2⟩
theorem dO:∀(n:Nat)(f:AM),Nd f->f.eh=[]->K5 n f=Fd n f
 |0,_,_,_=>rfl|n+1,f,hf,he=>by
  rw [K5,Fd];refine congrArg (λF=>(At f.g.dl.length).flatMap F) (funext λk=>?_);have d:Nd {f with ea:=f.ea++[k]}:=⟨hf.pn,hf.pe,hf.ends,hf.kinds,hf.small⟩;cases R9 f k
  .rfl
  .cases e:P8 {f with ea:=f.ea++[k]}
   .obtain⟨i,hd⟩:=rL d e
    grind [di]
   .simp;exact dO n _ d he
end Go.Sf.Sc
namespace Go.Sf.Sc
open Go Go.Sf
variable{a b:Int}
theorem Pr{σ ρ:Type}{f:σ×Int->Option (B5 (σ×Int) ρ)}(g:Int->σ){s:σ}(d:a<=b)(e:s=g a)(h:∀i,a<=i->i<b->f (g i,i)=Y (.next (g (i+1),i+1)))(hb:f (g b,b)=Y (.brk (g b,b))):Dv f (s,a)=Y (.inl (g b,b)):=by
 subst e;have key:∀(n:Nat)(i:Int),a<=i->i+n=b->L8 f (g i,i) (.inl (g b,b)):=by
  intro n
  induction n with
  |zero=>
   intro i _ hi;have:i=b:=U
   subst this;exact .brk hb
  |succ n m=>
   intro i j o;exact .next (h i j U) (m (i+1) U U)
 exact (key (b-a).toNat a (y! _) U).eq
def JT(s:Ao)(ea eh:Fp):AM:=⟨s.p,s.g,KI s.t,s.ff,s.en,s.pf+1,ea,eh,s.wB⟩
def Cn(s:Ao)(l:List d4):Ao:={s with wB:=(s.wB++l).take (s.pf+1).toNat}
structure Xm(s:Ao):Prop where
 m0:0<=s.pf
 m1:s.pf<=9999
 out:(s.wB.length:Int)<=s.pf+1
variable{s:Ao}
theorem Qv(h:Xm s):Cn s []=s:=by
 unfold Cn;rw[z!,z_ (by have:=h.out;have:=h.m0;omega)]
theorem Yv(h:(s.wB.length:Int)=s.pf+1)(l:List d4):Cn s l=s:=by
 unfold Cn;rw[z? U,z_ U]
theorem Yw(h:Xm s)(l:List d4):Xm (Cn s l):=by
 refine ⟨h.m0,h.m1,?_⟩;have:=h.m0;show(((s.wB++l).take (s.pf+1).toNat).length:Int)<=s.pf+1
 grind
theorem Wh(s:Ao)(a b:List d4):Cn (Cn s a) b=Cn s (a++b):=by
 show ({s with wB:=(((s.wB++a).take (s.pf+1).toNat)++b).take (s.pf+1).toNat}:Ao)=_;rw[bq,ci];rfl
variable{l:Fp}
theorem o5(s:Ao)(d:l.length<=1000)(n:Int):Ch s l n=Y (s.en&&l.any λx=>decide (n=x)):=by
 unfold Ch;cases s.en
 .rw[WK (λ_=>T) X (a:=0) (b:=0) (y! _) (λi i1 i2=>U) (by rw[ac V])];rfl
 .rw[WK (λi=>decide (AA l i=n)) X (a:=0) (b:=l.length) U (λi i1 i2=>by
   rw [a6 (by simp;exact i2),AD i1 i2,bs,Ar U U,JE]) (by rw[ac V])]
  have e:kl (λi=>decide (AA l i=n)) 0 l.length=l.any λx=>decide (n=x):=by
   rw [v6,EU,C_]
   grind [AI,BW]
  rw [e,Bool.true_and];cases l.any λx=>decide (n=x)<;>rfl
theorem ba:∀(n:Nat)(s:Ao)(ea l:Fp),Nd (JT s [] [])->Xm s->ea.length=s.p.dl.length->l.length+n=s.p.d3.length->∀m,n+1<=m->B0 m s ea l=Y (Cn s (EK n (JT s ea l)))
 |n,s,ea,l,hf,hr,y,he,m,z=>by
  obtain ⟨m,rfl⟩:∃k,m=k+1:=⟨m-1,U⟩;have r:=hf.small;have P:s.p.dl.length<=1000:=r.1;have s2:s.p.d3.length<=1000:=r.2.1;have Q:s.g.dl.length<=1000:=r.2.2.1;have R:s.g.d3.length<=1000:=r.2.2.2;have S:=hr.m0;have θ:=hr.m1;have ε:=hr.out;rw[B0];by_cases u:(s.wB.length:Int)=s.pf+1
  .grind[Yv]
  rw [ac a_]
  match n,he,z with
  |0,he,z=>
   rw [a6 a_,BT a?,bs,BT a?,bs,AV b_,bs];unfold Cn;rw[z_ (by simp[EK];omega)];rfl
  |n+1,he,z=>
   have e:(0:Int)<=l.length:=U
   have q:(l.length:Int)<s.p.d3.length:=U
   have d:=hf.ends _ (AI (l:=s.p.d3) e q);have E:(AA s.p.d3 l.length).hV<ea.length:=by rw[y];exact d.2.1
   have G:(AA s.p.d3 l.length).To<ea.length:=by rw[y];exact d.2.2.2
   have v:(l.length:Int)<s.ff.d3.length:=by
    have:s.ff.d3.length=s.p.d3.length:=hf.pe;omega
   rw [ac a_,AD e q,bs];rw[Pr (λi=>Cn s ((At i.toNat).flatMap λk=>if R8 (JT s ea l) k=X then EK n (JT s ea (l++[k]))else[])) (a:=0) (b:=(s.g.d3.length:Int)) (s:=s) U (Qv hr).symm (λi B i1=>by
    have H:∀F,Cn s ((At (i+1).toNat).flatMap F)=Cn (Cn s ((At i.toNat).flatMap F)) (F i):=by
     intro F;rw[Wh,HU B,List.flatMap_append];simp
    rw [H];generalize (At i.toNat).flatMap (λk=>if R8 (JT s ea l) k=true then EK n (JT s ea (l++[k]))else[])=L;have C:=Yw hr L;rw[a6 (by rw[sA];exact i1)];have I:idx (Cn s L).g.d3 i=some (AA s.g.d3 i):=AD B i1;have J:idx (Cn s L).ff.d3 (l.length:Int)=some (AA s.ff.d3 l.length):=AD e v;have K:Ch (Cn s L) l i=some (s.en&&l.any λx=>decide (i=x)):=o5 (Cn s L) U i;have key:((Am [] l).bind λh=>
      (Am h [i]).bind λj=>
      (B0 m (Cn s L) ea j).bind λo=>
      some (.next (o,Al (i+1)):B5 (Ao×Int) Ao))=some (.next (Cn (Cn s L) (EK n (JT s ea (l++[i]))),i+1)):=by
     have D:=ba n (Cn s L) ea (l++[i]) ⟨hf.pn,hf.pe,hf.ends,hf.kinds,hf.small⟩ C y (by show(l++[i]).length+n=s.p.d3.length;rw[az];simp;omega) m U;have M:EK n (JT (Cn s L) ea (l++[i]))=EK n (JT s ea (l++[i])):=Rv n (JT s ea (l++[i])) _;rw[M]at D;rw[BT a?,bs,AV b_,bs,D,bs,Ar U U]
    rw [I,bs,J,bs,K,key];simp only[bs];rw[AD d.1 E,AD d.2.2.1 G,Ar (n:=i+1) U U];simp only[bs];have w:R8 (JT s ea l) i=(((decide (AA s.ff.d3 l.length<0)||decide (AA s.ff.d3 l.length=i))&&decide (AA s.g.d3 i=⟨(AA s.p.d3 l.length).ia,AA ea (AA s.p.d3 l.length).hV,AA ea (AA s.p.d3 l.length).To⟩))&&!(s.en&&l.any λx=>decide (i=x))):=rfl;have N:decide (AA s.g.d3 i=⟨(AA s.p.d3 l.length).ia,AA ea (AA s.p.d3 l.length).hV,AA ea (AA s.p.d3 l.length).To⟩)=(decide ((AA s.p.d3 l.length).ia=(AA s.g.d3 i).ia)&&decide ((AA s.g.d3 i).hV=AA ea (AA s.p.d3 l.length).hV)&&decide ((AA s.g.d3 i).To=AA ea (AA s.p.d3 l.length).To)):=by
     rw [Bool.eq_iff_iff];simp[sA];generalize AA s.g.d3 i=x;obtain⟨x1,κ,η⟩:=x;simp;constructor
     .rintro⟨a,b,c⟩;exact⟨⟨a.symm,b⟩,c⟩
     .rintro⟨⟨a,b⟩,c⟩;exact⟨a.symm,b,c⟩
    have O:(decide (AA s.ff.d3 l.length<0)||decide (AA s.ff.d3 l.length=i))=!(decide (0<=AA s.ff.d3 l.length)&&!decide (AA s.ff.d3 l.length=i)):=by
     rw [Bool.not_and,Bool.not_not];congr 1;rw[<-decide_not];exact decide_eq_decide.2 U
    rw [w,N,O];generalize EK n (JT s ea (l++[i]))=A;generalize decide (0<=AA s.ff.d3 l.length)=c1;generalize decide (AA s.ff.d3 l.length=i)=c2;generalize decide ((AA s.p.d3 l.length).ia=(AA s.g.d3 i).ia)=c3;generalize decide ((AA s.g.d3 i).hV=AA ea (AA s.p.d3 l.length).hV)=c4;generalize decide ((AA s.g.d3 i).To=AA ea (AA s.p.d3 l.length).To)=c5;generalize (s.en&&l.any λx=>decide (i=x))=c6;cases c1<;>cases c2<;>cases c3<;>cases c4<;>cases c5<;>cases c6<;>first|rfl|(simp[Qv C];try rfl)) (by rw[ac (by simp[Cn])]),Br,y?,EK]
   rfl
end Go.Sf.Sc
namespace Go.Sf.Sc
open Go Go.Sf
def US(s:Ao)(l:Fp)(i k:Int):Bool:=decide (AA s.g.d3 k=⟨(AA s.p.d3 i).ia,AA l (AA s.p.d3 i).hV,AA l (AA s.p.d3 i).To⟩)
def Tp(s:Ao)(l:Fp)(i:Int):Bool:=(decide ((AA s.p.d3 i).hV<l.length)&&decide ((AA s.p.d3 i).To<l.length))&&!(At s.g.d3.length).any (US s l i)
variable{s:Ao}{l:Fp}
theorem yU(hf:Nd (JT s [] [])):GJ s l=Y (!kl (Tp s l) 0 s.p.d3.length):=by
 unfold GJ;rw[BZ (Tp s l) T]
 .cases kl (Tp s l) 0 s.p.d3.length<;>rfl
 .intro i d i1 _;have he:=hf.ends _ (AI (l:=s.p.d3) d i1);rw[AD d i1,bs];unfold Tp;by_cases h:(AA s.p.d3 i).hV<l.length
  .by_cases hT:(AA s.p.d3 i).To<l.length
   .rw[ac a_,Bo (λk=>(At k.toNat).any (US s l i)) U q?,bs,y?,decide_eq_true h,decide_eq_true hT]
    .grind
    .intro k e j;rw[AD e j,bs,HU e,B_];have m:US s l i k=(decide ((AA s.p.d3 i).ia=(AA s.g.d3 k).ia)&&decide ((AA s.g.d3 k).hV=AA l (AA s.p.d3 i).hV)&&decide ((AA s.g.d3 k).To=AA l (AA s.p.d3 i).To)):=by
      unfold US;rw[v6];simp[sA];generalize AA s.g.d3 k=x;obtain⟨x1,o,q⟩:=x;simp;constructor
      .rintro⟨a,b,c⟩;exact⟨⟨a.symm,b⟩,c⟩
      .rintro⟨⟨a,b⟩,c⟩;exact⟨a.symm,b,c⟩
     rw [AD he.1 h,AD he.2.2.1 hT];simp only[B',B!,x_,bs];rw[m];generalize (At k.toNat).any (US s l i)=c1;generalize decide ((AA s.p.d3 i).ia=(AA s.g.d3 k).ia)=c3;generalize decide ((AA s.g.d3 k).hV=AA l (AA s.p.d3 i).hV)=c4;generalize decide ((AA s.g.d3 k).To=AA l (AA s.p.d3 i).To)=c5;cases c1<;>cases c3<;>cases c4<;>cases c5<;>rfl
   grind
  grind
theorem yR(hf:Nd (JT s [] []))(h:kl (Tp s l) 0 s.p.d3.length=X):∃i,k7 (JT s l []) i:=by
 rw [EU]at h;obtain⟨i,d,i1,h⟩:=h;unfold Tp at h;rw[ne,ne,sA,sA,x!,List.any_eq_false]at h;have he:=hf.ends _ (AI (l:=s.p.d3) d i1);refine⟨i,d,i1,he.1,h.1.1,he.2.2.1,h.1.2,λk j m=>?_⟩;have:=h.2 k (Dm.2 ⟨j,m⟩);have e:US s l i k=T:=by rw[<-v_];exact this
 rw [XW];show((decide (AA s.ff.d3 i<0)||decide (AA s.ff.d3 i=k))&&US s l i k)=T;rw[e,w?]
end Go.Sf.Sc
namespace Go.Sf.Sc
open Go Go.Sf
theorem dQ:∀(n:Nat)(f:AM)(o:List d4),Fd n (UG f o)=Fd n f
 |0,f,o=>Rv _ f o|n+1,f,o=>by
  rw [Fd,Fd];refine congrArg (λF=>(At f.g.dl.length).flatMap F) (funext λk=>?_);have:=dQ n {f with ea:=f.ea++[k]} o
  grind [R9,Fd,UG]
theorem bc:∀(n:Nat)(s:Ao)(l:Fp),Fv s.t->Nd (JT s [] [])->Xm s->l.length+n=s.p.dl.length->∀m,n+1<=m->B1 m s l=Y (Cn s (Fd n (JT s l [])))
 |n,s,l,N,hf,hr,I,m,y=>by
  obtain ⟨m,rfl⟩:∃k,m=k+1:=⟨m-1,U⟩;have J:=hf.small;have ζ:s.p.dl.length<=1000:=J.1;have δ:s.g.dl.length<=1000:=J.2.2.1;have Z:=hr.m0;have h1:=hr.m1;have h2:=hr.out;rw[B1];by_cases C:(s.wB.length:Int)=s.pf+1
  .grind[Yv]
  rw [ac a_,yU hf];cases hd:kl (Tp s l) 0 s.p.d3.length
  case true=>
   grind [yR,di,JT,Qv]
  simp only[bs,Bool.not_false,v!,v?,if_false]
  match n,I,y with
  |0,I,y=>
   rw [a6 a_,Option.bind_fun_some,Fd];exact DK (s.p.d3.length+1) λm y=>ba s.p.d3.length s l [] hf hr U V m U
  |n+1,I,y=>
   have v:(l.length:Int)<s.p.dl.length:=U
   have o:(0:Int)<=l.length:=U
   have D:(l.length:Int)<s.ff.dl.length:=by
    have:s.ff.dl.length=s.p.dl.length:=hf.pn;omega
   have O:(KI s.t).length=s.t.dl.length:=by unfold KI;rw[c9,Au]
   have d:=hf.kinds _ (AI (l:=s.p.dl) o v);have E:AA s.p.dl l.length<s.t.dl.length:=by rw[<-O];exact d.2.1
   have j:AA (KI s.t) (AA s.p.dl l.length)=Pg s.t (AA s.p.dl l.length):=Il (Pg s.t) d.1 E;rw[ac a_];rw[Pr (λi=>Cn s ((At i.toNat).flatMap λk=>if R9 (JT s l []) k=X then Fd n (JT s (l++[k]) [])else[])) (a:=0) (b:=(s.g.dl.length:Int)) (s:=s) U (Qv hr).symm (λi z i1=>by
    have P:∀F,Cn s ((At (i+1).toNat).flatMap F)=Cn (Cn s ((At i.toNat).flatMap F)) (F i):=by
     intro F;rw[Wh,HU z,List.flatMap_append];simp
    rw [P];generalize (At i.toNat).flatMap (λk=>if R9 (JT s l []) k=true then Fd n (JT s (l++[k]) [])else[])=L;have K:=Yw hr L;rw[a6 (by rw[sA];exact i1)];have q:=d.2.2 _ (AI (l:=s.g.dl) z i1);have w:AA s.g.dl i<s.t.dl.length:=by
     have h:=q.2;have e:AA (JT s [] []).is (AA s.p.dl l.length)=Pg s.t (AA s.p.dl l.length):=j;rw[e]at h;unfold Pg at h
     rwa [c9,Au]at h
    have G:Ha (Cn s L).t (AA s.g.dl i) (AA s.p.dl l.length)=some (HD s.t (AA s.g.dl i) (AA s.p.dl l.length)):=WD N q.1 w d.1;have Q:idx (Cn s L).g.dl i=some (AA s.g.dl i):=AD z i1;have R:idx (Cn s L).ff.dl (l.length:Int)=some (AA s.ff.dl l.length):=AD o D;have S:Ch (Cn s L) l i=some (s.en&&l.any λx=>decide (i=x)):=o5 (Cn s L) U i;have θ:idx (Cn s L).p.dl (l.length:Int)=some (AA s.p.dl l.length):=AD o v;have key:((Am [] l).bind λB=>
      (Am B [i]).bind λr=>
      (B1 m (Cn s L) r).bind λu=>
      some (.next (u,Al (i+1)):B5 (Ao×Int) Ao))=some (.next (Cn (Cn s L) (Fd n (JT s (l++[i]) [])),i+1)):=by
     have M:=bc n (Cn s L) (l++[i]) N ⟨hf.pn,hf.pe,hf.ends,hf.kinds,hf.small⟩ K (by show(l++[i]).length+n=s.p.dl.length;rw[az];simp;omega) m U;have ε:Fd n (JT (Cn s L) (l++[i]) [])=Fd n (JT s (l++[i]) []):=dQ n (JT s (l++[i]) []) _;rw[ε]at M;rw[BT a?,bs,AV b_,bs,M,bs,Ar U U]
    rw [R,bs,S,Q,θ,key];simp only[bs];rw[G,Ar (n:=i+1) U U];simp only[bs];have H:R9 (JT s l []) i=((decide (AA s.ff.dl l.length<0)||decide (AA s.ff.dl l.length=i))&&AA (AA (KI s.t) (AA s.p.dl l.length)) (AA s.g.dl i)&&!(s.en&&l.any λx=>decide (i=x))):=rfl;have κ:AA (AA (KI s.t) (AA s.p.dl l.length)) (AA s.g.dl i)=HD s.t (AA s.g.dl i) (AA s.p.dl l.length):=by
     rw [j];exact Il (λk=>HD s.t k (AA s.p.dl l.length)) q.1 w
    have η:(decide (AA s.ff.dl l.length<0)||decide (AA s.ff.dl l.length=i))=!(decide (0<=AA s.ff.dl l.length)&&!decide (AA s.ff.dl l.length=i)):=by
     rw [Bool.not_and,Bool.not_not];congr 1;rw[<-decide_not];exact decide_eq_decide.2 U
    rw [H,κ,η];generalize Fd n (JT s (l++[i]) [])=A;generalize decide (0<=AA s.ff.dl l.length)=c1;generalize decide (AA s.ff.dl l.length=i)=c2;generalize HD s.t (AA s.g.dl i) (AA s.p.dl l.length)=c3;generalize (s.en&&l.any λx=>decide (i=x))=c6;cases c1<;>cases c2<;>cases c3<;>cases c6<;>first|rfl|(simp[Qv K];try rfl)) (by rw[ac (by simp[Cn])]),Br,y?,Fd]
   rfl
end Go.Sf.Sc
namespace Go.Sf.Sc
open Go Go.Sf
def FF(t:AC)(p g:dr)(pa:d4)(inj:Bool):AM:=⟨p,g,KI t,pa,inj,5001,[],[],[]⟩
def Ja(t:AC)(p g:dr)(pa:d4)(inj:Bool):List d4:=(Fd p.dl.length (FF t p g pa inj)).take 5001
variable{t:AC}{p g:dr}
theorem vE{pa:d4}{inj:Bool}(j:Aq t)(hv:(A5 t).2=0)(d:Nd (FF t p g pa inj)):GW t p g pa inj 5001=Y (Ja t p g pa inj):=by
 unfold GW;rw[mI j (Cw hv) hv,bs];have h:=oN (f:=FF t p g pa inj) d ⟨by show(0:Int)<=5001;omega,by show(5001:Int)<=10000;omega,by show((0:Nat):Int)<=5001;omega⟩ rfl rfl;rw[dO _ _ d rfl]at h;have e:AM.mk p g (KI t) pa inj 5001 [] [] []=FF t p g pa inj:=rfl;rw[e,h];rfl
theorem t7{pa:d4}{inj:Bool}(hv:(A5 t).2=0)(d:Nd (FF t p g pa inj)):Kw t p g pa inj 5000=Y (Ja t p g pa inj):=by
 unfold Kw;have h:Hh ⟨t,p,g,pa,inj,5000,[]⟩ []=Y (Cn ⟨t,p,g,pa,inj,5000,[]⟩ (Fd p.dl.length (FF t p g pa inj))):=
  DK (p.dl.length+1) λm e=>bc p.dl.length ⟨t,p,g,pa,inj,5000,[]⟩ [] (Cw hv) d ⟨by show(0:Int)<=5000;omega,by show(5000:Int)<=9999;omega,by show((0:Nat):Int)<=5000+1;omega⟩ p! m e
 rw [h];rfl
end Go.Sf.Sc
namespace Go.Sf.Sc
open Go Go.Sf
def Wp(n k:Int):Bool:=decide (k< -1)||decide (n<=k)
def Si(l:Fp)(n:Int):Int:=if l.any (Wp n)=X then 6 else 0
theorem oR(l:Fp)(n:Int):Ib l n=Y (Si l n):=by grind[Ib,Si,OM,Wp,Rz]
variable{l:Fp}
theorem gU{c:Int}(n:Int)(h:(l.length:Int)=c):Kj l c n=Y (Si l n):=by
 unfold Kj Si;rw[ac k?,BZ (λi=>Wp n (AA l i)) 6]
 .have e:kl (λi=>Wp n (AA l i)) 0 l.length=l.any (Wp n):=by
   rw [v6,EU,C_]
   grind [AI,BW]
  rw [e];cases l.any (Wp n)<;>rfl
 grind [AD,Wp,AA]
end Go.Sf.Sc
namespace Go.Sf.Sc
open Go Go.Sf
theorem gE(t:AC)(g:dr):Gl t g=Y (DO t g):=by grind[Gl,DO,MQ,Rz,MR,jQ]
def Et(t:AC)(p g:dr):Int:=if(A5 t).2≠0 then(A5 t).2 else if CA p≠0 then CA p else if CA g≠0 then CA g else if(DO t p&&DO t g)=X then 0 else 13
variable{t:AC}
theorem WA(hf:Aq t)(p g:dr):FQ t p g=Y (Et t p g):=by
 unfold FQ Et;rw[Ol hf,bs];refine EM λ_=>?_;have o:gt (ρ:=Int) (λ(m:Int)(_:Unit)=>
   (idx [p,g] m).bind λj=>
   (DQ j).bind λh=>
   if (!decide (h=0))=X then
   Y (.ret h)
   else
   Y (.next ())) 0 ([p,g].length:Int) ()=Y (if CA p≠0 then .inr (CA p)else if CA g≠0 then .inr (CA g)else .inl ()):=by
  show tn _ 2 0 ()=_;rw[Ek,show idx [p,g] 0=Y p from rfl,bs,NJ,bs];by_cases d:CA p=0
  .rw[ac (by simp[d]),ac (by simp[d])];show tn _ 1 (0+1) ()=_;rw[Ek,show idx [p,g] (0+1)=Y g from rfl,bs,NJ,bs];by_cases e:CA g=0
   .rw[ac b?,ac b?];rfl
   .rw[a6 b?,a6 e]
  .rw[a6 (by simp[d]),a6 d]
 rw [o];by_cases d:CA p=0
 .by_cases e:CA g=0
  .simp[d,e,Br];rw[gE,gE,bs];cases DO t p<;>cases DO t g<;>rfl
  .simp[d,e,not_false_eq_true,St]
 .simp[d,not_false_eq_true,St]
theorem UL(hf:Aq t)(p g:dr):GD t p g=Y (Et t p g):=by
 unfold GD Et;rw[Rp hf,bs];refine EM λ_=>?_;rw[Om,bs];refine EM λd=>?_;rw[Om,bs];refine EM λe=>?_
 grind [Zz,Df,DO]
end Go.Sf.Sc
namespace Go.Sf.Sc
open Go Go.Sf
variable{t:AC}{p g:dr}
theorem Wy{pa:d4}{inj:Bool}(h:Et t p g=0)(r:pa.dl.length=p.dl.length)(u:pa.d3.length=p.d3.length):(A5 t).2=0/\Nd (FF t p g pa inj):=by
 unfold Et at h;by_cases hv:(A5 t).2=0
 .rw[ac l?]at h;by_cases o:CA p=0
  .rw[ac q_]at h;by_cases q:CA g=0
   .rw[ac (by simp[q])]at h;by_cases d:(DO t p&&DO t g)=X
    .rw[ne]at d;have op:=Df o;have m:=Df q;have tp:=Hx op d.1;have w:=Hx m d.2;have x:(KI t).length=t.dl.length:=by unfold KI;rw[c9,Au]
     refine ⟨hv,r,u,λe he=>?_,λn v=>?_,Nat.le_trans op.ea U,Nat.le_trans op.eh U,Nat.le_trans m.ea U,Nat.le_trans m.eh U⟩
     .have:=op.fit e he;exact⟨this.2.1.1,this.2.1.2,this.2.2.1,this.2.2.2⟩
     .have:=tp.1 n v;refine⟨this.1,by show n<((KI t).length:Int);rw[x];exact this.2,λk j=>?_⟩;have j:=w.1 k j;refine⟨j.1,?_⟩;show k<((AA (KI t) n).length:Int)
      grind [KI,Il,Pg,c9,Au]
    grind
   grind
  grind
 grind
def Tr(t:AC)(p g:dr)(pa:d4)(inj:Bool):List d4×Int:=
 if Et t p g≠0 then([],Et t p g)else if¬(pa.dl.length=p.dl.length/\pa.d3.length=p.d3.length)then([],20)else
 if Si pa.dl g.dl.length≠0 then([],Si pa.dl g.dl.length)else if Si pa.d3 g.d3.length≠0 then([],Si pa.d3 g.d3.length)else
 if 5000<(Ja t p g pa inj).length then([],3)else(Ja t p g pa inj,0)
theorem rC(hf:Aq t)(p g:dr)(pa:d4)(inj:Bool):Hv t p g pa inj=Y (Tr t p g pa inj):=by
 unfold Hv Tr;rw[WA hf,bs];refine Ds λe=>?_;refine Qj (by simp[x!,decide_eq_false_iff_not];omega) λd=>?_;have d:=y_.1 d;rw[oR,bs];refine Ds λh=>?_;rw[oR,bs];refine Ds λj=>?_
 grind [Wy,Jp,vE,Ja]
theorem rN(hf:Aq t)(p g:dr)(pa:d4)(inj:Bool):Iv t p g pa inj=Y (Tr t p g pa inj):=by
 unfold Iv Tr;rw[UL hf,bs];refine Ds λe=>?_;refine Qj (by simp[x!,decide_eq_false_iff_not];omega) λd=>?_;have d:=y_.1 d;rw[gU _ U,bs];refine Ds λh=>?_;rw[gU _ U,bs];refine Ds λj=>?_
 grind [Wy,t7,Ja]
def NI(p:dr):d4:=⟨A! p.dl.length (-1),A! p.d3.length (-1)⟩
variable{n:Nat}{i:Int}
theorem XU(d:0<=i)(e:i<n):BG (A! i.toNat (-1:Int)++A! (n-i.toNat) 0) i (-1)=A! (i+1).toNat (-1)++A! (n-(i+1).toNat) 0:=by
 unfold BG;rw[List.set_append_right _ _ V,show n-i.toNat=(n-(i+1).toNat)+1 by omega,List.replicate_succ,List.length_replicate,Nat.sub_self,List.set_cons_zero,show(i+1).toNat=i.toNat+1 by omega,List.replicate_succ',ci];rfl
theorem rV(h:p.dl.length<=100)(j:p.d3.length<=100):LK p=Y (NI p):=by
 unfold LK;have m1:Hl (p.dl.length:Int) (0:Int)=Y (A! p.dl.length 0):=by unfold Hl;rw[a6 U,y?]
 have e:Hl (p.d3.length:Int) (0:Int)=Y (A! p.d3.length 0):=by unfold Hl;rw[a6 U,y?]
 rw [m1,bs,e,bs];rw[Pr (λi=>(⟨A! i.toNat (-1)++A! (p.dl.length-i.toNat) 0,A! p.d3.length 0⟩:d4)) (a:=0) (b:=p.dl.length) U V,Br]
 .dsimp only;rw[Pr (λi=>(⟨A! p.dl.length (-1),A! i.toNat (-1)++A! (p.d3.length-i.toNat) 0⟩:d4)) (a:=0) (b:=p.d3.length) U V,Br]
  .simp[NI]
  .intro i d i1;dsimp only;rw[a6 a_,AD d a_,bs,XU d i1,Ar (n:=i+1) U U]
  .dsimp only;rw[ac V]
 .intro i d i1;dsimp only;rw[a6 a_,AD d a_,bs,XU d i1,Ar (n:=i+1) U U]
 .dsimp only;rw[ac V]
end Go.Sf.Sc
