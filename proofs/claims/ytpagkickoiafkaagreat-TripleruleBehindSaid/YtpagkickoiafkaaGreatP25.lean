/- Plain lemmas: what the functions of the program and of the reference compute. -/
import Derived.Test.YtpagkickoiafkaaGreatP1
set_option linter.all false
set_option maxRecDepth 100000
open Option renaming some->Y
open Bool renaming true->X,false->T
open Bool renaming not_eq_false'->v?,eq_iff_iff->w_,not_eq_true->w!,not_true->w?,false_eq_true->x_,false_and->x!,and_self->x?,and_false->y_,or_false->y!,not_eq_true'->y?
open Classical renaming propDecidable->z_,not_not->z!
open Int renaming le_refl->z?,toNat_natCast->A_
open List renaming take_of_length_le->A',append_nil->A!,take_append_of_le_length->A?,flatMap_append->B_,take_left->B',replicate->B!,ext_getElem->B?,any_append->C_,any_cons->C',any_nil->C!,mem_filter->C?,any_eq_true->D_,flatMap_eq_nil_iff->D'
namespace Go.Sf.Sc
open Go Go.Sf
variable{t:AC}{c:c9}
theorem sZ(hf:Ay t)(p:d4)(e:Dn c):ES t p c=Y (Lp t p c):=by
 by_cases d:(A8 t).2=0
 .exact lc hf d p e
 .unfold ES Lp;rw[Xz hf,bs];refine Di λh=>?_;exfalso;unfold GW at h;rw[QQ d]at h;exact d h
end Go.Sf.Sc
namespace Go.Sf.Sc
open Go Go.Sf
variable{α:Type}
theorem Yz[Inhabited α](b:α->α->Bool){l m:List α}(j:∀x∈l,∀y∈m,(b x y=X↔x=y))(o:l.length=m.length):gp (λi=>!b (AA l i) (AA m i)) 0 l.length=T↔l=m:=by
 rw [BY];constructor
 .intro h;refine Uh o (λi d e=>?_);have:=h i d e;rw[v?]at this;exact(j _ (AG d e) _ (AG d U)).1 this
 .rintro rfl i d e;rw[v?];exact(j _ (AG d e) _ (AG d e)).2 rfl
theorem Vj[Inhabited α][DecidableEq α]{l m:List α}(r:l.length=m.length){k:Unit->I1}{j:Bool->I1}:AL (Aj (ρ:=Bool) (λ(o:Int)(_:Unit)=>
 (idx l o).bind λd=>
 (idx m o).bind λe=>
 if (!decide (d=e))=X then
 Y (.ret T)
 else
 Y (.next ())) 0 (l.length:Int) ()) k j=if l=m then k ()else j T:=by
 rw [BT (λi=>!decide (AA l i=AA m i)) T]
 .have:=Yz (λx y:α=>decide (x=y)) (l:=l) (m:=m) (λ_ _ _ _=>decide_eq_true_iff) r;by_cases h:l=m
  .rw[this.2 h,QQ h];rfl
  .rw[aE h];cases v:gp (λi=>!decide (AA l i=AA m i)) 0 l.length
   .exact absurd (this.1 v) h
   .rfl
 .intro i q u _;rw[AD q u,bs,AD q U,bs,Hk]
theorem Oj[Inhabited α][DecidableEq α](l m:List α):(if(!decide ((l.length:Int)=(m.length:Int)))=X then
 Y T
 else
 AL (Aj (ρ:=Bool) (λ(q:Int)(_:Unit)=>
 (idx l q).bind λd=>
 (idx m q).bind λj=>
 if (!decide (d=j))=X then
 Y (.ret T)
 else
 Y (.next ())) 0 (l.length:Int) ()) (λ_=>
 Y X) (λr=>Y r))=Y (decide (l=m)):=by
 by_cases o:l.length=m.length
 .rw[aE r?,Vj o];by_cases h:l=m
  .rw[QQ h,decide_eq_true h]
  .rw[aE h,decide_eq_false h]
 .rw[QQ an,decide_eq_false (λe=>o (by rw[e]))]
theorem PH(l m:Fp):slices_Equal_int l m=Y (decide (l=m)):=Oj l m
theorem dA(l m:List Bu):Ff l m=Y (decide (l=m)):=Oj l m
theorem l8(l m:List Cz):Gz l m=Y (decide (l=m)):=Oj l m
theorem l9(l m:List Test):G0 l m=Y (decide (l=m)):=Oj l m
theorem Yr(l m:Fp):HV l m=Y (decide (l=m)):=Oj l m
theorem Ys(l m:Fp):EA l m=Y (decide (l=m)):=Oj l m
theorem Vw(a b:cE):Ep a b=Y (decide (a=b)):=by
 unfold Ep;rw[PH,PH];obtain⟨a1,a2⟩:=a;obtain⟨e,j⟩:=b;by_cases h:a1=e<;>by_cases d:a2=j<;>simp[h,d]
theorem Yw(a b:cE):Ii a b=Y (decide (a=b)):=by
 unfold Ii;rw[Yr,Yr];obtain⟨a1,a2⟩:=a;obtain⟨e,j⟩:=b;by_cases h:a1=e<;>by_cases d:a2=j<;>simp[h,d]
theorem gf(a b:ci):Ly a b=Y (decide (a=b)):=by
 unfold Ly;rw[Ys,bs];obtain⟨a1,a2⟩:=a;obtain⟨o,j⟩:=b;by_cases h:a1=o
 .by_cases d:a2.length=j.length
  .rw[aE (by simp[h,d]),Vj d];by_cases m:a2=j<;>simp[h,m]
  .rw[QQ an];rw[decide_eq_false (λe=>d (by cases e;rfl))]
 .simp[h]
theorem gj(a b:d4):J8 a b=Y (decide (a=b)):=by
 unfold J8;rw[gf,bs];obtain⟨a1,a2,w,r⟩:=a;obtain⟨x,u,y,v⟩:=b;by_cases h:a1=x/\w=y/\a2.length=u.length/\r.length=v.length
 .obtain⟨j,m,o,d⟩:=h;rw[aE (by simp[j,m,o,d]),Vj o];by_cases q:a2=u
  .rw[QQ q,Vj d];by_cases z:r=v<;>simp[j,m,q,z]
  .simp[q]
 .rw[QQ ?_]
  .rw[decide_eq_false (λe=>h (by cases e;exact⟨rfl,rfl,rfl,rfl⟩))]
  .by_cases j:a1=x
   .by_cases m:w=y
    .by_cases o:a2.length=u.length
     .have d:¬r.length=v.length:=λd=>h ⟨j,m,o,d⟩;simp;omega
     .simp;omega
    .simp[m]
   .simp[j]
noncomputable def US(a b:c9):Bool:=@decide (a=b) (z_ _)
theorem YZ{a b:c9}:US a b=X↔a=b:=by
 unfold US;exact@decide_eq_true_iff _ (z_ _)
noncomputable def ZI(l m:List c9):Bool:=@decide (l=m) (z_ _)
theorem Vi{l m:List c9}:ZI l m=X↔l=m:=by
 unfold ZI;exact@decide_eq_true_iff _ (z_ _)
theorem fT(a b:c9):US a b=(decide (a.fu=b.fu)&&decide (a.Map=b.Map)&&decide (a.d4=b.d4)&&ZI a.ej b.ej):=by
 rw [w_,YZ];obtain⟨a1,a2,m,o⟩:=a;obtain⟨q,r,u,v⟩:=b;simp only[gN,ml,Vi,c9.mk.injEq];constructor
 .rintro⟨d,e,h,j⟩;exact⟨⟨⟨d,h⟩,j⟩,e⟩
 .rintro⟨⟨⟨d,h⟩,j⟩,e⟩;exact⟨d,e,h,j⟩
theorem Zm{l m:List c9}{f:c9->c9->I1}(hf:∀x∈l,∀y,f x y=Y (US x y))(v:l.length=m.length):AL (Aj (ρ:=Bool) (λ(r:Int)(_:Unit)=>
 (idx l r).bind λd=>
 (idx m r).bind λe=>
 (f d e).bind λj=>
 if (!j)=X then
 Y (.ret T)
 else
 Y (.next ())) 0 (l.length:Int) ()) (λ_=>
 Y X) (λw=>Y w)=Y (ZI l m):=by
 rw [BT (λi=>!US (AA l i) (AA m i)) T]
 .have:=Yz US (l:=l) (m:=m) (λ_ _ _ _=>YZ) v;cases q:gp (λi=>!US (AA l i) (AA m i)) 0 l.length
  .rw[Vi.2 (this.1 q)];rfl
  .have:ZI l m=T:=by
    rw [<-w!,Vi];intro h;rw[this.2 h]at q;cases q
   rw [this];rfl
 .intro i o u _;rw[AD o u,bs,AD o U,bs,hf _ (AG o u),bs,Hk]
theorem fV{l m:List c9}(h:¬l.length=m.length):ZI l m=T:=by
 rw [<-w!,Vi];exact λe=>h (by rw[e])
theorem lu:∀(N:Nat)(a b:c9),SizeOf.sizeOf a<=N->∀n,N<=n->Dj n a b=Y (US a b)
 |0,a,_,h,_,_=>by have:=DP a;omega|N+1,a,b,h,n,hn=>by
  obtain ⟨n,rfl⟩:∃m,n=m+1:=⟨n-1,U⟩;have v:DZ a.ej b.ej (Dj n)=Y (ZI a.ej b.ej):=by
   unfold DZ;by_cases d:a.ej.length=b.ej.length
   .rw[aE p!,Zm (λx u y=>by have:=Ey u;exact lu N x y U n U) d]
   .rw[QQ an,fV d]
  rw [Dj,Vw,PH,dA,l8,l9,v,fT];have w:decide (a.d4=b.d4)=(decide (a.d4.ek=b.d4.ek)&&decide (a.d4.ci.bq=b.d4.ci.bq)&&decide (a.d4.ci.ca=b.d4.ci.ca)&&decide (a.d4.ed=b.d4.ed)&&decide (a.d4.f0=b.d4.f0)):=by
   rw [w_];simp only[gN,ml];obtain⟨_,_,_,⟨⟨a1,a2⟩,z,A,B⟩⟩:=a;obtain⟨_,_,_,⟨⟨C,D⟩,E,F,G⟩⟩:=b;simp only[d4.mk.injEq,ci.mk.injEq];constructor
   .rintro⟨⟨e,j⟩,o,q,r⟩;exact⟨⟨⟨⟨q,e⟩,j⟩,o⟩,r⟩
   .rintro⟨⟨⟨⟨q,e⟩,j⟩,o⟩,r⟩;exact⟨⟨e,j⟩,o,q,r⟩
  rw [w];generalize decide (a.fu=b.fu)=c1;generalize decide (a.Map=b.Map)=c2;generalize decide (a.d4.ek=b.d4.ek)=c3;generalize decide (a.d4.ci.bq=b.d4.ci.bq)=c4;generalize decide (a.d4.ci.ca=b.d4.ci.ca)=c5;generalize decide (a.d4.ed=b.d4.ed)=c6;generalize decide (a.d4.f0=b.d4.f0)=c7;generalize ZI a.ej b.ej=c8;cases c1
  .rfl
  cases c2
  .rfl
  cases c3
  .rfl
  cases c4
  .rfl
  cases c5
  .rfl
  cases c6
  .rfl
  cases c7
  .rfl
  rfl
theorem sg(a b:c9):Oh a b=Y (US a b):=EG (SizeOf.sizeOf a) λn hn=>lu _ a b (aN _) n hn
theorem mP:∀(N:Nat)(a b:c9),SizeOf.sizeOf a<=N->∀n,N<=n->HQ n a b=Y (US a b)
 |0,a,_,h,_,_=>by have:=DP a;omega|N+1,a,b,h,n,hn=>by
  obtain ⟨n,rfl⟩:∃m,n=m+1:=⟨n-1,U⟩;rw[HQ,Yw,gj,fT];by_cases d:a.ej.length=b.ej.length
  .rw[Zm (λx e y=>by have:=Ey e;exact mP N x y U n U) d,decide_eq_true (show(a.ej.length:Int)=b.ej.length by rw[d])];generalize decide (a.fu=b.fu)=c1;generalize decide (a.Map=b.Map)=c2;generalize decide (a.d4=b.d4)=c3;cases c1
   .rfl
   cases c2
   .rfl
   cases c3
   .rfl
   rfl
  .rw[decide_eq_false (show¬(a.ej.length:Int)=b.ej.length by omega),fV d];generalize decide (a.fu=b.fu)=c1;simp
theorem tL(a b:c9):Tl a b=Y (US a b):=EG (SizeOf.sizeOf a) λn hn=>mP _ a b (aN _) n hn
end Go.Sf.Sc
namespace Go.Sf.Sc
open Go Go.Sf
mutual
def DM:c9->Nat
 |⟨_,kids,_,_⟩=>1+SD kids
def SD:List c9->Nat
 |[]=>0|k::l=>DM k+SD l
end
mutual
def dep:c9->Nat
 |⟨k,kids,_,_⟩=>(if k=5 then 1 else 0)+uy kids
def uy:List c9->Nat
 |[]=>0|k::l=>max (dep k) (uy l)
end
theorem XN(c:c9):DM c=1+SD c.ej:=by cases c;rfl
variable{k:Int}
theorem ry{l:List c9}(d:0<=k)(e:k<l.length):l.drop k.toNat=AA l k::l.drop (k+1).toNat:=by
 rw [show(k+1).toNat=k.toNat+1 by omega,List.drop_eq_getElem_cons U];unfold AA;rw[List.getD_eq_getElem?_getD,List.getElem?_eq_getElem U];rfl
theorem ZM:∀(N:Nat)(c:c9),SizeOf.sizeOf c<=N->(AI c).Sm->∀kp:Int,0<=kp->kp<=1000->∃r,(∀n,N<=n->Cw n c kp=Y r)/\-1<=r/\r<=kp-1/\(0<=r->Dn c/\(DM c:Int)+r<=kp)
 |0,c,h,_,_,_,_=>by have:=DP c;omega|N+1,c,h,κ,kp,m0,m1=>by
  obtain ⟨L,M,C⟩:=fO κ;obtain⟨O,y,P⟩:=Sa c.d4;obtain⟨Q,E,R⟩:=Yd L;have step:∀n,N+1<=n->∃m,n=m+1/\N<=m:=λn hn=>⟨n-1,U,U⟩;cases O
  .refine⟨-1,λn hn=>?_,U,U,λh=>U⟩;obtain⟨n,rfl,_⟩:=step n hn;rw[Cw,y];rfl
  cases Q
  .refine⟨-1,λn hn=>?_,U,U,λh=>U⟩;obtain⟨n,rfl,_⟩:=step n hn;rw[Cw,y,bs,E];rfl
  have loop:∀(m:Nat)(k left:Int),0<=k->k+m=c.ej.length->-1<=left->left<=1000->∃d v,(∀n,N<=n->LB (ρ:=Int) (λ(o:Int×Int)=>
    if ((decide (o.2<(c.ej.length:Int)))&&(decide (0<=o.1)))=X then
    (idx c.ej o.2).bind λz=>
    (Cw n z o.1).bind λA=>
    Y (.next (A,Ag (o.2+1)))
    else
    Y (.brk (o.1,o.2))) (left,k) (.inl (d,v)))/\-1<=d/\d<=left/\(0<=d->(∀j,k<=j->j<c.ej.length->Dn (AA c.ej j))/\(SD (c.ej.drop k.toNat):Int)+d<=left):=by
   intro m
   induction m with
   |zero=>
    intro k left x I D l1;refine⟨left,k,λn hn=>.brk ?_,D,U,λ_=>⟨λj B w=>U,?_⟩⟩
    .rw[aE an]
    .rw[List.drop_of_length_le U,SD];omega
   |succ m ε=>
    intro k left x I D l1;by_cases J:0<=left
    .have e:=AG (l:=c.ej) x U;have:=Ey e;obtain⟨r,S,θ,η,G⟩:=ZM N _ U (C _ e) left J l1;obtain⟨d,v,a1,a2,H,u⟩:=ε (k+1) r U U θ U;refine⟨d,v,λn hn=>.next (s':=(r,k+1)) ?_ (a1 n hn),a2,U,λq=>⟨λj B w=>?_,?_⟩⟩
     .rw[QQ an,AD x U,bs,S n hn,bs,Ar U U]
     .by_cases K:j=k
      .subst K;exact(G U).1
      .exact(u q).1 j U w
     .have y:=(G U).2;have E:=(u q).2;rw[ry x U,SD];omega
    .refine⟨left,k,λn hn=>.brk ?_,D,U,λh=>U⟩;rw[aE an]
  obtain ⟨d,v,a1,a2,H,u⟩:=loop c.ej.length 0 (kp-1) U U U U;refine⟨d,λn hn=>?_,a2,H,λq=>⟨.mk c (P rfl) (R rfl) (λk C=>?_),?_⟩⟩
  .obtain⟨n,rfl,F⟩:=step n hn;rw[Cw,y,bs,E];simp only[bs,w?,x_,if_false];rw[Ar (n:=kp-1) U U,(a1 n F).eq,Bj]
  .obtain⟨j,B,w,rfl⟩:=A9 C;exact(u q).1 j B w
  .have:=(u q).2;rw[show(0:Int).toNat=0 from rfl,List.drop_zero]at this;rw[XN];omega
variable{c:c9}
theorem kf(d:(AI c).Sm):∃b,Jl c=Y b/\(b=X->Dn c/\DM c<=40):=by
 obtain ⟨r,j,_,_,m⟩:=ZM (SizeOf.sizeOf c) c (aN _) d 40 U U;have e:Qd c 40=Y r:=EG (SizeOf.sizeOf c) j;unfold Jl;rw[e];exact⟨_,rfl,λh=>by have:=m c?;exact⟨this.1,by have:=this.2;simp at h;omega⟩⟩
theorem ba:∀{l:List c9}{k:c9},k∈l->DM k<=SD l
 |x::l,k,h=>by
  rw [SD];rcases List.mem_cons.1 h with rfl|h
  .omega
  .have:=ba h;omega
end Go.Sf.Sc
namespace Go.Sf.Sc
open Go Go.Sf
class PL(α:Type)where
 at_:α->Int->Int
 ok:α->Nat->Prop
instance:PL Fp:=⟨AA,λl n=>l.length=n⟩
instance:PL (Option Fp):=⟨λo i=>match o with|none=>-1|some l=>AA l i,λo n=>match o with|none=>True|some l=>l.length=n⟩
structure M8(f:AM):Prop where
 pn:PL.ok f.eo.bq f.p.bq.length
 pe:PL.ok f.eo.ca f.p.ca.length
 ends:∀e∈f.p.ca,0≤e.fd/\e.fd<f.p.bq.length/\0≤e.To/\e.To<f.p.bq.length
 kinds:∀n∈f.p.bq,0<=n/\n<f.is.length/\∀t∈f.g.bq,0<=t/\t<(AA f.is n).length
 small:f.p.bq.length<=1000/\f.p.ca.length<=1000/\f.g.bq.length<=1000/\f.g.ca.length<=1000
def K6(f:AM)(i k:Int):Bool:=
 (decide (PL.at_ f.eo.ca i<0)||decide (PL.at_ f.eo.ca i=k))&&decide (AA f.g.ca k=⟨(AA f.p.ca i).fa,AA f.d6 (AA f.p.ca i).fd,AA f.d6 (AA f.p.ca i).To⟩)
variable{α:Type}
theorem lR{l:List α}(h:l≠[]):Yk l=Y ():=by grind[Yk]
variable{l:Fp}{i:Int}
theorem Xb(e:0<=i)(d:i<l.length):((Yk l).bind λ_=>(idx l i).bind λx=>Y x)=Y (AA l i):=by
 rw [lR (by intro h;subst h;simp at d;omega),bs,AD e d,bs]
variable{n:Nat}
theorem cD:∀{l},PL.ok l n->0<=i->i<n->JZ l i=Y (PL.at_ l i):=by
 intro l h d e
 first
  |(cases l with
    |none=>rfl|some l=>exact Xb d (by have:l.length=n:=h;omega))
  |exact Xb d (by have:l.length=n:=h;omega)
variable{f:AM}{k:Int}
theorem lx(hf:M8 f)(d:0<=i)(e:i<f.p.ca.length)(h:0<=k)(j:k<f.g.ca.length)(m:(AA f.p.ca i).fd<f.d6.length)(hT:(AA f.p.ca i).To<f.d6.length):Dp f i k=Y (K6 f i k):=by
 have he:=hf.ends _ (AG d e);unfold Dp K6;rw[AD d e,bs,cD hf.pe d e,bs,AD h j,bs,AD he.1 m,bs,AD he.2.2.1 hT,bs]
 grind
def Ox(f:AM):Bool:=!gp (λi=>decide (max (AA f.p.ca i).fd (AA f.p.ca i).To=(f.d6.length:Int)-1)&&!gp (λk=>K6 f i k) 0 f.g.ca.length) 0 f.p.ca.length
variable{b:Int}
theorem rh{f:Int->Bool->Option (B3 Bool Bool)}(p:Int->Bool)(h:∀i,0<=i->i<b->f i T=Y (if p i=X then .brk X else .next T)):Aj f 0 b T=Y (.inl (gp p 0 b)):=by
 have key:∀(m:Nat)(i:Int),0<=i->i+m=b->FR f m i T=Y (.inl (gp p i b)):=by
  intro m
  induction m with
  |zero=>
   intro i d hi;have:gp p i b=T:=by rw[BY];intro j q r;omega
   rw [this];rfl
  |succ m v=>
   intro i d hi;rw[Em,h i d U];by_cases o:p i=X
   .have:gp p i b=X:=by rw[C3];exact⟨i,z? _,U,o⟩
    rw [QQ o,this]
   .have e:gp p i b=gp p (i+1) b:=by
     rw [w_,C3,C3]
     grind
    grind
 unfold Aj;by_cases u:0<=b
 .grind
 .have:gp p 0 b=T:=by rw[BY];intro j q r;omega
  rw [this,show(b-0).toNat=0 by omega];rfl
theorem jZ(hf:M8 f)(hn:0<f.d6.length)(j:f.d6.length<=1000):CI f=Y (Ox f):=by
 unfold CI Ox;rw[BT (λi=>decide (max (AA f.p.ca i).fd (AA f.p.ca i).To=(f.d6.length:Int)-1)&&!gp (λk=>K6 f i k) 0 f.g.ca.length) T]
 .generalize gp (λi=>decide (max (AA f.p.ca i).fd (AA f.p.ca i).To=(f.d6.length:Int)-1)&&!gp (λk=>K6 f i k) 0 f.g.ca.length) 0 f.p.ca.length=b;cases b<;>rfl
 .intro i d e _;rw[AD d e,bs,Ar (n:=(f.d6.length:Int)-1) U U];by_cases h:max (AA f.p.ca i).fd (AA f.p.ca i).To=(f.d6.length:Int)-1
  .rw[aE (by simp[h]),rh (λk=>K6 f i k) (λk m o=>by
    rw [lx hf d e m o U U,bs,Hk])]
   generalize gp (λk=>K6 f i k) 0 f.g.ca.length=b;rw[decide_eq_true h];cases b<;>rfl
  grind
def Ak(n:Nat):Fp:=(List.range n).map Int.ofNat
theorem VR(n:Nat):Ak (n+1)=Ak n++[(n:Int)]:=by grind[Ak,List.range_succ]
def UW(f:AM)(k:Int):Bool:=(decide (PL.at_ f.eo.bq f.d6.length<0)||decide (PL.at_ f.eo.bq f.d6.length=k))&&AA (AA f.is (AA f.p.bq f.d6.length)) (AA f.g.bq k)&&!(f.ei&&f.d6.any λx=>decide (k=x))
def UV(f:AM)(k:Int):Bool:=K6 f f.d7.length k&&!(f.ei&&f.d7.any λx=>decide (k=x))
def EZ:Nat->AM->List cE
 |0,f=>[⟨f.d6,f.d7⟩]|n+1,f=>(Ak f.g.ca.length).flatMap λk=>if UV f k=X then EZ n {f with d7:=f.d7++[k]}else[]
def Jt:Nat->AM->List cE
 |0,f=>EZ f.p.ca.length f|n+1,f=>(Ak f.g.bq.length).flatMap λk=>if(UW f k&&Ox {f with d6:=f.d6++[k]})=X then Jt n {f with d6:=f.d6++[k]}else[]
theorem aQ(a b:List α)(m:Nat):((a.take m)++b).take m=(a++b).take m:=by
 by_cases h:a.length<=m
 .rw[A' h]
 grind
end Go.Sf.Sc
namespace Go.Sf.Sc
open Go Go.Sf
def Tf(f:AM)(o:List cE):AM:={f with out:=o}
variable{f:AM}
theorem M8.out(h:M8 f)(o:List cE):M8 (Tf f o):=⟨h.pn,h.pe,h.ends,h.kinds,h.small⟩
theorem Q7:∀(n:Nat)(f:AM)(o:List cE),EZ n (Tf f o)=EZ n f
 |0,_,_=>rfl|n+1,f,o=>by
  rw [EZ,EZ];refine congrArg (λF=>(Ak f.g.ca.length).flatMap F) (funext λk=>?_);have:=Q7 n {f with d7:=f.d7++[k]} o;show(if UV f k=X then EZ n (Tf {f with d7:=f.d7++[k]} o)else[])=_;rw[this]
theorem bM:∀(n:Nat)(f:AM)(o:List cE),Jt n (Tf f o)=Jt n f
 |0,f,o=>Q7 _ f o|n+1,f,o=>by
  rw [Jt,Jt];refine congrArg (λF=>(Ak f.g.bq.length).flatMap F) (funext λk=>?_);have:=bM n {f with d6:=f.d6++[k]} o;show(if(UW f k&&Ox {f with d6:=f.d6++[k]})=X then Jt n (Tf {f with d6:=f.d6++[k]} o)else[])=_;rw[this]
def BF(f:AM)(l:List cE):AM:=Tf f ((f.out++l).take f.kp.toNat)
structure YQ(f:AM):Prop where
 m0:0<=f.kp
 m1:f.kp<=10000
 out:(f.out.length:Int)<=f.kp
theorem LG(h:YQ f):BF f []=f:=by
 unfold BF;rw[A!,A' (by have:=h.out;have:=h.m0;omega)];rfl
theorem Zc(h:(f.out.length:Int)=f.kp)(l:List cE):BF f l=f:=by
 unfold BF;rw[A? U,A' U];rfl
theorem Ze(h:YQ f)(l:List cE):YQ (BF f l):=by
 refine ⟨h.m0,h.m1,?_⟩;have:=h.m0;show(((f.out++l).take f.kp.toNat).length:Int)<=f.kp
 grind
theorem Zd(f:AM)(a b:List cE):BF (BF f a) b=BF f (a++b):=by
 show Tf f ((((f.out++a).take f.kp.toNat)++b).take f.kp.toNat)=_;rw[aQ,bk];rfl
theorem XR:∀(n:Nat)(f:AM),M8 f->YQ f->f.d6.length=f.p.bq.length->f.d7.length+n=f.p.ca.length->∀m,n+1<=m->BN m f=Y (BF f (EZ n f))
 |n,f,hf,u,hn,he,m,y=>by
  obtain ⟨m,rfl⟩:∃k,m=k+1:=⟨m-1,U⟩;have M:=hf.small;have N:=u.m0;have O:=u.m1;have P:=u.out;rw[BN];by_cases e:(f.out.length:Int)=f.kp
  .grind[Zc]
  rw [aE h_,aE an]
  match n,he,y with
  |0,he,y=>
   rw [aE an];unfold slices_Clone_int;rw[BO a?,bs,BO a?,bs,AU a!,bs,bs];unfold BF;rw[A' (by simp[EZ];omega)];rfl
  |n+1,he,y=>
   rw [QQ an];have F:∀k,UV f k=X->M8 {f with d7:=f.d7++[k]}:=λk _=>⟨hf.pn,hf.pe,hf.ends,hf.kinds,hf.small⟩;rw[BR (a:=0) (s:=f) (λi=>BF f ((Ak i.toNat).flatMap λk=>if UV f k=X then EZ n {f with d7:=f.d7++[k]}else[])) U (LG u)]
   .grind[A_,EZ]
   .intro i C D;have E:Ak (i+1).toNat=Ak i.toNat++[i]:=by
     rw [show(i+1).toNat=i.toNat+1 by omega,VR];rw[show((i.toNat:Nat):Int)=i by omega]
    have G:∀l,BF f ((Ak (i+1).toNat).flatMap l)=BF (BF f ((Ak i.toNat).flatMap l)) (l i):=by
     intro l;rw[Zd,E,B_];simp
    rw [G];generalize (Ak i.toNat).flatMap (λk=>if UV f k=X then EZ n {f with d7:=f.d7++[k]}else[])=L;have o:=Ze u L;have v:M8 (BF f L):=hf.out _;have z:=hf.ends _ (AG (l:=f.p.ca) (i:=(f.d7.length:Int)) U U);rw[lx v (i:=(f.d7.length:Int)) (k:=i) U (by show _<(f.p.ca.length:Int);omega) C (by exact D) (by show(AA f.p.ca f.d7.length).fd<(f.d6.length:Int);omega) (by show(AA f.p.ca f.d7.length).To<(f.d6.length:Int);omega),bs];have H:slices_Contains_int (BF f L).d7 i=Y (f.d7.any λx=>decide (i=x)):=LD f.d7 i;rw[H];have q:K6 (BF f L) f.d7.length i=K6 f f.d7.length i:=rfl;have key:((Al (BF f L).d7 [i]).bind λh=>
      (BN m (AM.mk (BF f L).p (BF f L).g (BF f L).is (BF f L).eo (BF f L).ei (BF f L).kp (BF f L).d6 h (BF f L).out)).bind λd=>
      (slc d.d7 0 (f.d7.length:Int)).bind λj=>
      Y (AM.mk d.p d.g d.is d.eo d.ei d.kp d.d6 j d.out))=Y (BF (BF f L) (EZ n {f with d7:=f.d7++[i]})):=by
     have I:Al (BF f L).d7 [i]=Y (f.d7++[i]):=AU (by show f.d7.length+1<=AY;unfold AY;omega);have B:=XR n {BF f L with d7:=f.d7++[i]} ⟨hf.pn,hf.pe,hf.ends,hf.kinds,hf.small⟩ ⟨o.m0,o.m1,o.out⟩ hn (by show(f.d7++[i]).length+n=f.p.ca.length;simp;omega) m U;have J:EZ n {BF f L with d7:=f.d7++[i]}=EZ n {f with d7:=f.d7++[i]}:=Q7 n {f with d7:=f.d7++[i]} _;rw[J]at B;rw[I,bs];show(BN m {BF f L with d7:=f.d7++[i]}).bind _=_;rw[B,bs];have K:slc (BF {BF f L with d7:=f.d7++[i]} (EZ n {f with d7:=f.d7++[i]})).d7 0 (f.d7.length:Int)=Y f.d7:=by
      show slc (f.d7++[i]) 0 (f.d7.length:Int)=_;rw[Lb U l',A_,B']
     rw [K];rfl
    rw [key,q];have w:UV f i=(K6 f f.d7.length i&&!(f.ei&&f.d7.any λx=>decide (i=x))):=rfl;have r:(BF f L).ei=f.ei:=rfl;rw[w,r];generalize Q:EZ n {f with d7:=f.d7++[i]}=A;cases K6 f f.d7.length i
    .simp only[x!,x_,if_false,LG o];rfl
    .cases f.ei
     .rfl
     .cases f.d7.any λx=>decide (i=x)
      .rfl
      .simp only[x?,w?,y_,x_,if_false,LG o];rfl
end Go.Sf.Sc
namespace Go.Sf.Sc
open Go Go.Sf
theorem XT:∀(n:Nat)(f:AM),M8 f->YQ f->f.d7=[]->f.d6.length+n=f.p.bq.length->∀m,n+f.p.ca.length+1<=m->BN m f=Y (BF f (Jt n f))
 |0,f,hf,r,he,hn,m,Q=>by
  grind [Jt,XR]
 |n+1,f,hf,r,he,hn,m,Q=>by
  obtain ⟨m,rfl⟩:∃k,m=k+1:=⟨m-1,U⟩;have R:=hf.small;have S:=r.m0;have θ:=r.m1;have ε:=r.out;rw[BN];by_cases j:(f.out.length:Int)=f.kp
  .grind[Zc]
  rw [aE k_,QQ an];rw[BR (a:=0) (s:=f) (λi=>BF f ((Ak i.toNat).flatMap λk=>if(UW f k&&Ox {f with d6:=f.d6++[k]})=X then Jt n {f with d6:=f.d6++[k]}else[])) U (LG r)]
  .grind[A_,Jt]
  .intro i B C;have E:Ak (i+1).toNat=Ak i.toNat++[i]:=by
    rw [show(i+1).toNat=i.toNat+1 by omega,VR];rw[show((i.toNat:Nat):Int)=i by omega]
   have F:∀l,BF f ((Ak (i+1).toNat).flatMap l)=BF (BF f ((Ak i.toNat).flatMap l)) (l i):=by
    intro l;rw[Zd,E,B_];simp
   rw [F];generalize (Ak i.toNat).flatMap (λk=>if(UW f k&&Ox {f with d6:=f.d6++[k]})=X then Jt n {f with d6:=f.d6++[k]}else[])=L;have o:=Ze r L;have v:(f.d6.length:Int)<(f.p.bq.length:Int):=U
   have q:=hf.kinds _ (AG (l:=f.p.bq) (i:=(f.d6.length:Int)) U v);have w:=q.2.2 _ (AG B C);have key:((Al (BF f L).d6 [i]).bind λe=>
     (CI (AM.mk (BF f L).p (BF f L).g (BF f L).is (BF f L).eo (BF f L).ei (BF f L).kp e (BF f L).d7 (BF f L).out)).bind λu=>
     if u=X then
     (BN m (AM.mk (BF f L).p (BF f L).g (BF f L).is (BF f L).eo (BF f L).ei (BF f L).kp e (BF f L).d7 (BF f L).out)).bind λd=>
     (slc d.d6 0 (f.d6.length:Int)).bind λh=>
     Y (AM.mk d.p d.g d.is d.eo d.ei d.kp h d.d7 d.out)
     else
     (slc e 0 (f.d6.length:Int)).bind λh=>
     Y (AM.mk (BF f L).p (BF f L).g (BF f L).is (BF f L).eo (BF f L).ei (BF f L).kp h (BF f L).d7 (BF f L).out))=Y (BF (BF f L) (if Ox {f with d6:=f.d6++[i]}=X then Jt n {f with d6:=f.d6++[i]}else[])):=by
    have G:Al (BF f L).d6 [i]=Y (f.d6++[i]):=AU (by show f.d6.length+1<=AY;unfold AY;omega);have e0:slc (f.d6++[i]) 0 (f.d6.length:Int)=Y f.d6:=by
     rw [Lb U l',A_,B']
    have H:CI {BF f L with d6:=f.d6++[i]}=Y (Ox {f with d6:=f.d6++[i]}):=jZ (f:={BF f L with d6:=f.d6++[i]}) ⟨hf.pn,hf.pe,hf.ends,hf.kinds,hf.small⟩ (by show 0<(f.d6++[i]).length;simp) (by show(f.d6++[i]).length<=1000;rw[a5];simp;omega);have D:=XT n {BF f L with d6:=f.d6++[i]} ⟨hf.pn,hf.pe,hf.ends,hf.kinds,hf.small⟩ ⟨o.m0,o.m1,o.out⟩ he (by show(f.d6++[i]).length+n=f.p.bq.length;rw[a5];simp;omega) m (by show n+f.p.ca.length+1<=m;omega);have I:Jt n {BF f L with d6:=f.d6++[i]}=Jt n {f with d6:=f.d6++[i]}:=bM n {f with d6:=f.d6++[i]} _;rw[I]at D;rw[G,bs];show(CI {BF f L with d6:=f.d6++[i]}).bind _=_;rw[H,bs];cases Ox {f with d6:=f.d6++[i]}
    .rw[aE a_,aE a_,e0,LG o];rfl
    .rw[QQ rfl,QQ rfl];show(BN m {BF f L with d6:=f.d6++[i]}).bind _=_;rw[D,bs];have J:slc (BF {BF f L with d6:=f.d6++[i]} (Jt n {f with d6:=f.d6++[i]})).d6 0 (f.d6.length:Int)=Y f.d6:=e0;rw[J];rfl
   have K:JZ (BF f L).eo.bq (f.d6.length:Int)=Y (PL.at_ f.eo.bq f.d6.length):=cD (n:=f.p.bq.length) hf.pn U U;have M:idx (BF f L).p.bq (f.d6.length:Int)=Y (AA f.p.bq f.d6.length):=AD U v;have hi:idx (BF f L).is (AA f.p.bq f.d6.length)=Y (AA f.is (AA f.p.bq f.d6.length)):=AD q.1 q.2.1;have N:idx (AA f.is (AA f.p.bq f.d6.length)) (AA f.g.bq i)=Y (AA (AA f.is (AA f.p.bq f.d6.length)) (AA f.g.bq i)):=AD w.1 w.2;have O:slices_Contains_int (BF f L).d6 i=Y (f.d6.any λx=>decide (i=x)):=LD f.d6 i;have y:(BF f L).ei=f.ei:=rfl;have z:UW f i=((decide (PL.at_ f.eo.bq f.d6.length<0)||decide (PL.at_ f.eo.bq f.d6.length=i))&&AA (AA f.is (AA f.p.bq f.d6.length)) (AA f.g.bq i)&&!(f.ei&&f.d6.any λx=>decide (i=x))):=rfl;rw[AD B C,bs,K,bs,M,bs,hi,bs,N,bs,O,key,y,z];generalize AA (AA f.is (AA f.p.bq f.d6.length)) (AA f.g.bq i)=c2;have P:(decide (0<=PL.at_ f.eo.bq f.d6.length)&&!decide (PL.at_ f.eo.bq f.d6.length=i))=!(decide (PL.at_ f.eo.bq f.d6.length<0)||decide (PL.at_ f.eo.bq f.d6.length=i)):=by
    rw [Bool.not_or];congr 1;rw[<-decide_not];exact decide_eq_decide.2 U
   rw [P];generalize (decide (PL.at_ f.eo.bq f.d6.length<0)||decide (PL.at_ f.eo.bq f.d6.length=i))=c1;generalize Ox {f with d6:=f.d6++[i]}=c5;generalize Jt n {f with d6:=f.d6++[i]}=A;cases c1
   .simp only[x!,x_,if_false,LG o];rfl
   .cases c2
    .simp only[y_,x!,x_,if_false,LG o];rfl
    .cases f.ei
     .rfl
     .cases f.d6.any λx=>decide (i=x)
      .rfl
      .simp only[x?,w?,y_,x!,x_,if_false,LG o];rfl
variable{f:AM}
theorem vh(hf:M8 f)(d:YQ f)(he:f.d7=[])(hn:f.d6=[]):JI f=Y (BF f (Jt f.p.bq.length f)):=
 EG (f.p.bq.length+f.p.ca.length+1) λm e=>XT _ f hf d he (by rw[hn];simp) m e
end Go.Sf.Sc
namespace Go.Sf.Sc
open Go Go.Sf
theorem Az(n:Nat):(Ak n).length=n:=by simp[Ak]
variable{n:Nat}{i:Int}
theorem CB:i∈Ak n↔0<=i/\i<n:=by
 unfold Ak;rw[List.mem_map];constructor
 .grind
 .rintro⟨d,e⟩;exact⟨i.toNat,List.mem_range.2 U,by show((i.toNat:Nat):Int)=i;omega⟩
variable{α:Type}
theorem GH[Inhabited α](F:Int->α)(d:0<=i)(e:i<n):AA ((Ak n).map F) i=F i:=by
 unfold AA Ak
 grind
theorem Fd(d:0<=i):Ak (i+1).toNat=Ak i.toNat++[i]:=by
 rw [show(i+1).toNat=i.toNat+1 by omega,VR,show((i.toNat:Nat):Int)=i by omega]
def OF(t:AC)(a:Int):Ne:=(Ak t.bq.length).map λk=>x9 t k a
def KD(t:AC):List Ne:=(Ak t.bq.length).map (OF t)
variable{t:AC}{a:Int}
theorem sW(hf:Ay t)(h:D7 t)(hv:(A8 t).2=0)(a0:0<=a)(a1:a<t.bq.length):Mj t a=Y ((Ak t.bq.length).filter λi=>x9 t i a,0):=by
 have hn:=h.d6;unfold Mj;have d:Kv t a=X:=by simp[Kv,a0,a1]
 rw [Yo hf,bs,aE (by simp[hv,d])];rw[BR (λi=>(Ak i.toNat).filter λi=>x9 t i a) U l?,bs,A_]
 grind [oj,Fd,Ak,x9,List.length_filter_le,Az,AU,AY]
variable{l:Fp}
theorem td(r:∀x∈l,0<=x/\x<n):BB (λ(u:Int)(s2:Ne)=>
  (idx l u).bind λd=>
  (idx s2 d).bind λ_=>
  Y (BM s2 d X)) 0 (l.length:Int) (B! n T)=Y ((Ak n).map λk=>l.any λx=>decide (x=k)):=by
 rw [BR (λj=>(Ak n).map λk=>(l.take j.toNat).any λx=>decide (x=k)) U (by
  refine B? u! (λj m y=>V))]
 .rw[A_,List.take_length]
 .intro j o m;have q:=r _ (AG o m);rw[AD o m,bs,AD q.1 (by rw[az,Az];exact q.2),bs,Cb o m];congr 1;unfold BM;refine B? V (λk z v=>?_);have w:k<n:=by simpa[Az]using v
  rw [List.getElem_set];have e:(Ak n)[k]'(by rw[Az];exact w)=(k:Int):=by simp[Ak]
  simp only[List.getElem_map,e,C_,C',C!,y!];by_cases h:(AA l j).toNat=k
  .rw[QQ h,decide_eq_true (show AA l j=(k:Int)by omega),Bool.or_true]
  .rw[aE h,decide_eq_false (show¬AA l j=(k:Int)by omega),y!]
theorem rC(hf:Ay t)(h:D7 t)(hv:(A8 t).2=0):JY t=Y (KD t):=by
 have hn:=h.d6;unfold JY;rw[BR (λi=>(Ak i.toNat).map (OF t)) U l?,bs,A_]
 .rfl
 .intro i o r;have v:GV (t.bq.length:Int) T=Y (B! t.bq.length T):=by
   unfold GV;rw[QQ U,A_]
  rw [v,bs,sW hf h hv o r,bs];have:=td (n:=t.bq.length) (l:=(Ak t.bq.length).filter λk=>x9 t k i) (λx j=>CB.1 (C?.1 j).1);show(BB (λ(q:Int)(s2:Ne)=>
   (idx ((Ak t.bq.length).filter λk=>x9 t k i) q).bind λd=>
   (idx s2 d).bind λ_=>
   Y (BM s2 d X)) 0 (((Ak t.bq.length).filter λk=>x9 t k i).length:Int) (B! t.bq.length T)).bind _=_
  rw [this,bs,AU (by rw[az,Az];simp;unfold AY;omega),bs,Fd o,List.map_append];congr 2;simp only[List.map_cons,List.map_nil];congr 1;unfold OF;refine List.map_congr_left (λk m=>?_);have m:=CB.1 m;rw[w_,D_];constructor
  .rintro⟨x,j,e⟩;rw[ml]at e;subst e;exact(C?.1 j).2
  .intro u;exact⟨k,C?.2 ⟨CB.2 m,u⟩,V⟩
end Go.Sf.Sc
namespace Go.Sf.Sc
open Go Go.Sf
def Gm:Nat->AM->List cE
 |0,f=>EZ f.p.ca.length f|n+1,f=>(Ak f.g.bq.length).flatMap λk=>if UW f k=X then Gm n {f with d6:=f.d6++[k]}else[]
def iQ(f:AM)(i:Int):Prop:=0<=i/\i<f.p.ca.length/\0<=(AA f.p.ca i).fd/\(AA f.p.ca i).fd<f.d6.length/\0<=(AA f.p.ca i).To/\(AA f.p.ca i).To<f.d6.length/\∀k:Int,0<=k->k<f.g.ca.length->K6 f i k=T
theorem Wv(f:AM)(i k:Int):K6 f i k=((decide (PL.at_ f.eo.ca i<0)||decide (PL.at_ f.eo.ca i=k))&&decide (AA f.g.ca k=⟨(AA f.p.ca i).fa,AA f.d6 (AA f.p.ca i).fd,AA f.d6 (AA f.p.ca i).To⟩)):=rfl
variable{α:Type}{i:Int}
theorem bR[Inhabited α](l:List α)(x:α)(d:0<=i)(e:i<l.length):AA (l++[x]) i=AA l i:=by
 unfold AA
 grind
theorem kY:∀(n:Nat)(f:AM)(i:Int),iQ f i->(f.d7.length:Int)<=i->i<f.d7.length+n->EZ n f=[]
 |0,f,i,_,e,h=>by omega|n+1,f,i,hd,e,h=>by
  rw [EZ];refine D'.2 (λk d=>?_);have d:=CB.1 d;by_cases he:(f.d7.length:Int)=i
  .have:UV f k=T:=by
    unfold UV;rw[he,hd.2.2.2.2.2.2 k d.1 d.2];rfl
   grind
  .split
   .exact kY n {f with d7:=f.d7++[k]} i hd (by show((f.d7++[k]).length:Int)<=i;rw[a5];simp;omega) (by show i<((f.d7++[k]).length:Int)+n;rw[a5];simp;omega)
   .rfl
theorem be:∀(n:Nat)(f:AM)(i:Int),f.d7=[]->iQ f i->Gm n f=[]
 |0,f,i,he,hd=>by
  rw [Gm];exact kY _ f i hd (by rw[he];simpa using hd.1) (by rw[he];simpa using hd.2.1)
 |n+1,f,i,he,hd=>by
  rw [Gm];refine D'.2 (λk o=>?_);split
  .refine be n {f with d6:=f.d6++[k]} i he ?_;obtain⟨d,e,h,v,m,w,x⟩:=hd;have u:((f.d6++[k]).length:Int)=f.d6.length+1:=by rw[a5];simp
   refine ⟨d,e,h,?_,m,?_,λj q r=>?_⟩
   .grind
   .grind
   grind [Wv,AA,bR]
  .rfl
variable{f:AM}
theorem ox(hf:M8 f)(h:Ox f=T):∃i,iQ f i:=by
 unfold Ox at h;rw[v?,C3]at h;obtain⟨i,d,e,h⟩:=h;rw[gN,ml,y?,BY]at h;have he:=hf.ends _ (AG d e);exact⟨i,d,e,he.1,U,he.2.2.1,U,h.2⟩
theorem kO:∀(n:Nat)(f:AM),M8 f->f.d7=[]->Jt n f=Gm n f
 |0,_,_,_=>rfl|n+1,f,hf,he=>by
  rw [Jt,Gm];refine congrArg (λF=>(Ak f.g.bq.length).flatMap F) (funext λk=>?_);have d:M8 {f with d6:=f.d6++[k]}:=⟨hf.pn,hf.pe,hf.ends,hf.kinds,hf.small⟩;cases UW f k
  .rfl
  .cases e:Ox {f with d6:=f.d6++[k]}
   .obtain⟨i,hd⟩:=ox d e
    grind [be]
   .simp;exact kO n _ d he
end Go.Sf.Sc
namespace Go.Sf.Sc
open Go Go.Sf
variable{a b:Int}
theorem OX{σ ρ:Type}{f:σ×Int->Option (B3 (σ×Int) ρ)}(g:Int->σ){s:σ}(d:a<=b)(e:s=g a)(h:∀i,a<=i->i<b->f (g i,i)=Y (.next (g (i+1),i+1)))(j:f (g b,b)=Y (.brk (g b,b))):EI f (s,a)=Y (.inl (g b,b)):=by
 subst e;have key:∀(n:Nat)(i:Int),a<=i->i+n=b->LB f (g i,i) (.inl (g b,b)):=by
  intro n
  induction n with
  |zero=>
   intro i _ hi;have:i=b:=U
   subst this;exact .brk j
  |succ n o=>
   intro i m q;exact .next (h i m U) (o (i+1) U U)
 exact (key (b-a).toNat a (z? _) U).eq
def IK(s:Am)(d6 d7:Fp):AM:=⟨s.p,s.g,KD s.t,s.eo,s.ei,s.kp+1,d6,d7,s.x6⟩
def CU(s:Am)(l:List cE):Am:={s with x6:=(s.x6++l).take (s.kp+1).toNat}
structure W9(s:Am):Prop where
 m0:0<=s.kp
 m1:s.kp<=9999
 out:(s.x6.length:Int)<=s.kp+1
variable{s:Am}
theorem Pz(h:W9 s):CU s []=s:=by
 unfold CU;rw[A!,A' (by have:=h.out;have:=h.m0;omega)]
theorem YB(h:(s.x6.length:Int)=s.kp+1)(l:List cE):CU s l=s:=by
 unfold CU;rw[A? U,A' U]
theorem YC(h:W9 s)(l:List cE):W9 (CU s l):=by
 refine ⟨h.m0,h.m1,?_⟩;have:=h.m0;show(((s.x6++l).take (s.kp+1).toNat).length:Int)<=s.kp+1
 grind
theorem WK(s:Am)(a b:List cE):CU (CU s a) b=CU s (a++b):=by
 show ({s with x6:=(((s.x6++a).take (s.kp+1).toNat)++b).take (s.kp+1).toNat}:Am)=_;rw[aQ,bk];rfl
variable{l:Fp}
theorem mT(s:Am)(j:l.length<=1000)(n:Int):C1 s l n=Y (s.ei&&l.any λx=>decide (n=x)):=by
 unfold C1;cases s.ei
 .rw[V2 (λ_=>T) X (a:=0) (b:=0) (z? _) (λi h d=>U) (by rw[aE V])];rfl
 .rw[V2 (λi=>decide (AA l i=n)) X (a:=0) (b:=l.length) U (λi h d=>by
   rw [QQ (by simp;exact d),AD h d,bs,Ar U U,Hk]) (by rw[aE V])]
  have e:gp (λi=>decide (AA l i=n)) 0 l.length=l.any λx=>decide (n=x):=by
   rw [w_,C3,D_]
   grind [AG,A9]
  rw [e,Bool.true_and];cases l.any λx=>decide (n=x)<;>rfl
theorem aB:∀(n:Nat)(s:Am)(d6 l:Fp),M8 (IK s [] [])->W9 s->d6.length=s.p.bq.length->l.length+n=s.p.ca.length->∀m,n+1<=m->CO m s d6 l=Y (CU s (EZ n (IK s d6 l)))
 |n,s,d6,l,hf,r,hn,he,m,z=>by
  obtain ⟨m,rfl⟩:∃k,m=k+1:=⟨m-1,U⟩;have u:=hf.small;have Q:s.p.bq.length<=1000:=u.1;have s2:s.p.ca.length<=1000:=u.2.1;have R:s.g.bq.length<=1000:=u.2.2.1;have S:s.g.ca.length<=1000:=u.2.2.2;have θ:=r.m0;have ε:=r.m1;have κ:=r.out;rw[CO];by_cases v:(s.x6.length:Int)=s.kp+1
  .grind[YB]
  rw [aE an]
  match n,he,z with
  |0,he,z=>
   rw [QQ an,BO a?,bs,BO a?,bs,AU a!,bs];unfold CU;rw[A' (by simp[EZ];omega)];rfl
  |n+1,he,z=>
   have e:(0:Int)<=l.length:=U
   have q:(l.length:Int)<s.p.ca.length:=U
   have d:=hf.ends _ (AG (l:=s.p.ca) e q);have G:(AA s.p.ca l.length).fd<d6.length:=by rw[hn];exact d.2.1
   have H:(AA s.p.ca l.length).To<d6.length:=by rw[hn];exact d.2.2.2
   have w:(l.length:Int)<s.eo.ca.length:=by
    have:s.eo.ca.length=s.p.ca.length:=hf.pe;omega
   rw [aE an,AD e q,bs];rw[OX (λi=>CU s ((Ak i.toNat).flatMap λk=>if UV (IK s d6 l) k=X then EZ n (IK s d6 (l++[k]))else[])) (a:=0) (b:=(s.g.ca.length:Int)) (s:=s) U (Pz r).symm (λi B C=>by
    have I:∀F,CU s ((Ak (i+1).toNat).flatMap F)=CU (CU s ((Ak i.toNat).flatMap F)) (F i):=by
     intro F;rw[WK,Fd B,List.flatMap_append];simp
    rw [I];generalize (Ak i.toNat).flatMap (λk=>if UV (IK s d6 l) k=true then EZ n (IK s d6 (l++[k]))else[])=L;have D:=YC r L;rw[QQ (by rw[ml];exact C)];have J:idx (CU s L).g.ca i=some (AA s.g.ca i):=AD B C;have K:idx (CU s L).eo.ca (l.length:Int)=some (AA s.eo.ca l.length):=AD e w;have M:C1 (CU s L) l i=some (s.ei&&l.any λx=>decide (i=x)):=mT (CU s L) U i;have key:((Al [] l).bind λh=>
      (Al h [i]).bind λj=>
      (CO m (CU s L) d6 j).bind λo=>
      some (.next (o,Ag (i+1)):B3 (Am×Int) Am))=some (.next (CU (CU s L) (EZ n (IK s d6 (l++[i]))),i+1)):=by
     have E:=aB n (CU s L) d6 (l++[i]) ⟨hf.pn,hf.pe,hf.ends,hf.kinds,hf.small⟩ D hn (by show(l++[i]).length+n=s.p.ca.length;rw[a5];simp;omega) m U;have N:EZ n (IK (CU s L) d6 (l++[i]))=EZ n (IK s d6 (l++[i])):=Q7 n (IK s d6 (l++[i])) _;rw[N]at E;rw[BO a?,bs,AU a!,bs,E,bs,Ar U U]
    rw [J,bs,K,bs,M,key];simp only[bs];rw[AD d.1 G,AD d.2.2.1 H,Ar (n:=i+1) U U];simp only[bs];have y:UV (IK s d6 l) i=(((decide (AA s.eo.ca l.length<0)||decide (AA s.eo.ca l.length=i))&&decide (AA s.g.ca i=⟨(AA s.p.ca l.length).fa,AA d6 (AA s.p.ca l.length).fd,AA d6 (AA s.p.ca l.length).To⟩))&&!(s.ei&&l.any λx=>decide (i=x))):=rfl;have O:decide (AA s.g.ca i=⟨(AA s.p.ca l.length).fa,AA d6 (AA s.p.ca l.length).fd,AA d6 (AA s.p.ca l.length).To⟩)=(decide ((AA s.p.ca l.length).fa=(AA s.g.ca i).fa)&&decide ((AA s.g.ca i).fd=AA d6 (AA s.p.ca l.length).fd)&&decide ((AA s.g.ca i).To=AA d6 (AA s.p.ca l.length).To)):=by
     rw [Bool.eq_iff_iff];simp[ml];generalize AA s.g.ca i=x;obtain⟨x1,η,ζ⟩:=x;simp;constructor
     .rintro⟨a,b,c⟩;exact⟨⟨a.symm,b⟩,c⟩
     .rintro⟨⟨a,b⟩,c⟩;exact⟨a.symm,b,c⟩
    have P:(decide (AA s.eo.ca l.length<0)||decide (AA s.eo.ca l.length=i))=!(decide (0<=AA s.eo.ca l.length)&&!decide (AA s.eo.ca l.length=i)):=by
     rw [Bool.not_and,Bool.not_not];congr 1;rw[<-decide_not];exact decide_eq_decide.2 U
    rw [y,O,P];generalize EZ n (IK s d6 (l++[i]))=A;generalize decide (0<=AA s.eo.ca l.length)=c1;generalize decide (AA s.eo.ca l.length=i)=c2;generalize decide ((AA s.p.ca l.length).fa=(AA s.g.ca i).fa)=c3;generalize decide ((AA s.g.ca i).fd=AA d6 (AA s.p.ca l.length).fd)=c4;generalize decide ((AA s.g.ca i).To=AA d6 (AA s.p.ca l.length).To)=c5;generalize (s.ei&&l.any λx=>decide (i=x))=c6;cases c1<;>cases c2<;>cases c3<;>cases c4<;>cases c5<;>cases c6<;>first|rfl|(simp[Pz D];try rfl)) (by rw[aE (by simp[CU])]),Bj,A_,EZ]
   rfl
end Go.Sf.Sc
namespace Go.Sf.Sc
open Go Go.Sf
def Tn(s:Am)(l:Fp)(i k:Int):Bool:=decide (AA s.g.ca k=⟨(AA s.p.ca i).fa,AA l (AA s.p.ca i).fd,AA l (AA s.p.ca i).To⟩)
def TI(s:Am)(l:Fp)(i:Int):Bool:=(decide ((AA s.p.ca i).fd<l.length)&&decide ((AA s.p.ca i).To<l.length))&&!(Ak s.g.ca.length).any (Tn s l i)
variable{s:Am}{l:Fp}
theorem wG(hf:M8 (IK s [] [])):FO s l=Y (!gp (TI s l) 0 s.p.ca.length):=by
 unfold FO;rw[BT (TI s l) T]
 .cases gp (TI s l) 0 s.p.ca.length<;>rfl
 .intro i d e _;have he:=hf.ends _ (AG (l:=s.p.ca) d e);rw[AD d e,bs];unfold TI;by_cases j:(AA s.p.ca i).fd<l.length
  .by_cases hT:(AA s.p.ca i).To<l.length
   .rw[aE an,BR (λk=>(Ak k.toNat).any (Tn s l i)) U l?,bs,A_,decide_eq_true j,decide_eq_true hT]
    .grind
    .intro k h m;rw[AD h m,bs,Fd h,C_];have o:Tn s l i k=(decide ((AA s.p.ca i).fa=(AA s.g.ca k).fa)&&decide ((AA s.g.ca k).fd=AA l (AA s.p.ca i).fd)&&decide ((AA s.g.ca k).To=AA l (AA s.p.ca i).To)):=by
      unfold Tn;rw[w_];simp[ml];generalize AA s.g.ca k=x;obtain⟨x1,q,r⟩:=x;simp;constructor
      .rintro⟨a,b,c⟩;exact⟨⟨a.symm,b⟩,c⟩
      .rintro⟨⟨a,b⟩,c⟩;exact⟨a.symm,b,c⟩
     rw [AD he.1 j,AD he.2.2.1 hT];simp only[C',C!,y!,bs];rw[o];generalize (Ak k.toNat).any (Tn s l i)=c1;generalize decide ((AA s.p.ca i).fa=(AA s.g.ca k).fa)=c3;generalize decide ((AA s.g.ca k).fd=AA l (AA s.p.ca i).fd)=c4;generalize decide ((AA s.g.ca k).To=AA l (AA s.p.ca i).To)=c5;cases c1<;>cases c3<;>cases c4<;>cases c5<;>rfl
   grind
  grind
theorem wD(hf:M8 (IK s [] []))(h:gp (TI s l) 0 s.p.ca.length=X):∃i,iQ (IK s l []) i:=by
 rw [C3]at h;obtain⟨i,d,j,h⟩:=h;unfold TI at h;rw[gN,gN,ml,ml,y?,List.any_eq_false]at h;have he:=hf.ends _ (AG (l:=s.p.ca) d j);refine⟨i,d,j,he.1,h.1.1,he.2.2.1,h.1.2,λk m o=>?_⟩;have:=h.2 k (CB.2 ⟨m,o⟩);have e:Tn s l i k=T:=by rw[<-w!];exact this
 rw [Wv];show((decide (AA s.eo.ca i<0)||decide (AA s.eo.ca i=k))&&Tn s l i k)=T;rw[e,y_]
end Go.Sf.Sc
namespace Go.Sf.Sc
open Go Go.Sf
theorem bN:∀(n:Nat)(f:AM)(o:List cE),Gm n (Tf f o)=Gm n f
 |0,f,o=>Q7 _ f o|n+1,f,o=>by
  rw [Gm,Gm];refine congrArg (λF=>(Ak f.g.bq.length).flatMap F) (funext λk=>?_);have:=bN n {f with d6:=f.d6++[k]} o
  grind [UW,Gm,Tf]
theorem aC:∀(n:Nat)(s:Am)(l:Fp),D7 s.t->M8 (IK s [] [])->W9 s->l.length+n=s.p.bq.length->∀m,n+1<=m->CP m s l=Y (CU s (Gm n (IK s l [])))
 |n,s,l,P,hf,r,K,m,z=>by
  obtain ⟨m,rfl⟩:∃k,m=k+1:=⟨m-1,U⟩;have M:=hf.small;have Z:s.p.bq.length<=1000:=M.1;have s3:s.g.bq.length<=1000:=M.2.2.1;have h0:=r.m0;have h1:=r.m1;have h2:=r.out;rw[CP];by_cases E:(s.x6.length:Int)=s.kp+1
  .grind[YB]
  rw [aE an,wG hf];cases hd:gp (TI s l) 0 s.p.ca.length
  case true=>
   grind [wD,be,IK,Pz]
  simp only[bs,Bool.not_false,w?,x_,if_false]
  match n,K,z with
  |0,K,z=>
   rw [QQ an,Option.bind_fun_some,Gm];exact EG (s.p.ca.length+1) λm z=>aB s.p.ca.length s l [] hf r U V m U
  |n+1,K,z=>
   have w:(l.length:Int)<s.p.bq.length:=U
   have o:(0:Int)<=l.length:=U
   have G:(l.length:Int)<s.eo.bq.length:=by
    have:s.eo.bq.length=s.p.bq.length:=hf.pn;omega
   have Q:(KD s.t).length=s.t.bq.length:=by unfold KD;rw[az,Az]
   have d:=hf.kinds _ (AG (l:=s.p.bq) o w);have H:AA s.p.bq l.length<s.t.bq.length:=by rw[<-Q];exact d.2.1
   have j:AA (KD s.t) (AA s.p.bq l.length)=OF s.t (AA s.p.bq l.length):=GH (OF s.t) d.1 H;rw[aE an];rw[OX (λi=>CU s ((Ak i.toNat).flatMap λk=>if UW (IK s l []) k=X then Gm n (IK s (l++[k]) [])else[])) (a:=0) (b:=(s.g.bq.length:Int)) (s:=s) U (Pz r).symm (λi B C=>by
    have R:∀F,CU s ((Ak (i+1).toNat).flatMap F)=CU (CU s ((Ak i.toNat).flatMap F)) (F i):=by
     intro F;rw[WK,Fd B,List.flatMap_append];simp
    rw [R];generalize (Ak i.toNat).flatMap (λk=>if UW (IK s l []) k=true then Gm n (IK s (l++[k]) [])else[])=L;have N:=YC r L;rw[QQ (by rw[ml];exact C)];have q:=d.2.2 _ (AG (l:=s.g.bq) B C);have y:AA s.g.bq i<s.t.bq.length:=by
     have h:=q.2;have e:AA (IK s [] []).is (AA s.p.bq l.length)=OF s.t (AA s.p.bq l.length):=j;rw[e]at h;unfold OF at h
     rwa [az,Az]at h
    have I:Hl (CU s L).t (AA s.g.bq i) (AA s.p.bq l.length)=some (x9 s.t (AA s.g.bq i) (AA s.p.bq l.length)):=Vx P q.1 y d.1;have S:idx (CU s L).g.bq i=some (AA s.g.bq i):=AD B C;have θ:idx (CU s L).eo.bq (l.length:Int)=some (AA s.eo.bq l.length):=AD o G;have ε:C1 (CU s L) l i=some (s.ei&&l.any λx=>decide (i=x)):=mT (CU s L) U i;have κ:idx (CU s L).p.bq (l.length:Int)=some (AA s.p.bq l.length):=AD o w;have key:((Al [] l).bind λD=>
      (Al D [i]).bind λu=>
      (CP m (CU s L) u).bind λv=>
      some (.next (v,Ag (i+1)):B3 (Am×Int) Am))=some (.next (CU (CU s L) (Gm n (IK s (l++[i]) [])),i+1)):=by
     have O:=aC n (CU s L) (l++[i]) P ⟨hf.pn,hf.pe,hf.ends,hf.kinds,hf.small⟩ N (by show(l++[i]).length+n=s.p.bq.length;rw[a5];simp;omega) m U;have η:Gm n (IK (CU s L) (l++[i]) [])=Gm n (IK s (l++[i]) []):=bN n (IK s (l++[i]) []) _;rw[η]at O;rw[BO a?,bs,AU a!,bs,O,bs,Ar U U]
    rw [θ,bs,ε,S,κ,key];simp only[bs];rw[I,Ar (n:=i+1) U U];simp only[bs];have J:UW (IK s l []) i=((decide (AA s.eo.bq l.length<0)||decide (AA s.eo.bq l.length=i))&&AA (AA (KD s.t) (AA s.p.bq l.length)) (AA s.g.bq i)&&!(s.ei&&l.any λx=>decide (i=x))):=rfl;have ζ:AA (AA (KD s.t) (AA s.p.bq l.length)) (AA s.g.bq i)=x9 s.t (AA s.g.bq i) (AA s.p.bq l.length):=by
     rw [j];exact GH (λk=>x9 s.t k (AA s.p.bq l.length)) q.1 y
    have δ:(decide (AA s.eo.bq l.length<0)||decide (AA s.eo.bq l.length=i))=!(decide (0<=AA s.eo.bq l.length)&&!decide (AA s.eo.bq l.length=i)):=by
     rw [Bool.not_and,Bool.not_not];congr 1;rw[<-decide_not];exact decide_eq_decide.2 U
    rw [J,ζ,δ];generalize Gm n (IK s (l++[i]) [])=A;generalize decide (0<=AA s.eo.bq l.length)=c1;generalize decide (AA s.eo.bq l.length=i)=c2;generalize x9 s.t (AA s.g.bq i) (AA s.p.bq l.length)=c3;generalize (s.ei&&l.any λx=>decide (i=x))=c6;cases c1<;>cases c2<;>cases c3<;>cases c6<;>first|rfl|(simp[Pz N];try rfl)) (by rw[aE (by simp[CU])]),Bj,A_,Gm]
   rfl
end Go.Sf.Sc
namespace Go.Sf.Sc
open Go Go.Sf
def FF(t:AC)(p g:ci)(pa:cE)(inj:Bool):AM:=⟨p,g,KD t,pa,inj,5001,[],[],[]⟩
def KQ(t:AC)(p g:ci)(pa:cE)(inj:Bool):List cE:=(Gm p.bq.length (FF t p g pa inj)).take 5001
variable{t:AC}{p g:ci}
theorem sa{pa:cE}{inj:Bool}(j:Ay t)(hv:(A8 t).2=0)(d:M8 (FF t p g pa inj)):LZ t p g pa inj 5001=Y (KQ t p g pa inj):=by
 unfold LZ;rw[rC j (CY hv) hv,bs];have h:=vh (f:=FF t p g pa inj) d ⟨by show(0:Int)<=5001;omega,by show(5001:Int)<=10000;omega,by show((0:Nat):Int)<=5001;omega⟩ rfl rfl;rw[kO _ _ d rfl]at h;have e:AM.mk p g (KD t) pa inj 5001 [] [] []=FF t p g pa inj:=rfl;rw[e,h];rfl
theorem rJ{pa:cE}{inj:Bool}(hv:(A8 t).2=0)(d:M8 (FF t p g pa inj)):NR t p g pa inj 5000=Y (KQ t p g pa inj):=by
 unfold NR;have h:JH ⟨t,p,g,pa,inj,5000,[]⟩ []=Y (CU ⟨t,p,g,pa,inj,5000,[]⟩ (Gm p.bq.length (FF t p g pa inj))):=
  EG (p.bq.length+1) λm e=>aC p.bq.length ⟨t,p,g,pa,inj,5000,[]⟩ [] (CY hv) d ⟨by show(0:Int)<=5000;omega,by show(5000:Int)<=9999;omega,by show((0:Nat):Int)<=5000+1;omega⟩ (by show 0+p.bq.length=p.bq.length;omega) m e
 rw [h];rfl
end Go.Sf.Sc
namespace Go.Sf.Sc
open Go Go.Sf
def WT(n k:Int):Bool:=decide (k< -1)||decide (n<=k)
def Rx(l:Fp)(n:Int):Int:=if l.any (WT n)=X then 6 else 0
theorem lm(l:Fp)(n:Int):Kn l n=Y (Rx l n):=by grind[Kn,Rx,Mv,WT,Uj]
variable{l:Fp}
theorem dK{c:Int}(n:Int)(h:(l.length:Int)=c):JW l c n=Y (Rx l n):=by
 unfold JW Rx;rw[aE (by simp[h]),BT (λi=>WT n (AA l i)) 6]
 .have e:gp (λi=>WT n (AA l i)) 0 l.length=l.any (WT n):=by
   rw [w_,C3,D_]
   grind [AG,A9]
  rw [e];cases l.any (WT n)<;>rfl
 grind [AD,WT,AA]
end Go.Sf.Sc
namespace Go.Sf.Sc
open Go Go.Sf
theorem cw(t:AC)(g:ci):IE t g=Y (CS t g):=by grind[IE,CS,K4,Uj,K5,fK]
def EF(t:AC)(p g:ci):Int:=if(A8 t).2≠0 then(A8 t).2 else if Bt p≠0 then Bt p else if Bt g≠0 then Bt g else if(CS t p&&CS t g)=X then 0 else 13
variable{t:AC}
theorem Yq(hf:Ay t)(p g:ci):Ht t p g=Y (EF t p g):=by
 unfold Ht EF;rw[Ov hf,bs];refine Di λ_=>?_;have o:Aj (ρ:=Int) (λ(m:Int)(_:Unit)=>
   (idx [p,g] m).bind λj=>
   (D2 j).bind λh=>
   if (!decide (h=0))=X then
   Y (.ret h)
   else
   Y (.next ())) 0 ([p,g].length:Int) ()=Y (if Bt p≠0 then .inr (Bt p)else if Bt g≠0 then .inr (Bt g)else .inl ()):=by
  show FR _ 2 0 ()=_;rw[Em,show idx [p,g] 0=Y p from rfl,bs,NN,bs];by_cases d:Bt p=0
  .rw[aE p!,aE p!];show FR _ 1 (0+1) ()=_;rw[Em,show idx [p,g] (0+1)=Y g from rfl,bs,NN,bs];by_cases e:Bt g=0
   .rw[aE c!,aE c!];rfl
   .rw[QQ c!,QQ e]
  .rw[QQ p!,QQ d]
 rw [o];by_cases d:Bt p=0
 .by_cases e:Bt g=0
  .simp[d,e,Bj];rw[cw,cw,bs];cases CS t p<;>cases CS t g<;>rfl
  .simp[d,e,not_false_eq_true,R6]
 .simp[d,not_false_eq_true,R6]
theorem Ti(hf:Ay t)(p g:ci):HO t p g=Y (EF t p g):=by
 unfold HO EF;rw[Sn hf,bs];refine Di λ_=>?_;rw[NO,bs];refine Di λd=>?_;rw[NO,bs];refine Di λe=>?_
 grind [Yx,DQ,CS]
end Go.Sf.Sc
namespace Go.Sf.Sc
open Go Go.Sf
variable{t:AC}{p g:ci}
theorem Yb{pa:cE}{inj:Bool}(h:EF t p g=0)(r:pa.bq.length=p.bq.length)(u:pa.ca.length=p.ca.length):(A8 t).2=0/\M8 (FF t p g pa inj):=by
 unfold EF at h;by_cases hv:(A8 t).2=0
 .rw[aE u?]at h;by_cases o:Bt p=0
  .rw[aE r?]at h;by_cases q:Bt g=0
   .rw[aE (by simp[q])]at h;by_cases d:(CS t p&&CS t g)=X
    .rw[gN]at d;have op:=DQ o;have m:=DQ q;have tp:=Ez op d.1;have v:=Ez m d.2;have w:(KD t).length=t.bq.length:=by unfold KD;rw[az,Az]
     refine ⟨hv,r,u,λe he=>?_,λn hn=>?_,Nat.le_trans op.d6 U,Nat.le_trans op.d7 U,Nat.le_trans m.d6 U,Nat.le_trans m.d7 U⟩
     .have:=op.fit e he;exact⟨this.2.1.1,this.2.1.2,this.2.2.1,this.2.2.2⟩
     .have:=tp.1 n hn;refine⟨this.1,by show n<((KD t).length:Int);rw[w];exact this.2,λk j=>?_⟩;have j:=v.1 k j;refine⟨j.1,?_⟩;show k<((AA (KD t) n).length:Int)
      grind [KD,GH,OF,az,Az]
    grind
   grind
  grind
 grind
def TL(t:AC)(p g:ci)(pa:cE)(inj:Bool):List cE×Int:=
 if EF t p g≠0 then([],EF t p g)else if¬(pa.bq.length=p.bq.length/\pa.ca.length=p.ca.length)then([],20)else
 if Rx pa.bq g.bq.length≠0 then([],Rx pa.bq g.bq.length)else if Rx pa.ca g.ca.length≠0 then([],Rx pa.ca g.ca.length)else
 if 5000<(KQ t p g pa inj).length then([],3)else(KQ t p g pa inj,0)
theorem oi(hf:Ay t)(p g:ci)(pa:cE)(inj:Bool):KX t p g pa inj=Y (TL t p g pa inj):=by
 unfold KX TL;rw[Yq hf,bs];refine Do λe=>?_;refine QG (by simp[y?,decide_eq_false_iff_not];omega) λd=>?_;have d:=z!.1 d;rw[lm,bs];refine Do λh=>?_;rw[lm,bs];refine Do λj=>?_
 grind [Yb,Qj,sa,KQ]
theorem o5(hf:Ay t)(p g:ci)(pa:cE)(inj:Bool):LP t p g pa inj=Y (TL t p g pa inj):=by
 unfold LP TL;rw[Ti hf,bs];refine Do λe=>?_;refine QG (by simp[y?,decide_eq_false_iff_not];omega) λd=>?_;have d:=z!.1 d;rw[dK _ U,bs];refine Do λh=>?_;rw[dK _ U,bs];refine Do λj=>?_
 grind [Yb,rJ,KQ]
def Ry(p:ci):cE:=⟨B! p.bq.length (-1),B! p.ca.length (-1)⟩
variable{n:Nat}{i:Int}
theorem dZ(d:0<=i)(e:i<n):BM (B! i.toNat (-1:Int)++B! (n-i.toNat) 0) i (-1)=B! (i+1).toNat (-1)++B! (n-(i+1).toNat) 0:=by
 unfold BM;rw[List.set_append_right _ _ V,show n-i.toNat=(n-(i+1).toNat)+1 by omega,List.replicate_succ,List.length_replicate,Nat.sub_self,List.set_cons_zero,show(i+1).toNat=i.toNat+1 by omega,List.replicate_succ',bk];rfl
theorem o9(j:p.bq.length<=100)(m:p.ca.length<=100):N6 p=Y (Ry p):=by
 unfold N6;have m1:GV (p.bq.length:Int) (0:Int)=Y (B! p.bq.length 0):=by unfold GV;rw[QQ U,A_]
 have h:GV (p.ca.length:Int) (0:Int)=Y (B! p.ca.length 0):=by unfold GV;rw[QQ U,A_]
 rw [m1,bs,h,bs];rw[OX (λi=>(⟨B! i.toNat (-1)++B! (p.bq.length-i.toNat) 0,B! p.ca.length 0⟩:cE)) (a:=0) (b:=p.bq.length) U V,Bj]
 .dsimp only;rw[OX (λi=>(⟨B! p.bq.length (-1),B! i.toNat (-1)++B! (p.ca.length-i.toNat) 0⟩:cE)) (a:=0) (b:=p.ca.length) U V,Bj]
  .simp[Ry]
  .intro i d e;dsimp only;rw[QQ an,AD d an,bs,dZ d e,Ar (n:=i+1) U U]
  .dsimp only;rw[aE V]
 .intro i d e;dsimp only;rw[QQ an,AD d an,bs,dZ d e,Ar (n:=i+1) U U]
 .dsimp only;rw[aE V]
end Go.Sf.Sc
