/- Plain lemmas: what the functions of the program and of the reference compute. -/
import Derived.Test.YtfcfkigfmofniaaGreatP1
import Derived.Test.YtfcfkigfmofniaaGreatEval
set_option linter.all false
set_option maxRecDepth 100000
open Option renaming some->Y
open Bool renaming true->X,false->T
open Bool renaming not_eq_false'->u!,not_true->u?,false_eq_true->v1,eq_iff_iff->v5,false_and->v6,and_self->v9,and_false->v_,or_false->v!,not_eq_true'->v?
open Int renaming le_refl->w_,toNat_natCast->w!
open List renaming take_of_length_le->w?,append_nil->x_,take_append_of_le_length->x!,flatMap_append->x?,take_left->y_,replicate->y!,ext_getElem->y?,any_append->z9,any_cons->z_,any_nil->z!,mem_filter->z?,any_eq_true->A_,flatMap_eq_nil_iff->A'
namespace Go.Sf.Sc
open Go Go.Sf
variable{t:eb}{c:d5}
theorem pB(hf:Ai t)(p:d7)(e:De c):DA t p c=Y (ID t p c):=by
 by_cases d:(As t).2=0
 .exact ig hf d p e
 .unfold DA ID;rw[W4 hf,bs];refine DN λh=>?_;exfalso;unfold EQ at h;rw[ae d]at h;exact d h
end Go.Sf.Sc
namespace Go.Sf.Sc
open Go Go.Sf
variable{α:Type}
theorem p9[Inhabited α](b:α->α->Bool){l m:List α}(j:∀x∈l,∀y∈m,(b x y=X↔x=y))(o:l.length=m.length):nd (λi=>!b (AA l i) (AA m i)) 0 l.length=T↔l=m:=by
 rw [Br];constructor
 .intro h;refine gm o (λi d e=>?_);have:=h i d e;rw[u!]at this;exact(j _ (AF d e) _ (AF d U)).1 this
 .rintro rfl i d e;rw[u!];exact(j _ (AF d e) _ (AF d e)).2 rfl
theorem oY[Inhabited α][DecidableEq α]{l m:List α}(r:l.length=m.length){k:Unit->K1}{j:Bool->K1}:ek (kl (ρ:=Bool) (λ(o:Int)(_:Unit)=>
 (idx l o).bind λd=>
 (idx m o).bind λe=>
 if (!decide (d=e))=X then
 Y (.ret T)
 else
 Y (.next ())) 0 (l.length:Int) ()) k j=if l=m then k ()else j T:=by
 rw [BT (λi=>!decide (AA l i=AA m i)) T]
 .have:=p9 (λx y:α=>decide (x=y)) (l:=l) (m:=m) (λ_ _ _ _=>decide_eq_true_iff) r;by_cases h:l=m
  .rw[this.2 h,ae h];rfl
  .rw[az h];cases v:nd (λi=>!decide (AA l i=AA m i)) 0 l.length
   .exact absurd (this.1 v) h
   .rfl
 .intro i q u _;rw[AC q u,bs,AC q U,bs,JF]
theorem Xc[Inhabited α][DecidableEq α](l m:List α):(if(!decide ((l.length:Int)=(m.length:Int)))=X then
 Y T
 else
 ek (kl (ρ:=Bool) (λ(q:Int)(_:Unit)=>
 (idx l q).bind λd=>
 (idx m q).bind λj=>
 if (!decide (d=j))=X then
 Y (.ret T)
 else
 Y (.next ())) 0 (l.length:Int) ()) (λ_=>
 Y X) (λr=>Y r))=Y (decide (l=m)):=by
 by_cases o:l.length=m.length
 .rw[az t?,oY o];by_cases h:l=m
  .rw[ae h,decide_eq_true h]
  .rw[az h,decide_eq_false h]
 .rw[ae an,decide_eq_false (λe=>o (by rw[e]))]
theorem nt(l m:Fp):slices_Equal_int l m=Y (decide (l=m)):=Xc l m
theorem dX(l m:Fp):G5 l m=Y (decide (l=m)):=Xc l m
theorem Xs(l m:Fp):G6 l m=Y (decide (l=m)):=Xc l m
end Go.Sf.Sc
namespace Go.Sf.Sc
open Go Go.Sf
mutual
def EN:d5->Nat
 |⟨_,kids,_,_⟩=>1+RY kids
def RY:List d5->Nat
 |[]=>0|k::l=>EN k+RY l
end
mutual
def xy:d5->Nat
 |⟨k,kids,_,_⟩=>(if k=5 then 1 else 0)+rM kids
def rM:List d5->Nat
 |[]=>0|k::l=>max (xy k) (rM l)
end
theorem Ty(c:d5):EN c=1+RY c.gl:=by cases c;rfl
variable{k:Int}
theorem oX{l:List d5}(d:0<=k)(e:k<l.length):l.drop k.toNat=AA l k::l.drop (k+1).toNat:=by
 rw [show(k+1).toNat=k.toNat+1 by omega,List.drop_eq_getElem_cons U];unfold AA;rw[List.getD_eq_getElem?_getD,List.getElem?_eq_getElem U];rfl
theorem YE:∀(N:Nat)(c:d5),SizeOf.sizeOf c<=N->(AI c).Sm->∀tc:Int,0<=tc->tc<=1000->∃r,(∀n,N<=n->Cc n c tc=Y r)/\-1<=r/\r<=tc-1/\(0<=r->De c/\(EN c:Int)+r<=tc)
 |0,c,h,_,_,_,_=>by have:=DP c;omega|N+1,c,h,κ,tc,m0,m1=>by
  obtain ⟨L,M,D⟩:=ct κ;obtain⟨O,z,P⟩:=Rw c.d7;obtain⟨Q,F,R⟩:=Xf L;have step:∀n,N+1<=n->∃m,n=m+1/\N<=m:=λn d=>⟨n-1,U,U⟩;cases O
  .refine⟨-1,λn d=>?_,U,U,λh=>U⟩;obtain⟨n,rfl,_⟩:=step n d;rw[Cc,z];rfl
  cases Q
  .refine⟨-1,λn d=>?_,U,U,λh=>U⟩;obtain⟨n,rfl,_⟩:=step n d;rw[Cc,z,bs,F];rfl
  have loop:∀(m:Nat)(k left:Int),0<=k->k+m=c.gl.length->-1<=left->left<=1000->∃e w,(∀n,N<=n->Ks (ρ:=Int) (λ(q:Int×Int)=>
    if ((decide (q.2<(c.gl.length:Int)))&&(decide (0<=q.1)))=X then
    (idx c.gl q.2).bind λA=>
    (Cc n A q.1).bind λB=>
    Y (.next (B,AH (q.2+1)))
    else
    Y (.brk (q.1,q.2))) (left,k) (.inl (e,w)))/\-1<=e/\e<=left/\(0<=e->(∀j,k<=j->j<c.gl.length->De (AA c.gl j))/\(RY (c.gl.drop k.toNat):Int)+e<=left):=by
   intro m
   induction m with
   |zero=>
    intro k left y I E l1;refine⟨left,k,λn d=>.brk ?_,E,U,λ_=>⟨λj C x=>U,?_⟩⟩
    .rw[az an]
    .rw[List.drop_of_length_le U,RY];omega
   |succ m ε=>
    intro k left y I E l1;by_cases J:0<=left
    .have o:=AF (l:=c.gl) y U;have:=EE o;obtain⟨r,S,θ,η,H⟩:=YE N _ U (D _ o) left J l1;obtain⟨e,w,a1,a2,a3,v⟩:=ε (k+1) r U U θ U;refine⟨e,w,λn d=>.next (s':=(r,k+1)) ?_ (a1 n d),a2,U,λu=>⟨λj C x=>?_,?_⟩⟩
     .rw[ae an,AC y U,bs,S n d,bs,AV U U]
     .by_cases K:j=k
      .subst K;exact(H U).1
      .exact(v u).1 j U x
     .have z:=(H U).2;have F:=(v u).2;rw[oX y U,RY];omega
    .refine⟨left,k,λn d=>.brk ?_,E,U,λh=>U⟩;rw[az an]
  obtain ⟨e,w,a1,a2,a3,v⟩:=loop c.gl.length 0 (tc-1) U U U U;refine⟨e,λn d=>?_,a2,a3,λu=>⟨.mk c (P rfl) (R rfl) (λk D=>?_),?_⟩⟩
  .obtain⟨n,rfl,G⟩:=step n d;rw[Cc,z,bs,F];simp only[bs,u?,v1,if_false];rw[AV (n:=tc-1) U U,(a1 n G).eq,Bc]
  .obtain⟨j,C,x,rfl⟩:=BR D;exact(v u).1 j C x
  .have:=(v u).2;rw[show(0:Int).toNat=0 from rfl,List.drop_zero]at this;rw[Ty];omega
variable{c:d5}
theorem iA(d:(AI c).Sm):∃b,JY c=Y b/\(b=X->De c/\EN c<=40):=by
 obtain ⟨r,j,_,_,m⟩:=YE (SizeOf.sizeOf c) c (b6 _) d 40 U U;have e:QJ c 40=Y r:=D3 (SizeOf.sizeOf c) j;unfold JY;rw[e];exact⟨_,rfl,λh=>by have:=m c_;exact⟨this.1,by have:=this.2;simp at h;omega⟩⟩
theorem Ve:∀{l:List d5}{k:d5},k∈l->EN k<=RY l
 |x::l,k,h=>by
  rw [RY];rcases List.mem_cons.1 h with rfl|h
  .omega
  .have:=Ve h;omega
end Go.Sf.Sc
namespace Go.Sf.Sc
open Go Go.Sf
class PL(α:Type)where
 at_:α->Int->Int
 ok:α->Nat->Prop
instance:PL Fp:=⟨AA,λl n=>l.length=n⟩
instance:PL (Option Fp):=⟨λo i=>match o with|none=>-1|some l=>AA l i,λo n=>match o with|none=>True|some l=>l.length=n⟩
structure M2(f:AM):Prop where
 pn:PL.ok f.gp.ca f.p.ca.length
 pe:PL.ok f.gp.ci f.p.ci.length
 ends:∀e∈f.p.ci,0≤e.kq/\e.kq<f.p.ca.length/\0≤e.To/\e.To<f.p.ca.length
 kinds:∀n∈f.p.ca,0<=n/\n<f.is.length/\∀t∈f.g.ca,0<=t/\t<(AA f.is n).length
 small:f.p.ca.length<=1000/\f.p.ci.length<=1000/\f.g.ca.length<=1000/\f.g.ci.length<=1000
def Ko(f:AM)(i k:Int):Bool:=
 (decide (PL.at_ f.gp.ci i<0)||decide (PL.at_ f.gp.ci i=k))&&decide (AA f.g.ci k=⟨(AA f.p.ci i).kp,AA f.ea (AA f.p.ci i).kq,AA f.ea (AA f.p.ci i).To⟩)
variable{α:Type}
theorem iW{l:List α}(h:l≠[]):Xl l=Y ():=by grind[Xl]
variable{l:Fp}{i:Int}
theorem Wd(e:0<=i)(d:i<l.length):((Xl l).bind λ_=>(idx l i).bind λx=>Y x)=Y (AA l i):=by
 rw [iW (by intro h;subst h;simp at d;omega),bs,AC e d,bs]
variable{n:Nat}
theorem aK:∀{l},PL.ok l n->0<=i->i<n->JR l i=Y (PL.at_ l i):=by
 intro l h d e
 first
  |(cases l with
    |none=>rfl|some l=>exact Wd d (by have:l.length=n:=h;omega))
  |exact Wd d (by have:l.length=n:=h;omega)
variable{f:AM}{k:Int}
theorem iw(hf:M2 f)(d:0<=i)(e:i<f.p.ci.length)(h:0<=k)(j:k<f.g.ci.length)(m:(AA f.p.ci i).kq<f.ea.length)(hT:(AA f.p.ci i).To<f.ea.length):Df f i k=Y (Ko f i k):=by
 have he:=hf.ends _ (AF d e);unfold Df Ko;rw[AC d e,bs,aK hf.pe d e,bs,AC h j,bs,AC he.1 m,bs,AC he.2.2.1 hT,bs]
 grind
def Og(f:AM):Bool:=!nd (λi=>decide (max (AA f.p.ci i).kq (AA f.p.ci i).To=(f.ea.length:Int)-1)&&!nd (λk=>Ko f i k) 0 f.g.ci.length) 0 f.p.ci.length
variable{b:Int}
theorem oN{f:Int->Bool->Option (Be Bool Bool)}(p:Int->Bool)(h:∀i,0<=i->i<b->f i T=Y (if p i=X then .brk X else .next T)):kl f 0 b T=Y (.inl (nd p 0 b)):=by
 have key:∀(m:Nat)(i:Int),0<=i->i+m=b->yf f m i T=Y (.inl (nd p i b)):=by
  intro m
  induction m with
  |zero=>
   intro i d hi;have:nd p i b=T:=by rw[Br];intro j q r;omega
   rw [this];rfl
  |succ m v=>
   intro i d hi;rw[EW,h i d U];by_cases o:p i=X
   .have:nd p i b=X:=by rw[CN];exact⟨i,w_ _,U,o⟩
    rw [ae o,this]
   .have e:nd p i b=nd p (i+1) b:=by
     rw [v5,CN,CN]
     grind
    grind
 unfold kl;by_cases u:0<=b
 .grind
 .have:nd p 0 b=T:=by rw[Br];intro j q r;omega
  rw [this,show(b-0).toNat=0 by omega];rfl
theorem fZ(hf:M2 f)(q:0<f.ea.length)(j:f.ea.length<=1000):B5 f=Y (Og f):=by
 unfold B5 Og;rw[BT (λi=>decide (max (AA f.p.ci i).kq (AA f.p.ci i).To=(f.ea.length:Int)-1)&&!nd (λk=>Ko f i k) 0 f.g.ci.length) T]
 .generalize nd (λi=>decide (max (AA f.p.ci i).kq (AA f.p.ci i).To=(f.ea.length:Int)-1)&&!nd (λk=>Ko f i k) 0 f.g.ci.length) 0 f.p.ci.length=b;cases b<;>rfl
 .intro i d e _;rw[AC d e,bs,AV (n:=(f.ea.length:Int)-1) U U];by_cases h:max (AA f.p.ci i).kq (AA f.p.ci i).To=(f.ea.length:Int)-1
  .rw[az (by simp[h]),oN (λk=>Ko f i k) (λk m o=>by
    rw [iw hf d e m o U U,bs,JF])]
   generalize nd (λk=>Ko f i k) 0 f.g.ci.length=b;rw[decide_eq_true h];cases b<;>rfl
  grind
def Ag(n:Nat):Fp:=(List.range n).map Int.ofNat
theorem Ul(n:Nat):Ag (n+1)=Ag n++[(n:Int)]:=by grind[Ag,List.range_succ]
def TG(f:AM)(k:Int):Bool:=(decide (PL.at_ f.gp.ca f.ea.length<0)||decide (PL.at_ f.gp.ca f.ea.length=k))&&AA (AA f.is (AA f.p.ca f.ea.length)) (AA f.g.ca k)&&!(f.f0&&f.ea.any λx=>decide (k=x))
def TF(f:AM)(k:Int):Bool:=Ko f f.ec.length k&&!(f.f0&&f.ec.any λx=>decide (k=x))
def EM:Nat->AM->List d4
 |0,f=>[⟨f.ea,f.ec⟩]|n+1,f=>(Ag f.g.ci.length).flatMap λk=>if TF f k=X then EM n {f with ec:=f.ec++[k]}else[]
def Jd:Nat->AM->List d4
 |0,f=>EM f.p.ci.length f|n+1,f=>(Ag f.g.ca.length).flatMap λk=>if(TG f k&&Og {f with ea:=f.ea++[k]})=X then Jd n {f with ea:=f.ea++[k]}else[]
theorem Y8(a b:List α)(m:Nat):((a.take m)++b).take m=(a++b).take m:=by
 by_cases h:a.length<=m
 .rw[w? h]
 grind
end Go.Sf.Sc
namespace Go.Sf.Sc
open Go Go.Sf
def Sn(f:AM)(o:List d4):AM:={f with out:=o}
variable{f:AM}
theorem M2.out(h:M2 f)(o:List d4):M2 (Sn f o):=⟨h.pn,h.pe,h.ends,h.kinds,h.small⟩
theorem Qc:∀(n:Nat)(f:AM)(o:List d4),EM n (Sn f o)=EM n f
 |0,_,_=>rfl|n+1,f,o=>by
  rw [EM,EM];refine congrArg (λF=>(Ag f.g.ci.length).flatMap F) (funext λk=>?_);have:=Qc n {f with ec:=f.ec++[k]} o;show(if TF f k=X then EM n (Sn {f with ec:=f.ec++[k]} o)else[])=_;rw[this]
theorem Zl:∀(n:Nat)(f:AM)(o:List d4),Jd n (Sn f o)=Jd n f
 |0,f,o=>Qc _ f o|n+1,f,o=>by
  rw [Jd,Jd];refine congrArg (λF=>(Ag f.g.ca.length).flatMap F) (funext λk=>?_);have:=Zl n {f with ea:=f.ea++[k]} o;show(if(TG f k&&Og {f with ea:=f.ea++[k]})=X then Jd n (Sn {f with ea:=f.ea++[k]} o)else[])=_;rw[this]
def A5(f:AM)(l:List d4):AM:=Sn f ((f.out++l).take f.tc.toNat)
structure XS(f:AM):Prop where
 m0:0<=f.tc
 m1:f.tc<=10000
 out:(f.out.length:Int)<=f.tc
theorem Ky(h:XS f):A5 f []=f:=by
 unfold A5;rw[x_,w? (by have:=h.out;have:=h.m0;omega)];rfl
theorem YQ(h:(f.out.length:Int)=f.tc)(l:List d4):A5 f l=f:=by
 unfold A5;rw[x! U,w? U];rfl
theorem YS(h:XS f)(l:List d4):XS (A5 f l):=by
 refine ⟨h.m0,h.m1,?_⟩;have:=h.m0;show(((f.out++l).take f.tc.toNat).length:Int)<=f.tc
 grind
theorem YR(f:AM)(a b:List d4):A5 (A5 f a) b=A5 f (a++b):=by
 show Sn f ((((f.out++a).take f.tc.toNat)++b).take f.tc.toNat)=_;rw[Y8,c9];rfl
theorem WV:∀(n:Nat)(f:AM),M2 f->XS f->f.ea.length=f.p.ca.length->f.ec.length+n=f.p.ci.length->∀m,n+1<=m->Aw m f=Y (A5 f (EM n f))
 |n,f,hf,u,M,he,m,y=>by
  obtain ⟨m,rfl⟩:∃k,m=k+1:=⟨m-1,U⟩;have N:=hf.small;have O:=u.m0;have P:=u.m1;have Q:=u.out;rw[Aw];by_cases e:(f.out.length:Int)=f.tc
  .grind[YQ]
  rw [az h_,az an]
  match n,he,y with
  |0,he,y=>
   rw [az an];unfold slices_Clone_int;rw[Ap a_,bs,Ap a_,bs,AQ a9,bs,bs];unfold A5;rw[w? (by simp[EM];omega)];rfl
  |n+1,he,y=>
   rw [ae an];have F:∀k,TF f k=X->M2 {f with ec:=f.ec++[k]}:=λk _=>⟨hf.pn,hf.pe,hf.ends,hf.kinds,hf.small⟩;rw[BY (a:=0) (s:=f) (λi=>A5 f ((Ag i.toNat).flatMap λk=>if TF f k=X then EM n {f with ec:=f.ec++[k]}else[])) U (Ky u)]
   .grind[w!,EM]
   .intro i C D;have E:Ag (i+1).toNat=Ag i.toNat++[i]:=by
     rw [show(i+1).toNat=i.toNat+1 by omega,Ul];rw[show((i.toNat:Nat):Int)=i by omega]
    have G:∀l,A5 f ((Ag (i+1).toNat).flatMap l)=A5 (A5 f ((Ag i.toNat).flatMap l)) (l i):=by
     intro l;rw[YR,E,x?];simp
    rw [G];generalize (Ag i.toNat).flatMap (λk=>if TF f k=X then EM n {f with ec:=f.ec++[k]}else[])=L;have o:=YS u L;have v:M2 (A5 f L):=hf.out _;have z:=hf.ends _ (AF (l:=f.p.ci) (i:=(f.ec.length:Int)) U U);rw[iw v (i:=(f.ec.length:Int)) (k:=i) U (by show _<(f.p.ci.length:Int);omega) C (by exact D) (by show(AA f.p.ci f.ec.length).kq<(f.ea.length:Int);omega) (by show(AA f.p.ci f.ec.length).To<(f.ea.length:Int);omega),bs];have H:slices_Contains_int (A5 f L).ec i=Y (f.ec.any λx=>decide (i=x)):=L7 f.ec i;rw[H];have q:Ko (A5 f L) f.ec.length i=Ko f f.ec.length i:=rfl;have key:((AT (A5 f L).ec [i]).bind λh=>
      (Aw m (AM.mk (A5 f L).p (A5 f L).g (A5 f L).is (A5 f L).gp (A5 f L).f0 (A5 f L).tc (A5 f L).ea h (A5 f L).out)).bind λd=>
      (zq d.ec 0 (f.ec.length:Int)).bind λj=>
      Y (AM.mk d.p d.g d.is d.gp d.f0 d.tc d.ea j d.out))=Y (A5 (A5 f L) (EM n {f with ec:=f.ec++[i]})):=by
     have I:AT (A5 f L).ec [i]=Y (f.ec++[i]):=AQ (by show f.ec.length+1<=AU;unfold AU;omega);have B:=WV n {A5 f L with ec:=f.ec++[i]} ⟨hf.pn,hf.pe,hf.ends,hf.kinds,hf.small⟩ ⟨o.m0,o.m1,o.out⟩ M (by show(f.ec++[i]).length+n=f.p.ci.length;simp;omega) m U;have J:EM n {A5 f L with ec:=f.ec++[i]}=EM n {f with ec:=f.ec++[i]}:=Qc n {f with ec:=f.ec++[i]} _;rw[J]at B;rw[I,bs];show(Aw m {A5 f L with ec:=f.ec++[i]}).bind _=_;rw[B,bs];have K:zq (A5 {A5 f L with ec:=f.ec++[i]} (EM n {f with ec:=f.ec++[i]})).ec 0 (f.ec.length:Int)=Y f.ec:=by
      show zq (f.ec++[i]) 0 (f.ec.length:Int)=_;rw[DV U (by rw[bk];omega),w!,y_]
     rw [K];rfl
    rw [key,q];have w:TF f i=(Ko f f.ec.length i&&!(f.f0&&f.ec.any λx=>decide (i=x))):=rfl;have r:(A5 f L).f0=f.f0:=rfl;rw[w,r];generalize R:EM n {f with ec:=f.ec++[i]}=A;cases Ko f f.ec.length i
    .simp only[v6,v1,if_false,Ky o];rfl
    .cases f.f0
     .rfl
     .cases f.ec.any λx=>decide (i=x)
      .rfl
      .simp only[v9,u?,v_,v1,if_false,Ky o];rfl
end Go.Sf.Sc
namespace Go.Sf.Sc
open Go Go.Sf
theorem WW:∀(n:Nat)(f:AM),M2 f->XS f->f.ec=[]->f.ea.length+n=f.p.ca.length->∀m,n+f.p.ci.length+1<=m->Aw m f=Y (A5 f (Jd n f))
 |0,f,hf,r,he,R,m,S=>by
  grind [Jd,WV]
 |n+1,f,hf,r,he,R,m,S=>by
  obtain ⟨m,rfl⟩:∃k,m=k+1:=⟨m-1,U⟩;have θ:=hf.small;have ε:=r.m0;have κ:=r.m1;have η:=r.out;rw[Aw];by_cases j:(f.out.length:Int)=f.tc
  .grind[YQ]
  rw [az d?,ae an];rw[BY (a:=0) (s:=f) (λi=>A5 f ((Ag i.toNat).flatMap λk=>if(TG f k&&Og {f with ea:=f.ea++[k]})=X then Jd n {f with ea:=f.ea++[k]}else[])) U (Ky r)]
  .grind[w!,Jd]
  .intro i B C;have F:Ag (i+1).toNat=Ag i.toNat++[i]:=by
    rw [show(i+1).toNat=i.toNat+1 by omega,Ul];rw[show((i.toNat:Nat):Int)=i by omega]
   have G:∀l,A5 f ((Ag (i+1).toNat).flatMap l)=A5 (A5 f ((Ag i.toNat).flatMap l)) (l i):=by
    intro l;rw[YR,F,x?];simp
   rw [G];generalize (Ag i.toNat).flatMap (λk=>if(TG f k&&Og {f with ea:=f.ea++[k]})=X then Jd n {f with ea:=f.ea++[k]}else[])=L;have o:=YS r L;have v:(f.ea.length:Int)<(f.p.ca.length:Int):=U
   have q:=hf.kinds _ (AF (l:=f.p.ca) (i:=(f.ea.length:Int)) U v);have w:=q.2.2 _ (AF B C);have key:((AT (A5 f L).ea [i]).bind λe=>
     (B5 (AM.mk (A5 f L).p (A5 f L).g (A5 f L).is (A5 f L).gp (A5 f L).f0 (A5 f L).tc e (A5 f L).ec (A5 f L).out)).bind λu=>
     if u=X then
     (Aw m (AM.mk (A5 f L).p (A5 f L).g (A5 f L).is (A5 f L).gp (A5 f L).f0 (A5 f L).tc e (A5 f L).ec (A5 f L).out)).bind λd=>
     (zq d.ea 0 (f.ea.length:Int)).bind λh=>
     Y (AM.mk d.p d.g d.is d.gp d.f0 d.tc h d.ec d.out)
     else
     (zq e 0 (f.ea.length:Int)).bind λh=>
     Y (AM.mk (A5 f L).p (A5 f L).g (A5 f L).is (A5 f L).gp (A5 f L).f0 (A5 f L).tc h (A5 f L).ec (A5 f L).out))=Y (A5 (A5 f L) (if Og {f with ea:=f.ea++[i]}=X then Jd n {f with ea:=f.ea++[i]}else[])):=by
    have H:AT (A5 f L).ea [i]=Y (f.ea++[i]):=AQ (by show f.ea.length+1<=AU;unfold AU;omega);have D:zq (f.ea++[i]) 0 (f.ea.length:Int)=Y f.ea:=by
     rw [DV U (by rw[bk];omega),w!,y_]
    have I:B5 {A5 f L with ea:=f.ea++[i]}=Y (Og {f with ea:=f.ea++[i]}):=fZ (f:={A5 f L with ea:=f.ea++[i]}) ⟨hf.pn,hf.pe,hf.ends,hf.kinds,hf.small⟩ (by show 0<(f.ea++[i]).length;simp) (by show(f.ea++[i]).length<=1000;rw[bk];simp;omega);have E:=WW n {A5 f L with ea:=f.ea++[i]} ⟨hf.pn,hf.pe,hf.ends,hf.kinds,hf.small⟩ ⟨o.m0,o.m1,o.out⟩ he (by show(f.ea++[i]).length+n=f.p.ca.length;rw[bk];simp;omega) m (by show n+f.p.ci.length+1<=m;omega);have J:Jd n {A5 f L with ea:=f.ea++[i]}=Jd n {f with ea:=f.ea++[i]}:=Zl n {f with ea:=f.ea++[i]} _;rw[J]at E;rw[H,bs];show(B5 {A5 f L with ea:=f.ea++[i]}).bind _=_;rw[I,bs];cases Og {f with ea:=f.ea++[i]}
    .rw[az a?,az a?,D,Ky o];rfl
    .rw[ae rfl,ae rfl];show(Aw m {A5 f L with ea:=f.ea++[i]}).bind _=_;rw[E,bs];have K:zq (A5 {A5 f L with ea:=f.ea++[i]} (Jd n {f with ea:=f.ea++[i]})).ea 0 (f.ea.length:Int)=Y f.ea:=D;rw[K];rfl
   have M:JR (A5 f L).gp.ca (f.ea.length:Int)=Y (PL.at_ f.gp.ca f.ea.length):=aK (n:=f.p.ca.length) hf.pn U U;have N:idx (A5 f L).p.ca (f.ea.length:Int)=Y (AA f.p.ca f.ea.length):=AC U v;have hi:idx (A5 f L).is (AA f.p.ca f.ea.length)=Y (AA f.is (AA f.p.ca f.ea.length)):=AC q.1 q.2.1;have O:idx (AA f.is (AA f.p.ca f.ea.length)) (AA f.g.ca i)=Y (AA (AA f.is (AA f.p.ca f.ea.length)) (AA f.g.ca i)):=AC w.1 w.2;have P:slices_Contains_int (A5 f L).ea i=Y (f.ea.any λx=>decide (i=x)):=L7 f.ea i;have y:(A5 f L).f0=f.f0:=rfl;have z:TG f i=((decide (PL.at_ f.gp.ca f.ea.length<0)||decide (PL.at_ f.gp.ca f.ea.length=i))&&AA (AA f.is (AA f.p.ca f.ea.length)) (AA f.g.ca i)&&!(f.f0&&f.ea.any λx=>decide (i=x))):=rfl;rw[AC B C,bs,M,bs,N,bs,hi,bs,O,bs,P,key,y,z];generalize AA (AA f.is (AA f.p.ca f.ea.length)) (AA f.g.ca i)=c2;have Q:(decide (0<=PL.at_ f.gp.ca f.ea.length)&&!decide (PL.at_ f.gp.ca f.ea.length=i))=!(decide (PL.at_ f.gp.ca f.ea.length<0)||decide (PL.at_ f.gp.ca f.ea.length=i)):=by
    rw [Bool.not_or];congr 1;rw[<-decide_not];exact decide_eq_decide.2 U
   rw [Q];generalize (decide (PL.at_ f.gp.ca f.ea.length<0)||decide (PL.at_ f.gp.ca f.ea.length=i))=c1;generalize Og {f with ea:=f.ea++[i]}=c5;generalize Jd n {f with ea:=f.ea++[i]}=A;cases c1
   .simp only[v6,v1,if_false,Ky o];rfl
   .cases c2
    .simp only[v_,v6,v1,if_false,Ky o];rfl
    .cases f.f0
     .rfl
     .cases f.ea.any λx=>decide (i=x)
      .rfl
      .simp only[v9,u?,v_,v6,v1,if_false,Ky o];rfl
variable{f:AM}
theorem r9(hf:M2 f)(d:XS f)(he:f.ec=[])(e:f.ea=[]):GL f=Y (A5 f (Jd f.p.ca.length f)):=
 D3 (f.p.ca.length+f.p.ci.length+1) λm h=>WW _ f hf d he (by rw[e];simp) m h
end Go.Sf.Sc
namespace Go.Sf.Sc
open Go Go.Sf
theorem Aq(n:Nat):(Ag n).length=n:=by simp[Ag]
variable{n:Nat}{i:Int}
theorem DW:i∈Ag n↔0<=i/\i<n:=by
 unfold Ag;rw[List.mem_map];constructor
 .grind
 .rintro⟨d,e⟩;exact⟨i.toNat,List.mem_range.2 U,by show((i.toNat:Nat):Int)=i;omega⟩
variable{α:Type}
theorem HC[Inhabited α](F:Int->α)(d:0<=i)(e:i<n):AA ((Ag n).map F) i=F i:=by
 unfold AA Ag
 grind
theorem D2(d:0<=i):Ag (i+1).toNat=Ag i.toNat++[i]:=by
 rw [show(i+1).toNat=i.toNat+1 by omega,Ul,show((i.toNat:Nat):Int)=i by omega]
def OF(t:eb)(a:Int):a6:=(Ag t.ca.length).map λk=>Ho t k a
def Ju(t:eb):List a6:=(Ag t.ca.length).map (OF t)
variable{t:eb}{a:Int}
theorem o8(hf:Ai t)(h:Fm t)(hv:(As t).2=0)(a0:0<=a)(a1:a<t.ca.length):It t a=Y ((Ag t.ca.length).filter λi=>Ho t i a,0):=by
 have e:=h.ea;unfold It;have d:Kf t a=X:=by simp[Kf,a0,a1]
 rw [Xp hf,bs,az (by simp[hv,d])];rw[BY (λi=>(Ag i.toNat).filter λi=>Ho t i a) U r!,bs,w!]
 grind [lW,D2,Ag,Ho,List.length_filter_le,Aq,AQ,AU]
variable{l:Fp}
theorem qA(r:∀x∈l,0<=x/\x<n):ns (λ(u:Int)(s2:a6)=>
  (idx l u).bind λd=>
  (idx s2 d).bind λ_=>
  Y (Av s2 d X)) 0 (l.length:Int) (y! n T)=Y ((Ag n).map λk=>l.any λx=>decide (x=k)):=by
 rw [BY (λj=>(Ag n).map λk=>(l.take j.toNat).any λx=>decide (x=k)) U (by
  refine y? (by simp[Aq]) (λj m y=>V))]
 .rw[w!,List.take_length]
 .intro j o m;have q:=r _ (AF o m);rw[AC o m,bs,AC q.1 (by rw[c8,Aq];exact q.2),bs,Bb o m];congr 1;unfold Av;refine y? V (λk z v=>?_);have w:k<n:=by simpa[Aq]using v
  rw [List.getElem_set];have e:(Ag n)[k]'(by rw[Aq];exact w)=(k:Int):=by simp[Ag]
  simp only[List.getElem_map,e,z9,z_,z!,v!];by_cases h:(AA l j).toNat=k
  .rw[ae h,decide_eq_true (show AA l j=(k:Int)by omega),Bool.or_true]
  .rw[az h,decide_eq_false (show¬AA l j=(k:Int)by omega),v!]
theorem nq(hf:Ai t)(h:Fm t)(hv:(As t).2=0):GH t=Y (Ju t):=by
 have w:=h.ea;unfold GH;rw[BY (λi=>(Ag i.toNat).map (OF t)) U r!,bs,w!]
 .rfl
 .intro i o r;have v:GD (t.ca.length:Int) T=Y (y! t.ca.length T):=by
   unfold GD;rw[ae U,w!]
  rw [v,bs,o8 hf h hv o r,bs];have:=qA (n:=t.ca.length) (l:=(Ag t.ca.length).filter λk=>Ho t k i) (λx j=>DW.1 (z?.1 j).1);show(ns (λ(q:Int)(s2:a6)=>
   (idx ((Ag t.ca.length).filter λk=>Ho t k i) q).bind λd=>
   (idx s2 d).bind λ_=>
   Y (Av s2 d X)) 0 (((Ag t.ca.length).filter λk=>Ho t k i).length:Int) (y! t.ca.length T)).bind _=_
  rw [this,bs,AQ (by rw[c8,Aq];simp;unfold AU;omega),bs,D2 o,List.map_append];congr 2;simp only[List.map_cons,List.map_nil];congr 1;unfold OF;refine List.map_congr_left (λk m=>?_);have m:=DW.1 m;rw[v5,A_];constructor
  .rintro⟨x,j,e⟩;rw[yk]at e;subst e;exact(z?.1 j).2
  .intro u;exact⟨k,z?.2 ⟨DW.2 m,u⟩,V⟩
end Go.Sf.Sc
namespace Go.Sf.Sc
open Go Go.Sf
def GV:Nat->AM->List d4
 |0,f=>EM f.p.ci.length f|n+1,f=>(Ag f.g.ca.length).flatMap λk=>if TG f k=X then GV n {f with ea:=f.ea++[k]}else[]
def eG(f:AM)(i:Int):Prop:=0<=i/\i<f.p.ci.length/\0<=(AA f.p.ci i).kq/\(AA f.p.ci i).kq<f.ea.length/\0<=(AA f.p.ci i).To/\(AA f.p.ci i).To<f.ea.length/\∀k:Int,0<=k->k<f.g.ci.length->Ko f i k=T
theorem Vz(f:AM)(i k:Int):Ko f i k=((decide (PL.at_ f.gp.ci i<0)||decide (PL.at_ f.gp.ci i=k))&&decide (AA f.g.ci k=⟨(AA f.p.ci i).kp,AA f.ea (AA f.p.ci i).kq,AA f.ea (AA f.p.ci i).To⟩)):=rfl
variable{α:Type}{i:Int}
theorem Kv[Inhabited α](l:List α)(x:α)(d:0<=i)(e:i<l.length):AA (l++[x]) i=AA l i:=by
 unfold AA
 grind
theorem g7:∀(n:Nat)(f:AM)(i:Int),eG f i->(f.ec.length:Int)<=i->i<f.ec.length+n->EM n f=[]
 |0,f,i,_,e,h=>by omega|n+1,f,i,hd,e,h=>by
  rw [EM];refine A'.2 (λk d=>?_);have d:=DW.1 d;by_cases he:(f.ec.length:Int)=i
  .have:TF f k=T:=by
    unfold TF;rw[he,hd.2.2.2.2.2.2 k d.1 d.2];rfl
   grind
  .split
   .exact g7 n {f with ec:=f.ec++[k]} i hd (by show((f.ec++[k]).length:Int)<=i;rw[bk];simp;omega) (by show i<((f.ec++[k]).length:Int)+n;rw[bk];simp;omega)
   .rfl
theorem Z1:∀(n:Nat)(f:AM)(i:Int),f.ec=[]->eG f i->GV n f=[]
 |0,f,i,he,hd=>by
  rw [GV];exact g7 _ f i hd (by rw[he];simpa using hd.1) (by rw[he];simpa using hd.2.1)
 |n+1,f,i,he,hd=>by
  rw [GV];refine A'.2 (λk o=>?_);split
  .refine Z1 n {f with ea:=f.ea++[k]} i he ?_;obtain⟨d,e,h,v,m,w,x⟩:=hd;have u:((f.ea++[k]).length:Int)=f.ea.length+1:=by rw[bk];simp
   refine ⟨d,e,h,?_,m,?_,λj q r=>?_⟩
   .grind
   .grind
   grind [Vz,AA,Kv]
  .rfl
variable{f:AM}
theorem lb(hf:M2 f)(h:Og f=T):∃i,eG f i:=by
 unfold Og at h;rw[u!,CN]at h;obtain⟨i,d,e,h⟩:=h;rw[sx,yk,v?,Br]at h;have he:=hf.ends _ (AF d e);exact⟨i,d,e,he.1,U,he.2.2.1,U,h.2⟩
theorem gi:∀(n:Nat)(f:AM),M2 f->f.ec=[]->Jd n f=GV n f
 |0,_,_,_=>rfl|n+1,f,hf,he=>by
  rw [Jd,GV];refine congrArg (λF=>(Ag f.g.ca.length).flatMap F) (funext λk=>?_);have d:M2 {f with ea:=f.ea++[k]}:=⟨hf.pn,hf.pe,hf.ends,hf.kinds,hf.small⟩;cases TG f k
  .rfl
  .cases e:Og {f with ea:=f.ea++[k]}
   .obtain⟨i,hd⟩:=lb d e
    grind [Z1]
   .simp;exact gi n _ d he
end Go.Sf.Sc
namespace Go.Sf.Sc
open Go Go.Sf
variable{a b:Int}
theorem OO{σ ρ:Type}{f:σ×Int->Option (Be (σ×Int) ρ)}(g:Int->σ){s:σ}(d:a<=b)(e:s=g a)(h:∀i,a<=i->i<b->f (g i,i)=Y (.next (g (i+1),i+1)))(j:f (g b,b)=Y (.brk (g b,b))):CY f (s,a)=Y (.inl (g b,b)):=by
 subst e;have key:∀(n:Nat)(i:Int),a<=i->i+n=b->Ks f (g i,i) (.inl (g b,b)):=by
  intro n
  induction n with
  |zero=>
   intro i _ hi;have:i=b:=U
   subst this;exact .brk j
  |succ n o=>
   intro i m q;exact .next (h i m U) (o (i+1) U U)
 exact (key (b-a).toNat a (w_ _) U).eq
def H6(s:Ae)(ea ec:Fp):AM:=⟨s.p,s.g,Ju s.t,s.gp,s.f0,s.tc+1,ea,ec,s.zc⟩
def CF(s:Ae)(l:List d4):Ae:={s with zc:=(s.zc++l).take (s.tc+1).toNat}
structure WC(s:Ae):Prop where
 m0:0<=s.tc
 m1:s.tc<=9999
 out:(s.zc.length:Int)<=s.tc+1
variable{s:Ae}
theorem Pg(h:WC s):CF s []=s:=by
 unfold CF;rw[x_,w? (by have:=h.out;have:=h.m0;omega)]
theorem XG(h:(s.zc.length:Int)=s.tc+1)(l:List d4):CF s l=s:=by
 unfold CF;rw[x! U,w? U]
theorem XH(h:WC s)(l:List d4):WC (CF s l):=by
 refine ⟨h.m0,h.m1,?_⟩;have:=h.m0;show(((s.zc++l).take (s.tc+1).toNat).length:Int)<=s.tc+1
 grind
theorem VV(s:Ae)(a b:List d4):CF (CF s a) b=CF s (a++b):=by
 show ({s with zc:=(((s.zc++a).take (s.tc+1).toNat)++b).take (s.tc+1).toNat}:Ae)=_;rw[Y8,c9];rfl
variable{l:Fp}
theorem jV(s:Ae)(j:l.length<=1000)(n:Int):Cl s l n=Y (s.f0&&l.any λx=>decide (n=x)):=by
 unfold Cl;cases s.f0
 .rw[VF (λ_=>T) X (a:=0) (b:=0) (w_ _) (λi h d=>U) (by rw[az V])];rfl
 .rw[VF (λi=>decide (AA l i=n)) X (a:=0) (b:=l.length) U (λi h d=>by
   rw [ae (by simp;exact d),AC h d,bs,AV U U,JF]) (by rw[az V])]
  have e:nd (λi=>decide (AA l i=n)) 0 l.length=l.any λx=>decide (n=x):=by
   rw [v5,CN,A_]
   grind [AF,BR]
  rw [e,Bool.true_and];cases l.any λx=>decide (n=x)<;>rfl
theorem Yw:∀(n:Nat)(s:Ae)(ea l:Fp),M2 (H6 s [] [])->WC s->ea.length=s.p.ca.length->l.length+n=s.p.ci.length->∀m,n+1<=m->CA m s ea l=Y (CF s (EM n (H6 s ea l)))
 |n,s,ea,l,hf,r,z,he,m,B=>by
  obtain ⟨m,rfl⟩:∃k,m=k+1:=⟨m-1,U⟩;have u:=hf.small;have R:s.p.ca.length<=1000:=u.1;have s2:s.p.ci.length<=1000:=u.2.1;have S:s.g.ca.length<=1000:=u.2.2.1;have θ:s.g.ci.length<=1000:=u.2.2.2;have ε:=r.m0;have κ:=r.m1;have η:=r.out;rw[CA];by_cases v:(s.zc.length:Int)=s.tc+1
  .grind[XG]
  rw [az an]
  match n,he,B with
  |0,he,B=>
   rw [ae an,Ap a_,bs,Ap a_,bs,AQ a9,bs];unfold CF;rw[w? (by simp[EM];omega)];rfl
  |n+1,he,B=>
   have e:(0:Int)<=l.length:=U
   have q:(l.length:Int)<s.p.ci.length:=U
   have d:=hf.ends _ (AF (l:=s.p.ci) e q);have H:(AA s.p.ci l.length).kq<ea.length:=by rw[z];exact d.2.1
   have I:(AA s.p.ci l.length).To<ea.length:=by rw[z];exact d.2.2.2
   have w:(l.length:Int)<s.gp.ci.length:=by
    have:s.gp.ci.length=s.p.ci.length:=hf.pe;omega
   rw [az an,AC e q,bs];rw[OO (λi=>CF s ((Ag i.toNat).flatMap λk=>if TF (H6 s ea l) k=X then EM n (H6 s ea (l++[k]))else[])) (a:=0) (b:=(s.g.ci.length:Int)) (s:=s) U (Pg r).symm (λi C D=>by
    have J:∀F,CF s ((Ag (i+1).toNat).flatMap F)=CF (CF s ((Ag i.toNat).flatMap F)) (F i):=by
     intro F;rw[VV,D2 C,List.flatMap_append];simp
    rw [J];generalize (Ag i.toNat).flatMap (λk=>if TF (H6 s ea l) k=true then EM n (H6 s ea (l++[k]))else[])=L;have E:=XH r L;rw[ae (by rw[yk];exact D)];have K:idx (CF s L).g.ci i=some (AA s.g.ci i):=AC C D;have M:idx (CF s L).gp.ci (l.length:Int)=some (AA s.gp.ci l.length):=AC e w;have N:Cl (CF s L) l i=some (s.f0&&l.any λx=>decide (i=x)):=jV (CF s L) U i;have key:((AT [] l).bind λh=>
      (AT h [i]).bind λj=>
      (CA m (CF s L) ea j).bind λo=>
      some (.next (o,AH (i+1)):Be (Ae×Int) Ae))=some (.next (CF (CF s L) (EM n (H6 s ea (l++[i]))),i+1)):=by
     have G:=Yw n (CF s L) ea (l++[i]) ⟨hf.pn,hf.pe,hf.ends,hf.kinds,hf.small⟩ E z (by show(l++[i]).length+n=s.p.ci.length;rw[bk];simp;omega) m U;have O:EM n (H6 (CF s L) ea (l++[i]))=EM n (H6 s ea (l++[i])):=Qc n (H6 s ea (l++[i])) _;rw[O]at G;rw[Ap a_,bs,AQ a9,bs,G,bs,AV U U]
    rw [K,bs,M,bs,N,key];simp only[bs];rw[AC d.1 H,AC d.2.2.1 I,AV (n:=i+1) U U];simp only[bs];have y:TF (H6 s ea l) i=(((decide (AA s.gp.ci l.length<0)||decide (AA s.gp.ci l.length=i))&&decide (AA s.g.ci i=⟨(AA s.p.ci l.length).kp,AA ea (AA s.p.ci l.length).kq,AA ea (AA s.p.ci l.length).To⟩))&&!(s.f0&&l.any λx=>decide (i=x))):=rfl;have P:decide (AA s.g.ci i=⟨(AA s.p.ci l.length).kp,AA ea (AA s.p.ci l.length).kq,AA ea (AA s.p.ci l.length).To⟩)=(decide ((AA s.p.ci l.length).kp=(AA s.g.ci i).kp)&&decide ((AA s.g.ci i).kq=AA ea (AA s.p.ci l.length).kq)&&decide ((AA s.g.ci i).To=AA ea (AA s.p.ci l.length).To)):=by
     rw [Bool.eq_iff_iff];simp[yk];generalize AA s.g.ci i=x;obtain⟨x1,ζ,δ⟩:=x;simp;constructor
     .rintro⟨a,b,c⟩;exact⟨⟨a.symm,b⟩,c⟩
     .rintro⟨⟨a,b⟩,c⟩;exact⟨a.symm,b,c⟩
    have Q:(decide (AA s.gp.ci l.length<0)||decide (AA s.gp.ci l.length=i))=!(decide (0<=AA s.gp.ci l.length)&&!decide (AA s.gp.ci l.length=i)):=by
     rw [Bool.not_and,Bool.not_not];congr 1;rw[<-decide_not];exact decide_eq_decide.2 U
    rw [y,P,Q];generalize EM n (H6 s ea (l++[i]))=A;generalize decide (0<=AA s.gp.ci l.length)=c1;generalize decide (AA s.gp.ci l.length=i)=c2;generalize decide ((AA s.p.ci l.length).kp=(AA s.g.ci i).kp)=c3;generalize decide ((AA s.g.ci i).kq=AA ea (AA s.p.ci l.length).kq)=c4;generalize decide ((AA s.g.ci i).To=AA ea (AA s.p.ci l.length).To)=c5;generalize (s.f0&&l.any λx=>decide (i=x))=c6;cases c1<;>cases c2<;>cases c3<;>cases c4<;>cases c5<;>cases c6<;>first|rfl|(simp[Pg E];try rfl)) (by rw[az (by simp[CF])]),Bc,w!,EM]
   rfl
end Go.Sf.Sc
namespace Go.Sf.Sc
open Go Go.Sf
def Sv(s:Ae)(l:Fp)(i k:Int):Bool:=decide (AA s.g.ci k=⟨(AA s.p.ci i).kp,AA l (AA s.p.ci i).kq,AA l (AA s.p.ci i).To⟩)
def SP(s:Ae)(l:Fp)(i:Int):Bool:=(decide ((AA s.p.ci i).kq<l.length)&&decide ((AA s.p.ci i).To<l.length))&&!(Ag s.g.ci.length).any (Sv s l i)
variable{s:Ae}{l:Fp}
theorem sW(hf:M2 (H6 s [] [])):E5 s l=Y (!nd (SP s l) 0 s.p.ci.length):=by
 unfold E5;rw[BT (SP s l) T]
 .cases nd (SP s l) 0 s.p.ci.length<;>rfl
 .intro i d e _;have he:=hf.ends _ (AF (l:=s.p.ci) d e);rw[AC d e,bs];unfold SP;by_cases j:(AA s.p.ci i).kq<l.length
  .by_cases hT:(AA s.p.ci i).To<l.length
   .rw[az an,BY (λk=>(Ag k.toNat).any (Sv s l i)) U r!,bs,w!,decide_eq_true j,decide_eq_true hT]
    .grind
    .intro k h m;rw[AC h m,bs,D2 h,z9];have o:Sv s l i k=(decide ((AA s.p.ci i).kp=(AA s.g.ci k).kp)&&decide ((AA s.g.ci k).kq=AA l (AA s.p.ci i).kq)&&decide ((AA s.g.ci k).To=AA l (AA s.p.ci i).To)):=by
      unfold Sv;rw[v5];simp[yk];generalize AA s.g.ci k=x;obtain⟨x1,q,r⟩:=x;simp;constructor
      .rintro⟨a,b,c⟩;exact⟨⟨a.symm,b⟩,c⟩
      .rintro⟨⟨a,b⟩,c⟩;exact⟨a.symm,b,c⟩
     rw [AC he.1 j,AC he.2.2.1 hT];simp only[z_,z!,v!,bs];rw[o];generalize (Ag k.toNat).any (Sv s l i)=c1;generalize decide ((AA s.p.ci i).kp=(AA s.g.ci k).kp)=c3;generalize decide ((AA s.g.ci k).kq=AA l (AA s.p.ci i).kq)=c4;generalize decide ((AA s.g.ci k).To=AA l (AA s.p.ci i).To)=c5;cases c1<;>cases c3<;>cases c4<;>cases c5<;>rfl
   grind
  grind
theorem sT(hf:M2 (H6 s [] []))(h:nd (SP s l) 0 s.p.ci.length=X):∃i,eG (H6 s l []) i:=by
 rw [CN]at h;obtain⟨i,d,j,h⟩:=h;unfold SP at h;rw[sx,sx,yk,yk,v?,List.any_eq_false]at h;have he:=hf.ends _ (AF (l:=s.p.ci) d j);refine⟨i,d,j,he.1,h.1.1,he.2.2.1,h.1.2,λk m o=>?_⟩;have:=h.2 k (DW.2 ⟨m,o⟩);have e:Sv s l i k=T:=by rw[<-Bool.not_eq_true];exact this
 rw [Vz];show((decide (AA s.gp.ci i<0)||decide (AA s.gp.ci i=k))&&Sv s l i k)=T;rw[e,v_]
end Go.Sf.Sc
namespace Go.Sf.Sc
open Go Go.Sf
theorem Zm:∀(n:Nat)(f:AM)(o:List d4),GV n (Sn f o)=GV n f
 |0,f,o=>Qc _ f o|n+1,f,o=>by
  rw [GV,GV];refine congrArg (λF=>(Ag f.g.ca.length).flatMap F) (funext λk=>?_);have:=Zm n {f with ea:=f.ea++[k]} o
  grind [TG,GV,Sn]
theorem Yx:∀(n:Nat)(s:Ae)(l:Fp),Fm s.t->M2 (H6 s [] [])->WC s->l.length+n=s.p.ca.length->∀m,n+1<=m->CB m s l=Y (CF s (GV n (H6 s l [])))
 |n,s,l,P,hf,r,K,m,z=>by
  obtain ⟨m,rfl⟩:∃k,m=k+1:=⟨m-1,U⟩;have M:=hf.small;have Z:s.p.ca.length<=1000:=M.1;have s3:s.g.ca.length<=1000:=M.2.2.1;have h0:=r.m0;have h1:=r.m1;have h2:=r.out;rw[CB];by_cases E:(s.zc.length:Int)=s.tc+1
  .grind[XG]
  rw [az an,sW hf];cases hd:nd (SP s l) 0 s.p.ci.length
  case true=>
   grind [sT,Z1,H6,Pg]
  simp only[bs,Bool.not_false,u?,v1,if_false]
  match n,K,z with
  |0,K,z=>
   rw [ae an,Option.bind_fun_some,GV];exact D3 (s.p.ci.length+1) λm z=>Yw s.p.ci.length s l [] hf r U V m U
  |n+1,K,z=>
   have w:(l.length:Int)<s.p.ca.length:=U
   have o:(0:Int)<=l.length:=U
   have G:(l.length:Int)<s.gp.ca.length:=by
    have:s.gp.ca.length=s.p.ca.length:=hf.pn;omega
   have Q:(Ju s.t).length=s.t.ca.length:=by unfold Ju;rw[c8,Aq]
   have d:=hf.kinds _ (AF (l:=s.p.ca) o w);have H:AA s.p.ca l.length<s.t.ca.length:=by rw[<-Q];exact d.2.1
   have j:AA (Ju s.t) (AA s.p.ca l.length)=OF s.t (AA s.p.ca l.length):=HC (OF s.t) d.1 H;rw[az an];rw[OO (λi=>CF s ((Ag i.toNat).flatMap λk=>if TG (H6 s l []) k=X then GV n (H6 s (l++[k]) [])else[])) (a:=0) (b:=(s.g.ca.length:Int)) (s:=s) U (Pg r).symm (λi B C=>by
    have R:∀F,CF s ((Ag (i+1).toNat).flatMap F)=CF (CF s ((Ag i.toNat).flatMap F)) (F i):=by
     intro F;rw[VV,D2 B,List.flatMap_append];simp
    rw [R];generalize (Ag i.toNat).flatMap (λk=>if TG (H6 s l []) k=true then GV n (H6 s (l++[k]) [])else[])=L;have N:=XH r L;rw[ae (by rw[yk];exact C)];have q:=d.2.2 _ (AF (l:=s.g.ca) B C);have y:AA s.g.ca i<s.t.ca.length:=by
     have h:=q.2;have e:AA (H6 s [] []).is (AA s.p.ca l.length)=OF s.t (AA s.p.ca l.length):=j;rw[e]at h;unfold OF at h
     rwa [c8,Aq]at h
    have I:FE (CF s L).t (AA s.g.ca i) (AA s.p.ca l.length)=some (Ho s.t (AA s.g.ca i) (AA s.p.ca l.length)):=VB P q.1 y d.1;have S:idx (CF s L).g.ca i=some (AA s.g.ca i):=AC B C;have θ:idx (CF s L).gp.ca (l.length:Int)=some (AA s.gp.ca l.length):=AC o G;have ε:Cl (CF s L) l i=some (s.f0&&l.any λx=>decide (i=x)):=jV (CF s L) U i;have κ:idx (CF s L).p.ca (l.length:Int)=some (AA s.p.ca l.length):=AC o w;have key:((AT [] l).bind λD=>
      (AT D [i]).bind λu=>
      (CB m (CF s L) u).bind λv=>
      some (.next (v,AH (i+1)):Be (Ae×Int) Ae))=some (.next (CF (CF s L) (GV n (H6 s (l++[i]) [])),i+1)):=by
     have O:=Yx n (CF s L) (l++[i]) P ⟨hf.pn,hf.pe,hf.ends,hf.kinds,hf.small⟩ N (by show(l++[i]).length+n=s.p.ca.length;rw[bk];simp;omega) m U;have η:GV n (H6 (CF s L) (l++[i]) [])=GV n (H6 s (l++[i]) []):=Zm n (H6 s (l++[i]) []) _;rw[η]at O;rw[Ap a_,bs,AQ a9,bs,O,bs,AV U U]
    rw [θ,bs,ε,S,κ,key];simp only[bs];rw[I,AV (n:=i+1) U U];simp only[bs];have J:TG (H6 s l []) i=((decide (AA s.gp.ca l.length<0)||decide (AA s.gp.ca l.length=i))&&AA (AA (Ju s.t) (AA s.p.ca l.length)) (AA s.g.ca i)&&!(s.f0&&l.any λx=>decide (i=x))):=rfl;have ζ:AA (AA (Ju s.t) (AA s.p.ca l.length)) (AA s.g.ca i)=Ho s.t (AA s.g.ca i) (AA s.p.ca l.length):=by
     rw [j];exact HC (λk=>Ho s.t k (AA s.p.ca l.length)) q.1 y
    have δ:(decide (AA s.gp.ca l.length<0)||decide (AA s.gp.ca l.length=i))=!(decide (0<=AA s.gp.ca l.length)&&!decide (AA s.gp.ca l.length=i)):=by
     rw [Bool.not_and,Bool.not_not];congr 1;rw[<-decide_not];exact decide_eq_decide.2 U
    rw [J,ζ,δ];generalize GV n (H6 s (l++[i]) [])=A;generalize decide (0<=AA s.gp.ca l.length)=c1;generalize decide (AA s.gp.ca l.length=i)=c2;generalize Ho s.t (AA s.g.ca i) (AA s.p.ca l.length)=c3;generalize (s.f0&&l.any λx=>decide (i=x))=c6;cases c1<;>cases c2<;>cases c3<;>cases c6<;>first|rfl|(simp[Pg N];try rfl)) (by rw[az (by simp[CF])]),Bc,w!,GV]
   rfl
end Go.Sf.Sc
namespace Go.Sf.Sc
open Go Go.Sf
def FF(t:eb)(p g:d3)(pa:d4)(inj:Bool):AM:=⟨p,g,Ju t,pa,inj,5001,[],[],[]⟩
def J6(t:eb)(p g:d3)(pa:d4)(inj:Bool):List d4:=(GV p.ca.length (FF t p g pa inj)).take 5001
variable{t:eb}{p g:d3}
theorem pE{pa:d4}{inj:Bool}(j:Ai t)(hv:(As t).2=0)(d:M2 (FF t p g pa inj)):Ha t p g pa inj 5001=Y (J6 t p g pa inj):=by
 unfold Ha;rw[nq j (C6 hv) hv,bs];have h:=r9 (f:=FF t p g pa inj) d ⟨by show(0:Int)<=5001;omega,by show(5001:Int)<=10000;omega,by show((0:Nat):Int)<=5001;omega⟩ rfl rfl;rw[gi _ _ d rfl]at h;have e:AM.mk p g (Ju t) pa inj 5001 [] [] []=FF t p g pa inj:=rfl;rw[e,h];rfl
theorem ny{pa:d4}{inj:Bool}(hv:(As t).2=0)(d:M2 (FF t p g pa inj)):NG t p g pa inj 5000=Y (J6 t p g pa inj):=by
 unfold NG;have h:I5 ⟨t,p,g,pa,inj,5000,[]⟩ []=Y (CF ⟨t,p,g,pa,inj,5000,[]⟩ (GV p.ca.length (FF t p g pa inj))):=
  D3 (p.ca.length+1) λm e=>Yx p.ca.length ⟨t,p,g,pa,inj,5000,[]⟩ [] (C6 hv) d ⟨by show(0:Int)<=5000;omega,by show(5000:Int)<=9999;omega,by show((0:Nat):Int)<=5000+1;omega⟩ (by show 0+p.ca.length=p.ca.length;omega) m e
 rw [h];rfl
end Go.Sf.Sc
namespace Go.Sf.Sc
open Go Go.Sf
def Vb(n k:Int):Bool:=decide (k< -1)||decide (n<=k)
def RH(l:Fp)(n:Int):Int:=if l.any (Vb n)=X then 6 else 0
theorem ip(l:Fp)(n:Int):G0 l n=Y (RH l n):=by grind[G0,RH,Mm,Vb,Tu]
variable{l:Fp}
theorem bH{c:Int}(n:Int)(h:(l.length:Int)=c):JM l c n=Y (RH l n):=by
 unfold JM RH;rw[az (by simp[h]),BT (λi=>Vb n (AA l i)) 6]
 .have e:nd (λi=>Vb n (AA l i)) 0 l.length=l.any (Vb n):=by
   rw [v5,CN,A_]
   grind [AF,BR]
  rw [e];cases l.any (Vb n)<;>rfl
 grind [AC,Vb,AA]
end Go.Sf.Sc
namespace Go.Sf.Sc
open Go Go.Sf
theorem aw(t:eb)(g:d3):FY t g=Y (CP t g):=by grind[FY,CP,Km,Tu,Kn,cm]
def El(t:eb)(p g:d3):Int:=if(As t).2≠0 then(As t).2 else if Bn p≠0 then Bn p else if Bn g≠0 then Bn g else if(CP t p&&CP t g)=X then 0 else 13
variable{t:eb}
theorem Xr(hf:Ai t)(p g:d3):FI t p g=Y (El t p g):=by
 unfold FI El;rw[Of hf,bs];refine DN λ_=>?_;have o:kl (ρ:=Int) (λ(m:Int)(_:Unit)=>
   (idx [p,g] m).bind λj=>
   (Cp j).bind λh=>
   if (!decide (h=0))=X then
   Y (.ret h)
   else
   Y (.next ())) 0 ([p,g].length:Int) ()=Y (if Bn p≠0 then .inr (Bn p)else if Bn g≠0 then .inr (Bn g)else .inl ()):=by
  show yf _ 2 0 ()=_;rw[EW,show idx [p,g] 0=Y p from rfl,bs,Lf,bs];by_cases d:Bn p=0
  .rw[az (by simp[d]),az (by simp[d])];show yf _ 1 (0+1) ()=_;rw[EW,show idx [p,g] (0+1)=Y g from rfl,bs,Lf,bs];by_cases e:Bn g=0
   .rw[az c!,az c!];rfl
   .rw[ae c!,ae e]
  .rw[ae (by simp[d]),ae d]
 rw [o];by_cases d:Bn p=0
 .by_cases e:Bn g=0
  .simp[d,e,Bc];rw[aw,aw,bs];cases CP t p<;>cases CP t g<;>rfl
  .simp[d,e,not_false_eq_true,RR]
 .simp[d,not_false_eq_true,RR]
theorem Ss(hf:Ai t)(p g:d3):Gx t p g=Y (El t p g):=by
 unfold Gx El;rw[QW hf,bs];refine DN λ_=>?_;rw[Lg,bs];refine DN λd=>?_;rw[Lg,bs];refine DN λe=>?_
 grind [Xw,Cs,CP]
end Go.Sf.Sc
namespace Go.Sf.Sc
open Go Go.Sf
variable{t:eb}{p g:d3}
theorem Xd{pa:d4}{inj:Bool}(h:El t p g=0)(r:pa.ca.length=p.ca.length)(u:pa.ci.length=p.ci.length):(As t).2=0/\M2 (FF t p g pa inj):=by
 unfold El at h;by_cases hv:(As t).2=0
 .rw[az m_]at h;by_cases o:Bn p=0
  .rw[az t?]at h;by_cases q:Bn g=0
   .rw[az (by simp[q])]at h;by_cases d:(CP t p&&CP t g)=X
    .rw[sx]at d;have op:=Cs o;have m:=Cs q;have tp:=Hg op d.1;have w:=Hg m d.2;have x:(Ju t).length=t.ca.length:=by unfold Ju;rw[c8,Aq]
     refine ⟨hv,r,u,λe he=>?_,λn v=>?_,Nat.le_trans op.ea U,Nat.le_trans op.ec U,Nat.le_trans m.ea U,Nat.le_trans m.ec U⟩
     .have:=op.fit e he;exact⟨this.2.1.1,this.2.1.2,this.2.2.1,this.2.2.2⟩
     .have:=tp.1 n v;refine⟨this.1,by show n<((Ju t).length:Int);rw[x];exact this.2,λk j=>?_⟩;have j:=w.1 k j;refine⟨j.1,?_⟩;show k<((AA (Ju t) n).length:Int)
      grind [Ju,HC,OF,c8,Aq]
    grind
   grind
  grind
 grind
def SR(t:eb)(p g:d3)(pa:d4)(inj:Bool):List d4×Int:=
 if El t p g≠0 then([],El t p g)else if¬(pa.ca.length=p.ca.length/\pa.ci.length=p.ci.length)then([],20)else
 if RH pa.ca g.ca.length≠0 then([],RH pa.ca g.ca.length)else if RH pa.ci g.ci.length≠0 then([],RH pa.ci g.ci.length)else
 if 5000<(J6 t p g pa inj).length then([],3)else(J6 t p g pa inj,0)
theorem lU(hf:Ai t)(p g:d3)(pa:d4)(inj:Bool):GZ t p g pa inj=Y (SR t p g pa inj):=by
 unfold GZ SR;rw[Xr hf,bs];refine CL λe=>?_;refine GM (by simp[v?,decide_eq_false_iff_not];omega) λd=>?_;have d:=Classical.not_not.1 d;rw[ip,bs];refine CL λh=>?_;rw[ip,bs];refine CL λj=>?_
 grind [Xd,Ls,pE,J6]
theorem lu(hf:Ai t)(p g:d3)(pa:d4)(inj:Bool):LD t p g pa inj=Y (SR t p g pa inj):=by
 unfold LD SR;rw[Ss hf,bs];refine CL λe=>?_;refine GM (by simp[v?,decide_eq_false_iff_not];omega) λd=>?_;have d:=Classical.not_not.1 d;rw[bH _ U,bs];refine CL λh=>?_;rw[bH _ U,bs];refine CL λj=>?_
 grind [Xd,ny,J6]
def RI(p:d3):d4:=⟨y! p.ca.length (-1),y! p.ci.length (-1)⟩
variable{n:Nat}{i:Int}
theorem bc(d:0<=i)(e:i<n):Av (y! i.toNat (-1:Int)++y! (n-i.toNat) 0) i (-1)=y! (i+1).toNat (-1)++y! (n-(i+1).toNat) 0:=by
 unfold Av;rw[List.set_append_right _ _ V,show n-i.toNat=(n-(i+1).toNat)+1 by omega,List.replicate_succ,List.length_replicate,Nat.sub_self,List.set_cons_zero,show(i+1).toNat=i.toNat+1 by omega,List.replicate_succ',c9];rfl
theorem l7(j:p.ca.length<=100)(m:p.ci.length<=100):N4 p=Y (RI p):=by
 unfold N4;have m1:GD (p.ca.length:Int) (0:Int)=Y (y! p.ca.length 0):=by unfold GD;rw[ae U,w!]
 have h:GD (p.ci.length:Int) (0:Int)=Y (y! p.ci.length 0):=by unfold GD;rw[ae U,w!]
 rw [m1,bs,h,bs];rw[OO (λi=>(⟨y! i.toNat (-1)++y! (p.ca.length-i.toNat) 0,y! p.ci.length 0⟩:d4)) (a:=0) (b:=p.ca.length) U V,Bc]
 .dsimp only;rw[OO (λi=>(⟨y! p.ca.length (-1),y! i.toNat (-1)++y! (p.ci.length-i.toNat) 0⟩:d4)) (a:=0) (b:=p.ci.length) U V,Bc]
  .simp[RI]
  .intro i d e;dsimp only;rw[ae an,AC d an,bs,bc d e,AV (n:=i+1) U U]
  .dsimp only;rw[az V]
 .intro i d e;dsimp only;rw[ae an,AC d an,bs,bc d e,AV (n:=i+1) U U]
 .dsimp only;rw[az V]
end Go.Sf.Sc
