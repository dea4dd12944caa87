/- Plain lemmas: what the functions of the program and of the reference compute. -/
import Derived.Test.YthcncnllajfkfaaGreatP1
import Derived.Test.YthcncnllajfkfaaGreatEval
set_option linter.all false
set_option maxRecDepth 100000
open Option renaming some->Y
open Bool renaming true->X,false->T
open Bool renaming not_eq_false'->w_,eq_iff_iff->w!,not_eq_true->w?,not_true->x_,false_eq_true->x!,false_and->x?,and_self->y_,and_false->y!,or_false->y?,not_eq_true'->z_
open Classical renaming propDecidable->z!,not_not->z?
open Int renaming le_refl->A_,toNat_natCast->A'
open List renaming take_of_length_le->A!,append_nil->A?,take_append_of_le_length->B_,flatMap_append->B',take_left->B!,replicate->B?,ext_getElem->C_,any_append->C',any_cons->C!,any_nil->C?,mem_filter->D_,any_eq_true->D',flatMap_eq_nil_iff->D!
namespace Go.Sf.Sc
open Go Go.Sf
variable{t:AC}{c:d7}
theorem uU(hf:Ar t)(p:ea)(e:D9 c):Dd t p c=Y (JG t p c):=by
 by_cases d:(A0 t).2=0
 .exact nT hf d p e
 .unfold Dd JG;rw[Yb hf,bs];refine EC λh=>?_;exfalso;unfold E1 at h;rw[ac d]at h;exact d h
end Go.Sf.Sc
namespace Go.Sf.Sc
open Go Go.Sf
variable{α:Type}
theorem Zf[Inhabited α](b:α->α->Bool){l m:List α}(hb:∀x∈l,∀y∈m,(b x y=X↔x=y))(d:l.length=m.length):l3 (λi=>!b (AA l i) (AA m i)) 0 l.length=T↔l=m:=by
 rw [Bm];constructor
 .intro h;refine dK d (λi i1 i2=>?_);have:=h i i1 i2;rw[w_]at this;exact(hb _ (AF i1 i2) _ (AF i1 U)).1 this
 .rintro rfl i i1 i2;rw[w_];exact(hb _ (AF i1 i2) _ (AF i1 i2)).2 rfl
theorem iZ[Inhabited α][DecidableEq α]{l m:List α}(q:l.length=m.length){k:Unit->K1}{j:Bool->K1}:em (jj (ρ:=Bool) (λ(o:Int)(_:Unit)=>
 (idx l o).bind λd=>
 (idx m o).bind λe=>
 if (!decide (d=e))=X then
 Y (.ret T)
 else
 Y (.next ())) 0 (l.length:Int) ()) k j=if l=m then k ()else j T:=by
 rw [BS (λi=>!decide (AA l i=AA m i)) T]
 .have:=Zf (λx y:α=>decide (x=y)) (l:=l) (m:=m) (λ_ _ _ _=>decide_eq_true_iff) q;by_cases h:l=m
  .rw[this.2 h,ac h];rfl
  .rw[ae h];cases r:l3 (λi=>!decide (AA l i=AA m i)) 0 l.length
   .exact absurd (this.1 r) h
   .rfl
 .intro i i1 i2 _;rw[AD i1 i2,bs,AD i1 U,bs,Iv]
theorem P2[Inhabited α][DecidableEq α](l m:List α):(if(!decide ((l.length:Int)=(m.length:Int)))=X then
 Y T
 else
 em (jj (ρ:=Bool) (λ(q:Int)(_:Unit)=>
 (idx l q).bind λd=>
 (idx m q).bind λj=>
 if (!decide (d=j))=X then
 Y (.ret T)
 else
 Y (.next ())) 0 (l.length:Int) ()) (λ_=>
 Y X) (λr=>Y r))=Y (decide (l=m)):=by
 by_cases o:l.length=m.length
 .rw[ae q_,iZ o];by_cases h:l=m
  .rw[ac h,decide_eq_true h]
  .rw[ae h,decide_eq_false h]
 .rw[ac an,decide_eq_false (λe=>o (by rw[e]))]
theorem PP(l m:Fp):slices_Equal_int l m=Y (decide (l=m)):=P2 l m
theorem fK(l m:List Bk):GE l m=Y (decide (l=m)):=P2 l m
theorem nq(l m:List By):Ho l m=Y (decide (l=m)):=P2 l m
theorem nt(l m:List Test):Hp l m=Y (decide (l=m)):=P2 l m
theorem ZY(l m:Fp):IL l m=Y (decide (l=m)):=P2 l m
theorem jM(l m:Fp):Gi l m=Y (decide (l=m)):=P2 l m
theorem WN(a b:d6):FB a b=Y (decide (a=b)):=by
 unfold FB;rw[PP,PP];obtain⟨a1,a2⟩:=a;obtain⟨e,j⟩:=b;by_cases h:a1=e<;>by_cases d:a2=j<;>simp[h,d]
theorem u7(a b:d6):PU a b=Y (decide (a=b)):=by
 unfold PU;rw[ZY,ZY];obtain⟨a1,a2⟩:=a;obtain⟨e,j⟩:=b;by_cases h:a1=e<;>by_cases d:a2=j<;>simp[h,d]
theorem uz(a b:d5):PT a b=Y (decide (a=b)):=by
 unfold PT;rw[jM,bs];obtain⟨a1,a2⟩:=a;obtain⟨o,j⟩:=b;by_cases h:a1=o
 .by_cases d:a2.length=j.length
  .rw[ae (by simp[h,d]),iZ d];by_cases m:a2=j<;>simp[h,m]
  .rw[ac an];rw[decide_eq_false (λe=>d (by cases e;rfl))]
 .simp[h]
noncomputable def We(a b:d7):Bool:=@decide (a=b) (z! _)
theorem ZA{a b:d7}:We a b=X↔a=b:=by
 unfold We;exact@decide_eq_true_iff _ (z! _)
noncomputable def Zx(l m:List d7):Bool:=@decide (l=m) (z! _)
theorem V8{l m:List d7}:Zx l m=X↔l=m:=by
 unfold Zx;exact@decide_eq_true_iff _ (z! _)
theorem tf(a b:d7):We a b=(decide (a.kq=b.kq)&&decide (a.Map=b.Map)&&decide (a.ea=b.ea)&&Zx a.fu b.fu):=by
 rw [w!,ZA];obtain⟨a1,a2,a3,m⟩:=a;obtain⟨o,q,r,u⟩:=b;simp only[pq,tn,V8,d7.mk.injEq];constructor
 .rintro⟨d,e,h,j⟩;exact⟨⟨⟨d,h⟩,j⟩,e⟩
 .rintro⟨⟨⟨d,h⟩,j⟩,e⟩;exact⟨d,e,h,j⟩
theorem nE{l m:List d7}{f:d7->d7->K1}(hf:∀x∈l,∀y,f x y=Y (We x y))(r:l.length=m.length):em (jj (ρ:=Bool) (λ(q:Int)(_:Unit)=>
 (idx l q).bind λd=>
 (idx m q).bind λe=>
 (f d e).bind λj=>
 if (!j)=X then
 Y (.ret T)
 else
 Y (.next ())) 0 (l.length:Int) ()) (λ_=>
 Y X) (λu=>Y u)=Y (Zx l m):=by
 rw [BS (λi=>!We (AA l i) (AA m i)) T]
 .have:=Zf We (l:=l) (m:=m) (λ_ _ _ _=>ZA) r;cases o:l3 (λi=>!We (AA l i) (AA m i)) 0 l.length
  .rw[V8.2 (this.1 o)];rfl
  .have:Zx l m=T:=by
    rw [<-w?,V8];intro h;rw[this.2 h]at o;cases o
   rw [this];rfl
 .intro i i1 i2 _;rw[AD i1 i2,bs,AD i1 U,bs,hf _ (AF i1 i2),bs,Iv]
theorem th{l m:List d7}(h:¬l.length=m.length):Zx l m=T:=by
 rw [<-w?,V8];exact λe=>h (by rw[e])
theorem nf:∀(N:Nat)(a b:d7),SizeOf.sizeOf a<=N->∀n,N<=n->Cn n a b=Y (We a b)
 |0,a,_,h,_,_=>by have:=Dk a;omega|N+1,a,b,h,n,G=>by
  obtain ⟨n,rfl⟩:∃m,n=m+1:=⟨n-1,U⟩;have v:CL a.fu b.fu (Cn n)=Y (Zx a.fu b.fu):=by
   unfold CL;by_cases d:a.fu.length=b.fu.length
   .rw[ae (by simp[d]),nE (λx u y=>by have:=EO u;exact nf N x y U n U) d]
   .rw[ac an,th d]
  rw [Cn,WN,PP,fK,nq,nt,v,tf];have w:decide (a.ea=b.ea)=(decide (a.ea.fd=b.ea.fd)&&decide (a.ea.d5.d3=b.ea.d5.d3)&&decide (a.ea.d5.d4=b.ea.d5.d4)&&decide (a.ea.ek=b.ea.ek)&&decide (a.ea.kl=b.ea.kl)):=by
   rw [w!];simp only[pq,tn];obtain⟨_,_,_,⟨⟨a1,a2⟩,a3,z,A⟩⟩:=a;obtain⟨_,_,_,⟨⟨B,C⟩,D,E,F⟩⟩:=b;simp only[ea.mk.injEq,d5.mk.injEq];constructor
   .rintro⟨⟨e,j⟩,o,q,r⟩;exact⟨⟨⟨⟨q,e⟩,j⟩,o⟩,r⟩
   .rintro⟨⟨⟨⟨q,e⟩,j⟩,o⟩,r⟩;exact⟨⟨e,j⟩,o,q,r⟩
  rw [w];generalize decide (a.kq=b.kq)=c1;generalize decide (a.Map=b.Map)=c2;generalize decide (a.ea.fd=b.ea.fd)=c3;generalize decide (a.ea.d5.d3=b.ea.d5.d3)=c4;generalize decide (a.ea.d5.d4=b.ea.d5.d4)=c5;generalize decide (a.ea.ek=b.ea.ek)=c6;generalize decide (a.ea.kl=b.ea.kl)=c7;generalize Zx a.fu b.fu=c8;cases c1
  .rfl
  cases c2
  .rfl
  cases c3
  .rfl
  cases c4
  .rfl
  cases c5
  .rfl
  cases c6
  .rfl
  cases c7
  .rfl
  rfl
theorem ud(a b:d7):M4 a b=Y (We a b):=Dn (SizeOf.sizeOf a) λn d=>nf _ a b (az _) n d
end Go.Sf.Sc
namespace Go.Sf.Sc
open Go Go.Sf
mutual
def Di:d7->Nat
 |⟨_,kids,_,_⟩=>1+TC kids
def TC:List d7->Nat
 |[]=>0|k::l=>Di k+TC l
end
mutual
def dep:d7->Nat
 |⟨k,kids,_,_⟩=>(if k=5 then 1 else 0)+wg kids
def wg:List d7->Nat
 |[]=>0|k::l=>max (dep k) (wg l)
end
theorem VA(c:d7):Di c=1+TC c.fu:=by cases c;rfl
variable{k:Int}
theorem te{l:List d7}(d:0<=k)(e:k<l.length):l.drop k.toNat=AA l k::l.drop (k+1).toNat:=by
 rw [show(k+1).toNat=k.toNat+1 by omega,List.drop_eq_getElem_cons U];unfold AA;rw[List.getD_eq_getElem?_getD,List.getElem?_eq_getElem U];rfl
theorem Z0:∀(N:Nat)(c:d7),SizeOf.sizeOf c<=N->(AI c).Sm->∀sx:Int,0<=sx->sx<=1000->∃r,(∀n,N<=n->Cy n c sx=Y r)/\-1<=r/\r<=sx-1/\(0<=r->D9 c/\(Di c:Int)+r<=sx)
 |0,c,h,_,_,_,_=>by have:=Dk c;omega|N+1,c,h,κ,sx,m0,m1=>by
  obtain ⟨L,M,D⟩:=iS κ;obtain⟨O,z,P⟩:=TY c.ea;obtain⟨Q,F,R⟩:=ZD L;have step:∀n,N+1<=n->∃m,n=m+1/\N<=m:=λn d=>⟨n-1,U,U⟩;cases O
  .refine⟨-1,λn d=>?_,U,U,λh=>U⟩;obtain⟨n,rfl,_⟩:=step n d;rw[Cy,z];rfl
  cases Q
  .refine⟨-1,λn d=>?_,U,U,λh=>U⟩;obtain⟨n,rfl,_⟩:=step n d;rw[Cy,z,bs,F];rfl
  have loop:∀(m:Nat)(k left:Int),0<=k->k+m=c.fu.length->-1<=left->left<=1000->∃e w,(∀n,N<=n->MI (ρ:=Int) (λ(q:Int×Int)=>
    if ((decide (q.2<(c.fu.length:Int)))&&(decide (0<=q.1)))=X then
    (idx c.fu q.2).bind λA=>
    (Cy n A q.1).bind λB=>
    Y (.next (B,AJ (q.2+1)))
    else
    Y (.brk (q.1,q.2))) (left,k) (.inl (e,w)))/\-1<=e/\e<=left/\(0<=e->(∀j,k<=j->j<c.fu.length->D9 (AA c.fu j))/\(TC (c.fu.drop k.toNat):Int)+e<=left):=by
   intro m
   induction m with
   |zero=>
    intro k left y I E l1;refine⟨left,k,λn d=>.brk ?_,E,U,λ_=>⟨λj C x=>U,?_⟩⟩
    .rw[ae an]
    .rw[List.drop_of_length_le U,TC];omega
   |succ m ε=>
    intro k left y I E l1;by_cases J:0<=left
    .have o:=AF (l:=c.fu) y U;have:=EO o;obtain⟨r,S,θ,η,H⟩:=Z0 N _ U (D _ o) left J l1;obtain⟨e,w,a1,a2,a3,v⟩:=ε (k+1) r U U θ U;refine⟨e,w,λn d=>.next (s':=(r,k+1)) ?_ (a1 n d),a2,U,λu=>⟨λj C x=>?_,?_⟩⟩
     .rw[ac an,AD y U,bs,S n d,bs,AT U U]
     .by_cases K:j=k
      .subst K;exact(H U).1
      .exact(v u).1 j U x
     .have z:=(H U).2;have F:=(v u).2;rw[te y U,TC];omega
    .refine⟨left,k,λn d=>.brk ?_,E,U,λh=>U⟩;rw[ae an]
  obtain ⟨e,w,a1,a2,a3,v⟩:=loop c.fu.length 0 (sx-1) U U U U;refine⟨e,λn d=>?_,a2,a3,λu=>⟨.mk c (P rfl) (R rfl) (λk D=>?_),?_⟩⟩
  .obtain⟨n,rfl,G⟩:=step n d;rw[Cy,z,bs,F];simp only[bs,x_,x!,if_false];rw[AT (n:=sx-1) U U,(a1 n G).eq,Bq]
  .obtain⟨j,C,x,rfl⟩:=BG D;exact(v u).1 j C x
  .have:=(v u).2;rw[show(0:Int).toNat=0 from rfl,List.drop_zero]at this;rw[VA];omega
variable{c:d7}
theorem mY(d:(AI c).Sm):∃b,Kg c=Y b/\(b=X->D9 c/\Di c<=40):=by
 obtain ⟨r,j,_,_,m⟩:=Z0 (SizeOf.sizeOf c) c (az _) d 40 U U;have e:Rf c 40=Y r:=Dn (SizeOf.sizeOf c) j;unfold Kg;rw[e];exact⟨_,rfl,λh=>by have:=m b?;exact⟨this.1,by have:=this.2;simp at h;omega⟩⟩
theorem W6:∀{l:List d7}{k:d7},k∈l->Di k<=TC l
 |x::l,k,h=>by
  rw [TC];rcases List.mem_cons.1 h with rfl|h
  .omega
  .have:=W6 h;omega
end Go.Sf.Sc
namespace Go.Sf.Sc
open Go Go.Sf
class PL(α:Type)where
 at_:α->Int->Int
 ok:α->Nat->Prop
instance:PL Fp:=⟨AA,λl n=>l.length=n⟩
instance:PL (Option Fp):=⟨λo i=>match o with|none=>-1|some l=>AA l i,λo n=>match o with|none=>True|some l=>l.length=n⟩
structure NZ(f:AM):Prop where
 pn:PL.ok f.gl.d3 f.p.d3.length
 pe:PL.ok f.gl.d4 f.p.d4.length
 ends:∀e∈f.p.d4,0≤e.ke/\e.ke<f.p.d3.length/\0≤e.To/\e.To<f.p.d3.length
 kinds:∀n∈f.p.d3,0<=n/\n<f.is.length/\∀t∈f.g.d3,0<=t/\t<(AA f.is n).length
 small:f.p.d3.length<=1000/\f.p.d4.length<=1000/\f.g.d3.length<=1000/\f.g.d4.length<=1000
def LI(f:AM)(i k:Int):Bool:=
 (decide (PL.at_ f.gl.d4 i<0)||decide (PL.at_ f.gl.d4 i=k))&&decide (AA f.g.d4 k=⟨(AA f.p.d4 i).kg,AA f.ec (AA f.p.d4 i).ke,AA f.ec (AA f.p.d4 i).To⟩)
variable{α:Type}
theorem nM{l:List α}(h:l≠[]):XM l=Y ():=by grind[XM]
variable{l:Fp}{i:Int}
theorem YC(e:0<=i)(d:i<l.length):((XM l).bind λ_=>(idx l i).bind λx=>Y x)=Y (AA l i):=by
 rw [nM (by intro h;subst h;simp at d;omega),bs,AD e d,bs]
variable{n:Nat}
theorem dx:∀{l},PL.ok l n->0<=i->i<n->Mq l i=Y (PL.at_ l i):=by
 intro l h d e
 first
  |(cases l with
    |none=>rfl|some l=>exact YC d (by have:l.length=n:=h;omega))
  |exact YC d (by have:l.length=n:=h;omega)
variable{f:AM}{k:Int}
theorem ni(hf:NZ f)(d:0<=i)(i1:i<f.p.d4.length)(e:0<=k)(h:k<f.g.d4.length)(j:(AA f.p.d4 i).ke<f.ec.length)(hT:(AA f.p.d4 i).To<f.ec.length):EB f i k=Y (LI f i k):=by
 have he:=hf.ends _ (AF d i1);unfold EB LI;rw[AD d i1,bs,dx hf.pe d i1,bs,AD e h,bs,AD he.1 j,bs,AD he.2.2.1 hT,bs]
 grind
def QC(f:AM):Bool:=!l3 (λi=>decide (max (AA f.p.d4 i).ke (AA f.p.d4 i).To=(f.ec.length:Int)-1)&&!l3 (λk=>LI f i k) 0 f.g.d4.length) 0 f.p.d4.length
variable{b:Int}
theorem tR{f:Int->Bool->Option (Bo Bool Bool)}(p:Int->Bool)(h:∀i,0<=i->i<b->f i T=Y (if p i=X then .brk X else .next T)):jj f 0 b T=Y (.inl (l3 p 0 b)):=by
 have key:∀(m:Nat)(i:Int),0<=i->i+m=b->zt f m i T=Y (.inl (l3 p i b)):=by
  intro m
  induction m with
  |zero=>
   intro i d hi;have:l3 p i b=T:=by rw[Bm];intro j q r;omega
   rw [this];rfl
  |succ m u=>
   intro i d hi;rw[F2,h i d U];by_cases o:p i=X
   .have:l3 p i b=X:=by rw[Cg];exact⟨i,A_ _,U,o⟩
    rw [ac o,this]
   .have e:l3 p i b=l3 p (i+1) b:=by
     rw [w!,Cg,Cg]
     grind
    grind
 unfold jj;by_cases hb:0<=b
 .grind
 .have:l3 p 0 b=T:=by rw[Bm];intro j q r;omega
  rw [this,show(b-0).toNat=0 by omega];rfl
theorem k9(hf:NZ f)(o:0<f.ec.length)(h:f.ec.length<=1000):CO f=Y (QC f):=by
 unfold CO QC;rw[BS (λi=>decide (max (AA f.p.d4 i).ke (AA f.p.d4 i).To=(f.ec.length:Int)-1)&&!l3 (λk=>LI f i k) 0 f.g.d4.length) T]
 .generalize l3 (λi=>decide (max (AA f.p.d4 i).ke (AA f.p.d4 i).To=(f.ec.length:Int)-1)&&!l3 (λk=>LI f i k) 0 f.g.d4.length) 0 f.p.d4.length=b;cases b<;>rfl
 .intro i d i1 _;rw[AD d i1,bs,AT (n:=(f.ec.length:Int)-1) U U];by_cases e:max (AA f.p.d4 i).ke (AA f.p.d4 i).To=(f.ec.length:Int)-1
  .rw[ae c_,tR (λk=>LI f i k) (λk j m=>by
    rw [ni hf d i1 j m U U,bs,Iv])]
   generalize l3 (λk=>LI f i k) 0 f.g.d4.length=b;rw[decide_eq_true e];cases b<;>rfl
  grind
def Ao(n:Nat):Fp:=(List.range n).map Int.ofNat
theorem Vw(n:Nat):Ao (n+1)=Ao n++[(n:Int)]:=by grind[Ao,List.range_succ]
def SJ(f:AM)(k:Int):Bool:=(decide (PL.at_ f.gl.d3 f.ec.length<0)||decide (PL.at_ f.gl.d3 f.ec.length=k))&&AA (AA f.is (AA f.p.d3 f.ec.length)) (AA f.g.d3 k)&&!(f.fq&&f.ec.any λx=>decide (k=x))
def SI(f:AM)(k:Int):Bool:=LI f f.eh.length k&&!(f.fq&&f.eh.any λx=>decide (k=x))
def EA:Nat->AM->List d6
 |0,f=>[⟨f.ec,f.eh⟩]|n+1,f=>(Ao f.g.d4.length).flatMap λk=>if SI f k=X then EA n {f with eh:=f.eh++[k]}else[]
def Kq:Nat->AM->List d6
 |0,f=>EA f.p.d4.length f|n+1,f=>(Ao f.g.d3.length).flatMap λk=>if(SJ f k&&QC {f with ec:=f.ec++[k]})=X then Kq n {f with ec:=f.ec++[k]}else[]
theorem bL(a b:List α)(m:Nat):((a.take m)++b).take m=(a++b).take m:=by
 by_cases h:a.length<=m
 .rw[A! h]
 grind
end Go.Sf.Sc
namespace Go.Sf.Sc
open Go Go.Sf
def UR(f:AM)(o:List d6):AM:={f with out:=o}
variable{f:AM}
theorem NZ.out(h:NZ f)(o:List d6):NZ (UR f o):=⟨h.pn,h.pe,h.ends,h.kinds,h.small⟩
theorem R3:∀(n:Nat)(f:AM)(o:List d6),EA n (UR f o)=EA n f
 |0,_,_=>rfl|n+1,f,o=>by
  rw [EA,EA];refine congrArg (λF=>(Ao f.g.d4.length).flatMap F) (funext λk=>?_);have:=R3 n {f with eh:=f.eh++[k]} o;show(if SI f k=X then EA n (UR {f with eh:=f.eh++[k]} o)else[])=_;rw[this]
theorem dA:∀(n:Nat)(f:AM)(o:List d6),Kq n (UR f o)=Kq n f
 |0,f,o=>R3 _ f o|n+1,f,o=>by
  rw [Kq,Kq];refine congrArg (λF=>(Ao f.g.d3.length).flatMap F) (funext λk=>?_);have:=dA n {f with ec:=f.ec++[k]} o;show(if(SJ f k&&QC {f with ec:=f.ec++[k]})=X then Kq n (UR {f with ec:=f.ec++[k]} o)else[])=_;rw[this]
def BH(f:AM)(l:List d6):AM:=UR f ((f.out++l).take f.sx.toNat)
structure Y0(f:AM):Prop where
 m0:0<=f.sx
 m1:f.sx<=10000
 out:(f.out.length:Int)<=f.sx
theorem MP(h:Y0 f):BH f []=f:=by
 unfold BH;rw[A?,A! (by have:=h.out;have:=h.m0;omega)];rfl
theorem aG(h:(f.out.length:Int)=f.sx)(l:List d6):BH f l=f:=by
 unfold BH;rw[B_ U,A! U];rfl
theorem aI(h:Y0 f)(l:List d6):Y0 (BH f l):=by
 refine ⟨h.m0,h.m1,?_⟩;have:=h.m0;show(((f.out++l).take f.sx.toNat).length:Int)<=f.sx
 grind
theorem aH(f:AM)(a b:List d6):BH (BH f a) b=BH f (a++b):=by
 show UR f ((((f.out++a).take f.sx.toNat)++b).take f.sx.toNat)=_;rw[bL,ci];rfl
theorem X5:∀(n:Nat)(f:AM),NZ f->Y0 f->f.ec.length=f.p.d3.length->f.eh.length+n=f.p.d4.length->∀m,n+1<=m->A8 m f=Y (BH f (EA n f))
 |n,f,hf,hr,J,he,m,w=>by
  obtain ⟨m,rfl⟩:∃k,m=k+1:=⟨m-1,U⟩;have K:=hf.small;have M:=hr.m0;have N:=hr.m1;have O:=hr.out;rw[A8];by_cases e:(f.out.length:Int)=f.sx
  .grind[aG]
  rw [ae f_,ae an]
  match n,he,w with
  |0,he,w=>
   rw [ae an];unfold slices_Clone_int;rw[BR b_,bs,BR b_,bs,AS a_,bs,bs];unfold BH;rw[A! (by simp[EA];omega)];rfl
  |n+1,he,w=>
   rw [ac an];have F:∀k,SI f k=X->NZ {f with eh:=f.eh++[k]}:=λk _=>⟨hf.pn,hf.pe,hf.ends,hf.kinds,hf.small⟩;rw[B0 (a:=0) (s:=f) (λi=>BH f ((Ao i.toNat).flatMap λk=>if SI f k=X then EA n {f with eh:=f.eh++[k]}else[])) U (MP hr)]
   .grind[A',EA]
   .intro i B i1;have C:Ao (i+1).toNat=Ao i.toNat++[i]:=by
     rw [show(i+1).toNat=i.toNat+1 by omega,Vw];rw[show((i.toNat:Nat):Int)=i by omega]
    have D:∀l,BH f ((Ao (i+1).toNat).flatMap l)=BH (BH f ((Ao i.toNat).flatMap l)) (l i):=by
     intro l;rw[aH,C,B'];simp
    rw [D];generalize (Ao i.toNat).flatMap (λk=>if SI f k=X then EA n {f with eh:=f.eh++[k]}else[])=L;have o:=aI hr L;have u:NZ (BH f L):=hf.out _;have y:=hf.ends _ (AF (l:=f.p.d4) (i:=(f.eh.length:Int)) U U);rw[ni u (i:=(f.eh.length:Int)) (k:=i) U (by show _<(f.p.d4.length:Int);omega) B (by exact i1) (by show(AA f.p.d4 f.eh.length).ke<(f.ec.length:Int);omega) (by show(AA f.p.d4 f.eh.length).To<(f.ec.length:Int);omega),bs];have E:slices_Contains_int (BH f L).eh i=Y (f.eh.any λx=>decide (i=x)):=MO f.eh i;rw[E];have q:LI (BH f L) f.eh.length i=LI f f.eh.length i:=rfl;have key:((AY (BH f L).eh [i]).bind λh=>
      (A8 m (AM.mk (BH f L).p (BH f L).g (BH f L).is (BH f L).gl (BH f L).fq (BH f L).sx (BH f L).ec h (BH f L).out)).bind λd=>
      (slc d.eh 0 (f.eh.length:Int)).bind λj=>
      Y (AM.mk d.p d.g d.is d.gl d.fq d.sx d.ec j d.out))=Y (BH (BH f L) (EA n {f with eh:=f.eh++[i]})):=by
     have G:AY (BH f L).eh [i]=Y (f.eh++[i]):=AS (by show f.eh.length+1<=AX;unfold AX;omega);have z:=X5 n {BH f L with eh:=f.eh++[i]} ⟨hf.pn,hf.pe,hf.ends,hf.kinds,hf.small⟩ ⟨o.m0,o.m1,o.out⟩ J (by show(f.eh++[i]).length+n=f.p.d4.length;simp;omega) m U;have H:EA n {BH f L with eh:=f.eh++[i]}=EA n {f with eh:=f.eh++[i]}:=R3 n {f with eh:=f.eh++[i]} _;rw[H]at z;rw[G,bs];show(A8 m {BH f L with eh:=f.eh++[i]}).bind _=_;rw[z,bs];have I:slc (BH {BH f L with eh:=f.eh++[i]} (EA n {f with eh:=f.eh++[i]})).eh 0 (f.eh.length:Int)=Y f.eh:=by
      show slc (f.eh++[i]) 0 (f.eh.length:Int)=_;rw[Ii U (by rw[b6];omega),A',B!]
     rw [I];rfl
    rw [key,q];have v:SI f i=(LI f f.eh.length i&&!(f.fq&&f.eh.any λx=>decide (i=x))):=rfl;have r:(BH f L).fq=f.fq:=rfl;rw[v,r];generalize P:EA n {f with eh:=f.eh++[i]}=A;cases LI f f.eh.length i
    .simp only[x?,x!,if_false,MP o];rfl
    .cases f.fq
     .rfl
     .cases f.eh.any λx=>decide (i=x)
      .rfl
      .simp only[y_,x_,y!,x!,if_false,MP o];rfl
end Go.Sf.Sc
namespace Go.Sf.Sc
open Go Go.Sf
theorem X6:∀(n:Nat)(f:AM),NZ f->Y0 f->f.eh=[]->f.ec.length+n=f.p.d3.length->∀m,n+f.p.d4.length+1<=m->A8 m f=Y (BH f (Kq n f))
 |0,f,hf,hr,he,O,m,P=>by
  grind [Kq,X5]
 |n+1,f,hf,hr,he,O,m,P=>by
  obtain ⟨m,rfl⟩:∃k,m=k+1:=⟨m-1,U⟩;have Q:=hf.small;have R:=hr.m0;have S:=hr.m1;have θ:=hr.out;rw[A8];by_cases j:(f.out.length:Int)=f.sx
  .grind[aG]
  rw [ae e?,ac an];rw[B0 (a:=0) (s:=f) (λi=>BH f ((Ao i.toNat).flatMap λk=>if(SJ f k&&QC {f with ec:=f.ec++[k]})=X then Kq n {f with ec:=f.ec++[k]}else[])) U (MP hr)]
  .grind[A',Kq]
  .intro i z i1;have D:Ao (i+1).toNat=Ao i.toNat++[i]:=by
    rw [show(i+1).toNat=i.toNat+1 by omega,Vw];rw[show((i.toNat:Nat):Int)=i by omega]
   have E:∀l,BH f ((Ao (i+1).toNat).flatMap l)=BH (BH f ((Ao i.toNat).flatMap l)) (l i):=by
    intro l;rw[aH,D,B'];simp
   rw [E];generalize (Ao i.toNat).flatMap (λk=>if(SJ f k&&QC {f with ec:=f.ec++[k]})=X then Kq n {f with ec:=f.ec++[k]}else[])=L;have o:=aI hr L;have u:(f.ec.length:Int)<(f.p.d3.length:Int):=U
   have q:=hf.kinds _ (AF (l:=f.p.d3) (i:=(f.ec.length:Int)) U u);have v:=q.2.2 _ (AF z i1);have key:((AY (BH f L).ec [i]).bind λe=>
     (CO (AM.mk (BH f L).p (BH f L).g (BH f L).is (BH f L).gl (BH f L).fq (BH f L).sx e (BH f L).eh (BH f L).out)).bind λr=>
     if r=X then
     (A8 m (AM.mk (BH f L).p (BH f L).g (BH f L).is (BH f L).gl (BH f L).fq (BH f L).sx e (BH f L).eh (BH f L).out)).bind λd=>
     (slc d.ec 0 (f.ec.length:Int)).bind λh=>
     Y (AM.mk d.p d.g d.is d.gl d.fq d.sx h d.eh d.out)
     else
     (slc e 0 (f.ec.length:Int)).bind λh=>
     Y (AM.mk (BH f L).p (BH f L).g (BH f L).is (BH f L).gl (BH f L).fq (BH f L).sx h (BH f L).eh (BH f L).out))=Y (BH (BH f L) (if QC {f with ec:=f.ec++[i]}=X then Kq n {f with ec:=f.ec++[i]}else[])):=by
    have F:AY (BH f L).ec [i]=Y (f.ec++[i]):=AS (by show f.ec.length+1<=AX;unfold AX;omega);have B:slc (f.ec++[i]) 0 (f.ec.length:Int)=Y f.ec:=by
     rw [Ii U (by rw[b6];omega),A',B!]
    have G:CO {BH f L with ec:=f.ec++[i]}=Y (QC {f with ec:=f.ec++[i]}):=k9 (f:={BH f L with ec:=f.ec++[i]}) ⟨hf.pn,hf.pe,hf.ends,hf.kinds,hf.small⟩ (by show 0<(f.ec++[i]).length;simp) (by show(f.ec++[i]).length<=1000;rw[b6];simp;omega);have C:=X6 n {BH f L with ec:=f.ec++[i]} ⟨hf.pn,hf.pe,hf.ends,hf.kinds,hf.small⟩ ⟨o.m0,o.m1,o.out⟩ he (by show(f.ec++[i]).length+n=f.p.d3.length;rw[b6];simp;omega) m (by show n+f.p.d4.length+1<=m;omega);have H:Kq n {BH f L with ec:=f.ec++[i]}=Kq n {f with ec:=f.ec++[i]}:=dA n {f with ec:=f.ec++[i]} _;rw[H]at C;rw[F,bs];show(CO {BH f L with ec:=f.ec++[i]}).bind _=_;rw[G,bs];cases QC {f with ec:=f.ec++[i]}
    .rw[ae a!,ae a!,B,MP o];rfl
    .rw[ac rfl,ac rfl];show(A8 m {BH f L with ec:=f.ec++[i]}).bind _=_;rw[C,bs];have I:slc (BH {BH f L with ec:=f.ec++[i]} (Kq n {f with ec:=f.ec++[i]})).ec 0 (f.ec.length:Int)=Y f.ec:=B;rw[I];rfl
   have J:Mq (BH f L).gl.d3 (f.ec.length:Int)=Y (PL.at_ f.gl.d3 f.ec.length):=dx (n:=f.p.d3.length) hf.pn U U;have K:idx (BH f L).p.d3 (f.ec.length:Int)=Y (AA f.p.d3 f.ec.length):=AD U u;have hi:idx (BH f L).is (AA f.p.d3 f.ec.length)=Y (AA f.is (AA f.p.d3 f.ec.length)):=AD q.1 q.2.1;have M:idx (AA f.is (AA f.p.d3 f.ec.length)) (AA f.g.d3 i)=Y (AA (AA f.is (AA f.p.d3 f.ec.length)) (AA f.g.d3 i)):=AD v.1 v.2;have N:slices_Contains_int (BH f L).ec i=Y (f.ec.any λx=>decide (i=x)):=MO f.ec i;have w:(BH f L).fq=f.fq:=rfl;have y:SJ f i=((decide (PL.at_ f.gl.d3 f.ec.length<0)||decide (PL.at_ f.gl.d3 f.ec.length=i))&&AA (AA f.is (AA f.p.d3 f.ec.length)) (AA f.g.d3 i)&&!(f.fq&&f.ec.any λx=>decide (i=x))):=rfl;rw[AD z i1,bs,J,bs,K,bs,hi,bs,M,bs,N,key,w,y];generalize AA (AA f.is (AA f.p.d3 f.ec.length)) (AA f.g.d3 i)=c2;have hb:(decide (0<=PL.at_ f.gl.d3 f.ec.length)&&!decide (PL.at_ f.gl.d3 f.ec.length=i))=!(decide (PL.at_ f.gl.d3 f.ec.length<0)||decide (PL.at_ f.gl.d3 f.ec.length=i)):=by
    rw [Bool.not_or];congr 1;rw[<-decide_not];exact decide_eq_decide.2 U
   rw [hb];generalize (decide (PL.at_ f.gl.d3 f.ec.length<0)||decide (PL.at_ f.gl.d3 f.ec.length=i))=c1;generalize QC {f with ec:=f.ec++[i]}=c5;generalize Kq n {f with ec:=f.ec++[i]}=A;cases c1
   .simp only[x?,x!,if_false,MP o];rfl
   .cases c2
    .simp only[y!,x?,x!,if_false,MP o];rfl
    .cases f.fq
     .rfl
     .cases f.ec.any λx=>decide (i=x)
      .rfl
      .simp only[y_,x_,y!,x?,x!,if_false,MP o];rfl
variable{f:AM}
theorem nX(hf:NZ f)(hr:Y0 f)(he:f.eh=[])(d:f.ec=[]):HH f=Y (BH f (Kq f.p.d3.length f)):=
 Dn (f.p.d3.length+f.p.d4.length+1) λm e=>X6 _ f hf hr he (by rw[d];simp) m e
end Go.Sf.Sc
namespace Go.Sf.Sc
open Go Go.Sf
theorem At(n:Nat):(Ao n).length=n:=by simp[Ao]
variable{n:Nat}{i:Int}
theorem Cu:i∈Ao n↔0<=i/\i<n:=by
 unfold Ao;rw[List.mem_map];constructor
 .grind
 .rintro⟨d,e⟩;exact⟨i.toNat,List.mem_range.2 U,by show((i.toNat:Nat):Int)=i;omega⟩
variable{α:Type}
theorem I5[Inhabited α](F:Int->α)(d:0<=i)(e:i<n):AA ((Ao n).map F) i=F i:=by
 unfold AA Ao
 grind
theorem Ea(d:0<=i):Ao (i+1).toNat=Ao i.toNat++[i]:=by
 rw [show(i+1).toNat=i.toNat+1 by omega,Vw,show((i.toNat:Nat):Int)=i by omega]
def Pd(t:AC)(a:Int):a6:=(Ao t.d3.length).map λk=>Gp t k a
def Jz(t:AC):List a6:=(Ao t.d3.length).map (Pd t)
variable{t:AC}{a:Int}
theorem uQ(hf:Ar t)(h:FO t)(hv:(A0 t).2=0)(a0:0<=a)(a1:a<t.d3.length):J0 t a=Y ((Ao t.d3.length).filter λi=>Gp t i a,0):=by
 have d:=h.ec;unfold J0;have hb:L5 t a=X:=by simp[L5,a0,a1]
 rw [ZV hf,bs,ae (by simp[hv,hb])];rw[B0 (λi=>(Ao i.toNat).filter λi=>Gp t i a) U t_,bs,A']
 grind [qV,Ea,Ao,Gp,List.length_filter_le,At,AS,AX]
variable{l:Fp}
theorem vM(r:∀x∈l,0<=x/\x<n):n8 (λ(i2:Int)(s2:a6)=>
  (idx l i2).bind λd=>
  (idx s2 d).bind λ_=>
  Y (A2 s2 d X)) 0 (l.length:Int) (B? n T)=Y ((Ao n).map λk=>l.any λx=>decide (x=k)):=by
 rw [B0 (λj=>(Ao n).map λk=>(l.take j.toNat).any λx=>decide (x=k)) U (by
  refine C_ (by simp[At]) (λj m w=>V))]
 .rw[A',List.take_length]
 .intro j o m;have q:=r _ (AF o m);rw[AD o m,bs,AD q.1 (by rw[c9,At];exact q.2),bs,B5 o m];congr 1;unfold A2;refine C_ V (λk y u=>?_);have v:k<n:=by simpa[At]using u
  rw [List.getElem_set];have e:(Ao n)[k]'(by rw[At];exact v)=(k:Int):=by simp[Ao]
  simp only[List.getElem_map,e,C',C!,C?,y?];by_cases h:(AA l j).toNat=k
  .rw[ac h,decide_eq_true (show AA l j=(k:Int)by omega),Bool.or_true]
  .rw[ae h,decide_eq_false (show¬AA l j=(k:Int)by omega),y?]
theorem lD(hf:Ar t)(h:FO t)(hv:(A0 t).2=0):G9 t=Y (Jz t):=by
 have r:=h.ec;unfold G9;rw[B0 (λi=>(Ao i.toNat).map (Pd t)) U t_,bs,A']
 .rfl
 .intro i o i1;have q:HN (t.d3.length:Int) T=Y (B? t.d3.length T):=by
   unfold HN;rw[ac U,A']
  rw [q,bs,uQ hf h hv o i1,bs];have:=vM (n:=t.d3.length) (l:=(Ao t.d3.length).filter λk=>Gp t k i) (λx j=>Cu.1 (D_.1 j).1);show(n8 (λ(i2:Int)(s2:a6)=>
   (idx ((Ao t.d3.length).filter λk=>Gp t k i) i2).bind λd=>
   (idx s2 d).bind λ_=>
   Y (A2 s2 d X)) 0 (((Ao t.d3.length).filter λk=>Gp t k i).length:Int) (B? t.d3.length T)).bind _=_
  rw [this,bs,AS (by rw[c9,At];simp;unfold AX;omega),bs,Ea o,List.map_append];congr 2;simp only[List.map_cons,List.map_nil];congr 1;unfold Pd;refine List.map_congr_left (λk m=>?_);have m:=Cu.1 m;rw[w!,D'];constructor
  .rintro⟨x,j,e⟩;rw[tn]at e;subst e;exact(D_.1 j).2
  .intro hb;exact⟨k,D_.2 ⟨Cu.2 m,hb⟩,V⟩
end Go.Sf.Sc
namespace Go.Sf.Sc
open Go Go.Sf
def FG:Nat->AM->List d6
 |0,f=>EA f.p.d4.length f|n+1,f=>(Ao f.g.d3.length).flatMap λk=>if SJ f k=X then FG n {f with ec:=f.ec++[k]}else[]
def jv(f:AM)(i:Int):Prop:=0<=i/\i<f.p.d4.length/\0<=(AA f.p.d4 i).ke/\(AA f.p.d4 i).ke<f.ec.length/\0<=(AA f.p.d4 i).To/\(AA f.p.d4 i).To<f.ec.length/\∀k:Int,0<=k->k<f.g.d4.length->LI f i k=T
theorem Xc(f:AM)(i k:Int):LI f i k=((decide (PL.at_ f.gl.d4 i<0)||decide (PL.at_ f.gl.d4 i=k))&&decide (AA f.g.d4 k=⟨(AA f.p.d4 i).kg,AA f.ec (AA f.p.d4 i).ke,AA f.ec (AA f.p.d4 i).To⟩)):=rfl
variable{α:Type}{i:Int}
theorem LY[Inhabited α](l:List α)(x:α)(d:0<=i)(e:i<l.length):AA (l++[x]) i=AA l i:=by
 unfold AA
 grind
theorem mT:∀(n:Nat)(f:AM)(i:Int),jv f i->(f.eh.length:Int)<=i->i<f.eh.length+n->EA n f=[]
 |0,f,i,_,e,h=>by omega|n+1,f,i,hd,e,h=>by
  rw [EA];refine D!.2 (λk d=>?_);have d:=Cu.1 d;by_cases he:(f.eh.length:Int)=i
  .have:SI f k=T:=by
    unfold SI;rw[he,hd.2.2.2.2.2.2 k d.1 d.2];rfl
   grind
  .split
   .exact mT n {f with eh:=f.eh++[k]} i hd (by show((f.eh++[k]).length:Int)<=i;rw[b6];simp;omega) (by show i<((f.eh++[k]).length:Int)+n;rw[b6];simp;omega)
   .rfl
theorem dX:∀(n:Nat)(f:AM)(i:Int),f.eh=[]->jv f i->FG n f=[]
 |0,f,i,he,hd=>by
  rw [FG];exact mT _ f i hd (by rw[he];simpa using hd.1) (by rw[he];simpa using hd.2.1)
 |n+1,f,i,he,hd=>by
  rw [FG];refine D!.2 (λk o=>?_);split
  .refine dX n {f with ec:=f.ec++[k]} i he ?_;obtain⟨d,e,h,v,m,w,x⟩:=hd;have u:((f.ec++[k]).length:Int)=f.ec.length+1:=by rw[b6];simp
   refine ⟨d,e,h,?_,m,?_,λj q r=>?_⟩
   .grind
   .grind
   grind [Xc,AA,LY]
  .rfl
variable{f:AM}
theorem qf(hf:NZ f)(h:QC f=T):∃i,jv f i:=by
 unfold QC at h;rw[w_,Cg]at h;obtain⟨i,d,i1,h⟩:=h;rw[pq,tn,z_,Bm]at h;have he:=hf.ends _ (AF d i1);exact⟨i,d,i1,he.1,U,he.2.2.1,U,h.2⟩
theorem cz:∀(n:Nat)(f:AM),NZ f->f.eh=[]->Kq n f=FG n f
 |0,_,_,_=>rfl|n+1,f,hf,he=>by
  rw [Kq,FG];refine congrArg (λF=>(Ao f.g.d3.length).flatMap F) (funext λk=>?_);have d:NZ {f with ec:=f.ec++[k]}:=⟨hf.pn,hf.pe,hf.ends,hf.kinds,hf.small⟩;cases SJ f k
  .rfl
  .cases e:QC {f with ec:=f.ec++[k]}
   .obtain⟨i,hd⟩:=qf d e
    grind [dX]
   .simp;exact cz n _ d he
end Go.Sf.Sc
namespace Go.Sf.Sc
open Go Go.Sf
variable{a b:Int}
theorem Pn{σ ρ:Type}{f:σ×Int->Option (Bo (σ×Int) ρ)}(g:Int->σ){s:σ}(d:a<=b)(e:s=g a)(h:∀i,a<=i->i<b->f (g i,i)=Y (.next (g (i+1),i+1)))(hb:f (g b,b)=Y (.brk (g b,b))):Cq f (s,a)=Y (.inl (g b,b)):=by
 subst e;have key:∀(n:Nat)(i:Int),a<=i->i+n=b->MI f (g i,i) (.inl (g b,b)):=by
  intro n
  induction n with
  |zero=>
   intro i _ hi;have:i=b:=U
   subst this;exact .brk hb
  |succ n m=>
   intro i j o;exact .next (h i j U) (m (i+1) U U)
 exact (key (b-a).toNat a (A_ _) U).eq
def I9(s:An)(ec eh:Fp):AM:=⟨s.p,s.g,Jz s.t,s.gl,s.fq,s.sx+1,ec,eh,s.Aav⟩
def Cb(s:An)(l:List d6):An:={s with Aav:=(s.Aav++l).take (s.sx+1).toNat}
structure Xs(s:An):Prop where
 m0:0<=s.sx
 m1:s.sx<=9999
 out:(s.Aav.length:Int)<=s.sx+1
variable{s:An}
theorem Q3(h:Xs s):Cb s []=s:=by
 unfold Cb;rw[A?,A! (by have:=h.out;have:=h.m0;omega)]
theorem Ym(h:(s.Aav.length:Int)=s.sx+1)(l:List d6):Cb s l=s:=by
 unfold Cb;rw[B_ U,A! U]
theorem Yn(h:Xs s)(l:List d6):Xs (Cb s l):=by
 refine ⟨h.m0,h.m1,?_⟩;have:=h.m0;show(((s.Aav++l).take (s.sx+1).toNat).length:Int)<=s.sx+1
 grind
theorem Ws(s:An)(a b:List d6):Cb (Cb s a) b=Cb s (a++b):=by
 show ({s with Aav:=(((s.Aav++a).take (s.sx+1).toNat)++b).take (s.sx+1).toNat}:An)=_;rw[bL,ci];rfl
variable{l:Fp}
theorem oM(s:An)(d:l.length<=1000)(n:Int):CW s l n=Y (s.fq&&l.any λx=>decide (n=x)):=by
 unfold CW;cases s.fq
 .rw[WW (λ_=>T) X (a:=0) (b:=0) (A_ _) (λi i1 i2=>U) (by rw[ae V])];rfl
 .rw[WW (λi=>decide (AA l i=n)) X (a:=0) (b:=l.length) U (λi i1 i2=>by
   rw [ac (by simp;exact i2),AD i1 i2,bs,AT U U,Iv]) (by rw[ae V])]
  have e:l3 (λi=>decide (AA l i=n)) 0 l.length=l.any λx=>decide (n=x):=by
   rw [w!,Cg,D']
   grind [AF,BG]
  rw [e,Bool.true_and];cases l.any λx=>decide (n=x)<;>rfl
theorem aw:∀(n:Nat)(s:An)(ec l:Fp),NZ (I9 s [] [])->Xs s->ec.length=s.p.d3.length->l.length+n=s.p.d4.length->∀m,n+1<=m->Br m s ec l=Y (Cb s (EA n (I9 s ec l)))
 |n,s,ec,l,hf,hr,y,he,m,z=>by
  obtain ⟨m,rfl⟩:∃k,m=k+1:=⟨m-1,U⟩;have r:=hf.small;have P:s.p.d3.length<=1000:=r.1;have s2:s.p.d4.length<=1000:=r.2.1;have Q:s.g.d3.length<=1000:=r.2.2.1;have R:s.g.d4.length<=1000:=r.2.2.2;have S:=hr.m0;have θ:=hr.m1;have ε:=hr.out;rw[Br];by_cases u:(s.Aav.length:Int)=s.sx+1
  .grind[Ym]
  rw [ae an]
  match n,he,z with
  |0,he,z=>
   rw [ac an,BR b_,bs,BR b_,bs,AS a_,bs];unfold Cb;rw[A! (by simp[EA];omega)];rfl
  |n+1,he,z=>
   have e:(0:Int)<=l.length:=U
   have q:(l.length:Int)<s.p.d4.length:=U
   have d:=hf.ends _ (AF (l:=s.p.d4) e q);have E:(AA s.p.d4 l.length).ke<ec.length:=by rw[y];exact d.2.1
   have G:(AA s.p.d4 l.length).To<ec.length:=by rw[y];exact d.2.2.2
   have v:(l.length:Int)<s.gl.d4.length:=by
    have:s.gl.d4.length=s.p.d4.length:=hf.pe;omega
   rw [ae an,AD e q,bs];rw[Pn (λi=>Cb s ((Ao i.toNat).flatMap λk=>if SI (I9 s ec l) k=X then EA n (I9 s ec (l++[k]))else[])) (a:=0) (b:=(s.g.d4.length:Int)) (s:=s) U (Q3 hr).symm (λi B i1=>by
    have H:∀F,Cb s ((Ao (i+1).toNat).flatMap F)=Cb (Cb s ((Ao i.toNat).flatMap F)) (F i):=by
     intro F;rw[Ws,Ea B,List.flatMap_append];simp
    rw [H];generalize (Ao i.toNat).flatMap (λk=>if SI (I9 s ec l) k=true then EA n (I9 s ec (l++[k]))else[])=L;have C:=Yn hr L;rw[ac (by rw[tn];exact i1)];have I:idx (Cb s L).g.d4 i=some (AA s.g.d4 i):=AD B i1;have J:idx (Cb s L).gl.d4 (l.length:Int)=some (AA s.gl.d4 l.length):=AD e v;have K:CW (Cb s L) l i=some (s.fq&&l.any λx=>decide (i=x)):=oM (Cb s L) U i;have key:((AY [] l).bind λh=>
      (AY h [i]).bind λj=>
      (Br m (Cb s L) ec j).bind λo=>
      some (.next (o,AJ (i+1)):Bo (An×Int) An))=some (.next (Cb (Cb s L) (EA n (I9 s ec (l++[i]))),i+1)):=by
     have D:=aw n (Cb s L) ec (l++[i]) ⟨hf.pn,hf.pe,hf.ends,hf.kinds,hf.small⟩ C y (by show(l++[i]).length+n=s.p.d4.length;rw[b6];simp;omega) m U;have M:EA n (I9 (Cb s L) ec (l++[i]))=EA n (I9 s ec (l++[i])):=R3 n (I9 s ec (l++[i])) _;rw[M]at D;rw[BR b_,bs,AS a_,bs,D,bs,AT U U]
    rw [I,bs,J,bs,K,key];simp only[bs];rw[AD d.1 E,AD d.2.2.1 G,AT (n:=i+1) U U];simp only[bs];have w:SI (I9 s ec l) i=(((decide (AA s.gl.d4 l.length<0)||decide (AA s.gl.d4 l.length=i))&&decide (AA s.g.d4 i=⟨(AA s.p.d4 l.length).kg,AA ec (AA s.p.d4 l.length).ke,AA ec (AA s.p.d4 l.length).To⟩))&&!(s.fq&&l.any λx=>decide (i=x))):=rfl;have N:decide (AA s.g.d4 i=⟨(AA s.p.d4 l.length).kg,AA ec (AA s.p.d4 l.length).ke,AA ec (AA s.p.d4 l.length).To⟩)=(decide ((AA s.p.d4 l.length).kg=(AA s.g.d4 i).kg)&&decide ((AA s.g.d4 i).ke=AA ec (AA s.p.d4 l.length).ke)&&decide ((AA s.g.d4 i).To=AA ec (AA s.p.d4 l.length).To)):=by
     rw [Bool.eq_iff_iff];simp[tn];generalize AA s.g.d4 i=x;obtain⟨x1,κ,η⟩:=x;simp;constructor
     .rintro⟨a,b,c⟩;exact⟨⟨a.symm,b⟩,c⟩
     .rintro⟨⟨a,b⟩,c⟩;exact⟨a.symm,b,c⟩
    have O:(decide (AA s.gl.d4 l.length<0)||decide (AA s.gl.d4 l.length=i))=!(decide (0<=AA s.gl.d4 l.length)&&!decide (AA s.gl.d4 l.length=i)):=by
     rw [Bool.not_and,Bool.not_not];congr 1;rw[<-decide_not];exact decide_eq_decide.2 U
    rw [w,N,O];generalize EA n (I9 s ec (l++[i]))=A;generalize decide (0<=AA s.gl.d4 l.length)=c1;generalize decide (AA s.gl.d4 l.length=i)=c2;generalize decide ((AA s.p.d4 l.length).kg=(AA s.g.d4 i).kg)=c3;generalize decide ((AA s.g.d4 i).ke=AA ec (AA s.p.d4 l.length).ke)=c4;generalize decide ((AA s.g.d4 i).To=AA ec (AA s.p.d4 l.length).To)=c5;generalize (s.fq&&l.any λx=>decide (i=x))=c6;cases c1<;>cases c2<;>cases c3<;>cases c4<;>cases c5<;>cases c6<;>first|rfl|(simp[Q3 C];try rfl)) (by rw[ae (by simp[Cb])]),Bq,A',EA]
   rfl
end Go.Sf.Sc
namespace Go.Sf.Sc
open Go Go.Sf
def Ub(s:An)(l:Fp)(i k:Int):Bool:=decide (AA s.g.d4 k=⟨(AA s.p.d4 i).kg,AA l (AA s.p.d4 i).ke,AA l (AA s.p.d4 i).To⟩)
def T3(s:An)(l:Fp)(i:Int):Bool:=(decide ((AA s.p.d4 i).ke<l.length)&&decide ((AA s.p.d4 i).To<l.length))&&!(Ao s.g.d4.length).any (Ub s l i)
variable{s:An}{l:Fp}
theorem xh(hf:NZ (I9 s [] [])):Fv s l=Y (!l3 (T3 s l) 0 s.p.d4.length):=by
 unfold Fv;rw[BS (T3 s l) T]
 .cases l3 (T3 s l) 0 s.p.d4.length<;>rfl
 .intro i d i1 _;have he:=hf.ends _ (AF (l:=s.p.d4) d i1);rw[AD d i1,bs];unfold T3;by_cases h:(AA s.p.d4 i).ke<l.length
  .by_cases hT:(AA s.p.d4 i).To<l.length
   .rw[ae an,B0 (λk=>(Ao k.toNat).any (Ub s l i)) U t_,bs,A',decide_eq_true h,decide_eq_true hT]
    .grind
    .intro k e j;rw[AD e j,bs,Ea e,C'];have m:Ub s l i k=(decide ((AA s.p.d4 i).kg=(AA s.g.d4 k).kg)&&decide ((AA s.g.d4 k).ke=AA l (AA s.p.d4 i).ke)&&decide ((AA s.g.d4 k).To=AA l (AA s.p.d4 i).To)):=by
      unfold Ub;rw[w!];simp[tn];generalize AA s.g.d4 k=x;obtain⟨x1,o,q⟩:=x;simp;constructor
      .rintro⟨a,b,c⟩;exact⟨⟨a.symm,b⟩,c⟩
      .rintro⟨⟨a,b⟩,c⟩;exact⟨a.symm,b,c⟩
     rw [AD he.1 h,AD he.2.2.1 hT];simp only[C!,C?,y?,bs];rw[m];generalize (Ao k.toNat).any (Ub s l i)=c1;generalize decide ((AA s.p.d4 i).kg=(AA s.g.d4 k).kg)=c3;generalize decide ((AA s.g.d4 k).ke=AA l (AA s.p.d4 i).ke)=c4;generalize decide ((AA s.g.d4 k).To=AA l (AA s.p.d4 i).To)=c5;cases c1<;>cases c3<;>cases c4<;>cases c5<;>rfl
   grind
  grind
theorem xd(hf:NZ (I9 s [] []))(h:l3 (T3 s l) 0 s.p.d4.length=X):∃i,jv (I9 s l []) i:=by
 rw [Cg]at h;obtain⟨i,d,i1,h⟩:=h;unfold T3 at h;rw[pq,pq,tn,tn,z_,List.any_eq_false]at h;have he:=hf.ends _ (AF (l:=s.p.d4) d i1);refine⟨i,d,i1,he.1,h.1.1,he.2.2.1,h.1.2,λk j m=>?_⟩;have:=h.2 k (Cu.2 ⟨j,m⟩);have e:Ub s l i k=T:=by rw[<-w?];exact this
 rw [Xc];show((decide (AA s.gl.d4 i<0)||decide (AA s.gl.d4 i=k))&&Ub s l i k)=T;rw[e,y!]
end Go.Sf.Sc
namespace Go.Sf.Sc
open Go Go.Sf
theorem dB:∀(n:Nat)(f:AM)(o:List d6),FG n (UR f o)=FG n f
 |0,f,o=>R3 _ f o|n+1,f,o=>by
  rw [FG,FG];refine congrArg (λF=>(Ao f.g.d3.length).flatMap F) (funext λk=>?_);have:=dB n {f with ec:=f.ec++[k]} o
  grind [SJ,FG,UR]
theorem ax:∀(n:Nat)(s:An)(l:Fp),FO s.t->NZ (I9 s [] [])->Xs s->l.length+n=s.p.d3.length->∀m,n+1<=m->Bs m s l=Y (Cb s (FG n (I9 s l [])))
 |n,s,l,N,hf,hr,I,m,y=>by
  obtain ⟨m,rfl⟩:∃k,m=k+1:=⟨m-1,U⟩;have J:=hf.small;have ζ:s.p.d3.length<=1000:=J.1;have δ:s.g.d3.length<=1000:=J.2.2.1;have Z:=hr.m0;have h1:=hr.m1;have h2:=hr.out;rw[Bs];by_cases C:(s.Aav.length:Int)=s.sx+1
  .grind[Ym]
  rw [ae an,xh hf];cases hd:l3 (T3 s l) 0 s.p.d4.length
  case true=>
   grind [xd,dX,I9,Q3]
  simp only[bs,Bool.not_false,x_,x!,if_false]
  match n,I,y with
  |0,I,y=>
   rw [ac an,Option.bind_fun_some,FG];exact Dn (s.p.d4.length+1) λm y=>aw s.p.d4.length s l [] hf hr U V m U
  |n+1,I,y=>
   have v:(l.length:Int)<s.p.d3.length:=U
   have o:(0:Int)<=l.length:=U
   have D:(l.length:Int)<s.gl.d3.length:=by
    have:s.gl.d3.length=s.p.d3.length:=hf.pn;omega
   have O:(Jz s.t).length=s.t.d3.length:=by unfold Jz;rw[c9,At]
   have d:=hf.kinds _ (AF (l:=s.p.d3) o v);have E:AA s.p.d3 l.length<s.t.d3.length:=by rw[<-O];exact d.2.1
   have j:AA (Jz s.t) (AA s.p.d3 l.length)=Pd s.t (AA s.p.d3 l.length):=I5 (Pd s.t) d.1 E;rw[ae an];rw[Pn (λi=>Cb s ((Ao i.toNat).flatMap λk=>if SJ (I9 s l []) k=X then FG n (I9 s (l++[k]) [])else[])) (a:=0) (b:=(s.g.d3.length:Int)) (s:=s) U (Q3 hr).symm (λi z i1=>by
    have P:∀F,Cb s ((Ao (i+1).toNat).flatMap F)=Cb (Cb s ((Ao i.toNat).flatMap F)) (F i):=by
     intro F;rw[Ws,Ea z,List.flatMap_append];simp
    rw [P];generalize (Ao i.toNat).flatMap (λk=>if SJ (I9 s l []) k=true then FG n (I9 s (l++[k]) [])else[])=L;have K:=Yn hr L;rw[ac (by rw[tn];exact i1)];have q:=d.2.2 _ (AF (l:=s.g.d3) z i1);have w:AA s.g.d3 i<s.t.d3.length:=by
     have h:=q.2;have e:AA (I9 s [] []).is (AA s.p.d3 l.length)=Pd s.t (AA s.p.d3 l.length):=j;rw[e]at h;unfold Pd at h
     rwa [c9,At]at h
    have G:E2 (Cb s L).t (AA s.g.d3 i) (AA s.p.d3 l.length)=some (Gp s.t (AA s.g.d3 i) (AA s.p.d3 l.length)):=WS N q.1 w d.1;have Q:idx (Cb s L).g.d3 i=some (AA s.g.d3 i):=AD z i1;have R:idx (Cb s L).gl.d3 (l.length:Int)=some (AA s.gl.d3 l.length):=AD o D;have S:CW (Cb s L) l i=some (s.fq&&l.any λx=>decide (i=x)):=oM (Cb s L) U i;have θ:idx (Cb s L).p.d3 (l.length:Int)=some (AA s.p.d3 l.length):=AD o v;have key:((AY [] l).bind λB=>
      (AY B [i]).bind λr=>
      (Bs m (Cb s L) r).bind λu=>
      some (.next (u,AJ (i+1)):Bo (An×Int) An))=some (.next (Cb (Cb s L) (FG n (I9 s (l++[i]) [])),i+1)):=by
     have M:=ax n (Cb s L) (l++[i]) N ⟨hf.pn,hf.pe,hf.ends,hf.kinds,hf.small⟩ K (by show(l++[i]).length+n=s.p.d3.length;rw[b6];simp;omega) m U;have ε:FG n (I9 (Cb s L) (l++[i]) [])=FG n (I9 s (l++[i]) []):=dB n (I9 s (l++[i]) []) _;rw[ε]at M;rw[BR b_,bs,AS a_,bs,M,bs,AT U U]
    rw [R,bs,S,Q,θ,key];simp only[bs];rw[G,AT (n:=i+1) U U];simp only[bs];have H:SJ (I9 s l []) i=((decide (AA s.gl.d3 l.length<0)||decide (AA s.gl.d3 l.length=i))&&AA (AA (Jz s.t) (AA s.p.d3 l.length)) (AA s.g.d3 i)&&!(s.fq&&l.any λx=>decide (i=x))):=rfl;have κ:AA (AA (Jz s.t) (AA s.p.d3 l.length)) (AA s.g.d3 i)=Gp s.t (AA s.g.d3 i) (AA s.p.d3 l.length):=by
     rw [j];exact I5 (λk=>Gp s.t k (AA s.p.d3 l.length)) q.1 w
    have η:(decide (AA s.gl.d3 l.length<0)||decide (AA s.gl.d3 l.length=i))=!(decide (0<=AA s.gl.d3 l.length)&&!decide (AA s.gl.d3 l.length=i)):=by
     rw [Bool.not_and,Bool.not_not];congr 1;rw[<-decide_not];exact decide_eq_decide.2 U
    rw [H,κ,η];generalize FG n (I9 s (l++[i]) [])=A;generalize decide (0<=AA s.gl.d3 l.length)=c1;generalize decide (AA s.gl.d3 l.length=i)=c2;generalize Gp s.t (AA s.g.d3 i) (AA s.p.d3 l.length)=c3;generalize (s.fq&&l.any λx=>decide (i=x))=c6;cases c1<;>cases c2<;>cases c3<;>cases c6<;>first|rfl|(simp[Q3 K];try rfl)) (by rw[ae (by simp[Cb])]),Bq,A',FG]
   rfl
end Go.Sf.Sc
namespace Go.Sf.Sc
open Go Go.Sf
def FF(t:AC)(p g:d5)(pa:d6)(inj:Bool):AM:=⟨p,g,Jz t,pa,inj,5001,[],[],[]⟩
def JM(t:AC)(p g:d5)(pa:d6)(inj:Bool):List d6:=(FG p.d3.length (FF t p g pa inj)).take 5001
variable{t:AC}{p g:d5}
theorem uV{pa:d6}{inj:Bool}(j:Ar t)(hv:(A0 t).2=0)(d:NZ (FF t p g pa inj)):F8 t p g pa inj 5001=Y (JM t p g pa inj):=by
 unfold F8;rw[lD j (Cd hv) hv,bs];have h:=nX (f:=FF t p g pa inj) d ⟨by show(0:Int)<=5001;omega,by show(5001:Int)<=10000;omega,by show((0:Nat):Int)<=5001;omega⟩ rfl rfl;rw[cz _ _ d rfl]at h;have e:AM.mk p g (Jz t) pa inj 5001 [] [] []=FF t p g pa inj:=rfl;rw[e,h];rfl
theorem tB{pa:d6}{inj:Bool}(hv:(A0 t).2=0)(d:NZ (FF t p g pa inj)):Ke t p g pa inj 5000=Y (JM t p g pa inj):=by
 unfold Ke;have h:HF ⟨t,p,g,pa,inj,5000,[]⟩ []=Y (Cb ⟨t,p,g,pa,inj,5000,[]⟩ (FG p.d3.length (FF t p g pa inj))):=
  Dn (p.d3.length+1) λm e=>ax p.d3.length ⟨t,p,g,pa,inj,5000,[]⟩ [] (Cd hv) d ⟨by show(0:Int)<=5000;omega,by show(5000:Int)<=9999;omega,by show((0:Nat):Int)<=5000+1;omega⟩ p? m e
 rw [h];rfl
end Go.Sf.Sc
namespace Go.Sf.Sc
open Go Go.Sf
def Wy(n k:Int):Bool:=decide (k< -1)||decide (n<=k)
def Su(l:Fp)(n:Int):Int:=if l.any (Wy n)=X then 6 else 0
theorem na(l:Fp)(n:Int):II l n=Y (Su l n):=by grind[II,Su,OM,Wy,U5]
variable{l:Fp}
theorem fT{c:Int}(n:Int)(h:(l.length:Int)=c):KT l c n=Y (Su l n):=by
 unfold KT Su;rw[ae s?,BS (λi=>Wy n (AA l i)) 6]
 .have e:l3 (λi=>Wy n (AA l i)) 0 l.length=l.any (Wy n):=by
   rw [w!,Cg,D']
   grind [AF,BG]
  rw [e];cases l.any (Wy n)<;>rfl
 grind [AD,Wy,AA]
end Go.Sf.Sc
namespace Go.Sf.Sc
open Go Go.Sf
theorem fH(t:AC)(g:d5):GK t g=Y (Cm t g):=by grind[GK,Cm,MC,U5,MD,iN]
def Ec(t:AC)(p g:d5):Int:=if(A0 t).2≠0 then(A0 t).2 else if B2 p≠0 then B2 p else if B2 g≠0 then B2 g else if(Cm t p&&Cm t g)=X then 0 else 13
variable{t:AC}
theorem WQ(hf:Ar t)(p g:d5):E4 t p g=Y (Ec t p g):=by
 unfold E4 Ec;rw[Ol hf,bs];refine EC λ_=>?_;have o:jj (ρ:=Int) (λ(m:Int)(_:Unit)=>
   (idx [p,g] m).bind λj=>
   (DC j).bind λh=>
   if (!decide (h=0))=X then
   Y (.ret h)
   else
   Y (.next ())) 0 ([p,g].length:Int) ()=Y (if B2 p≠0 then .inr (B2 p)else if B2 g≠0 then .inr (B2 g)else .inl ()):=by
  show zt _ 2 0 ()=_;rw[F2,show idx [p,g] 0=Y p from rfl,bs,Ok,bs];by_cases d:B2 p=0
  .rw[ae (by simp[d]),ae (by simp[d])];show zt _ 1 (0+1) ()=_;rw[F2,show idx [p,g] (0+1)=Y g from rfl,bs,Ok,bs];by_cases e:B2 g=0
   .rw[ae c_,ae c_];rfl
   .rw[ac c_,ac e]
  .rw[ac (by simp[d]),ac d]
 rw [o];by_cases d:B2 p=0
 .by_cases e:B2 g=0
  .simp[d,e,Bq];rw[fH,fH,bs];cases Cm t p<;>cases Cm t g<;>rfl
  .simp[d,e,not_false_eq_true,S5]
 .simp[d,not_false_eq_true,S5]
theorem UW(hf:Ar t)(p g:d5):Fh t p g=Y (Ec t p g):=by
 unfold Fh Ec;rw[Rv hf,bs];refine EC λ_=>?_;rw[NE,bs];refine EC λd=>?_;rw[NE,bs];refine EC λe=>?_
 grind [Zc,DV,Cm]
end Go.Sf.Sc
namespace Go.Sf.Sc
open Go Go.Sf
variable{t:AC}{p g:d5}
theorem XA{pa:d6}{inj:Bool}(h:Ec t p g=0)(r:pa.d3.length=p.d3.length)(u:pa.d4.length=p.d4.length):(A0 t).2=0/\NZ (FF t p g pa inj):=by
 unfold Ec at h;by_cases hv:(A0 t).2=0
 .rw[ae l_]at h;by_cases o:B2 p=0
  .rw[ae q_]at h;by_cases q:B2 g=0
   .rw[ae (by simp[q])]at h;by_cases d:(Cm t p&&Cm t g)=X
    .rw[pq]at d;have op:=DV o;have m:=DV q;have tp:=He op d.1;have w:=He m d.2;have x:(Jz t).length=t.d3.length:=by unfold Jz;rw[c9,At]
     refine ⟨hv,r,u,λe he=>?_,λn v=>?_,Nat.le_trans op.ec U,Nat.le_trans op.eh U,Nat.le_trans m.ec U,Nat.le_trans m.eh U⟩
     .have:=op.fit e he;exact⟨this.2.1.1,this.2.1.2,this.2.2.1,this.2.2.2⟩
     .have:=tp.1 n v;refine⟨this.1,by show n<((Jz t).length:Int);rw[x];exact this.2,λk j=>?_⟩;have j:=w.1 k j;refine⟨j.1,?_⟩;show k<((AA (Jz t) n).length:Int)
      grind [Jz,I5,Pd,c9,At]
    grind
   grind
  grind
 grind
def T5(t:AC)(p g:d5)(pa:d6)(inj:Bool):List d6×Int:=
 if Ec t p g≠0 then([],Ec t p g)else if¬(pa.d3.length=p.d3.length/\pa.d4.length=p.d4.length)then([],20)else
 if Su pa.d3 g.d3.length≠0 then([],Su pa.d3 g.d3.length)else if Su pa.d4 g.d4.length≠0 then([],Su pa.d4 g.d4.length)else
 if 5000<(JM t p g pa inj).length then([],3)else(JM t p g pa inj,0)
theorem qS(hf:Ar t)(p g:d5)(pa:d6)(inj:Bool):Hd t p g pa inj=Y (T5 t p g pa inj):=by
 unfold Hd T5;rw[WQ hf,bs];refine Dl λe=>?_;refine Qs (by simp[z_,decide_eq_false_iff_not];omega) λd=>?_;have d:=z?.1 d;rw[na,bs];refine Dl λh=>?_;rw[na,bs];refine Dl λj=>?_
 grind [XA,Jb,uV,JM]
theorem qp(hf:Ar t)(p g:d5)(pa:d6)(inj:Bool):Ia t p g pa inj=Y (T5 t p g pa inj):=by
 unfold Ia T5;rw[UW hf,bs];refine Dl λe=>?_;refine Qs (by simp[z_,decide_eq_false_iff_not];omega) λd=>?_;have d:=z?.1 d;rw[fT _ U,bs];refine Dl λh=>?_;rw[fT _ U,bs];refine Dl λj=>?_
 grind [XA,tB,JM]
def ND(p:d5):d6:=⟨B? p.d3.length (-1),B? p.d4.length (-1)⟩
variable{n:Nat}{i:Int}
theorem fv(d:0<=i)(e:i<n):A2 (B? i.toNat (-1:Int)++B? (n-i.toNat) 0) i (-1)=B? (i+1).toNat (-1)++B? (n-(i+1).toNat) 0:=by
 unfold A2;rw[List.set_append_right _ _ V,show n-i.toNat=(n-(i+1).toNat)+1 by omega,List.replicate_succ,List.length_replicate,Nat.sub_self,List.set_cons_zero,show(i+1).toNat=i.toNat+1 by omega,List.replicate_succ',ci];rfl
theorem qx(h:p.d3.length<=100)(j:p.d4.length<=100):LC p=Y (ND p):=by
 unfold LC;have m1:HN (p.d3.length:Int) (0:Int)=Y (B? p.d3.length 0):=by unfold HN;rw[ac U,A']
 have e:HN (p.d4.length:Int) (0:Int)=Y (B? p.d4.length 0):=by unfold HN;rw[ac U,A']
 rw [m1,bs,e,bs];rw[Pn (λi=>(⟨B? i.toNat (-1)++B? (p.d3.length-i.toNat) 0,B? p.d4.length 0⟩:d6)) (a:=0) (b:=p.d3.length) U V,Bq]
 .dsimp only;rw[Pn (λi=>(⟨B? p.d3.length (-1),B? i.toNat (-1)++B? (p.d4.length-i.toNat) 0⟩:d6)) (a:=0) (b:=p.d4.length) U V,Bq]
  .simp[ND]
  .intro i d i1;dsimp only;rw[ac an,AD d an,bs,fv d i1,AT (n:=i+1) U U]
  .dsimp only;rw[ae V]
 .intro i d i1;dsimp only;rw[ac an,AD d an,bs,fv d i1,AT (n:=i+1) U U]
 .dsimp only;rw[ae V]
end Go.Sf.Sc
