/- Plain lemmas: what the functions of the program and of the reference compute. -/
import Derived.Test.YtjgaphkmbjbdkaaGreatP1
import Derived.Test.YtjgaphkmbjbdkaaGreatEval
set_option linter.all false
set_option maxRecDepth 100000
namespace Go.Sf.Sc
open Go Go.Sf
variable{t:AC}{c:d7}
theorem oY(hf:Az t)(p:ea)(e:Dx c):DW t p c=some (Nr t p c):=by
 by_cases d:(A7 t).2=0
 .exact iN hf d p e
 .unfold DW Nr;rw[WI hf,bs];refine Dz fun h=>?_;exfalso;unfold ID at h;rw[a6 d]at h;exact d h
end Go.Sf.Sc
namespace Go.Sf.Sc
open Go Go.Sf
variable{α:Type}
theorem XG[Inhabited α](b:α->α->Bool){l m:List α}(j:∀x∈l,∀y∈m,(b x y=true↔x=y))(o:l.length=m.length):ll (fun i=>!b (AA l i) (AA m i)) 0 l.length=false↔l=m:=by
 rw [BV];constructor
 .intro h;refine Zc o (fun i d e=>?_);have:=h i d e;rw[Bool.not_eq_false']at this;exact(j _ (AI d e) _ (AI d (by omega))).1 this
 .rintro rfl i d e;rw[Bool.not_eq_false'];exact(j _ (AI d e) _ (AI d e)).2 rfl
theorem UC[Inhabited α][DecidableEq α]{l m:List α}(r:l.length=m.length){k:Unit->K1}{j:Bool->K1}:ek (hT (ρ:=Bool) (fun(o:Int)(_:Unit)=>
 (idx l o).bind fun d=>
 (idx m o).bind fun e=>
 if (!decide (d=e))=true then
 some (.ret false)
 else
 some (.next ())) 0 (l.length:Int) ()) k j=if l=m then k ()else j false:=by
 rw [BQ (fun i=>!decide (AA l i=AA m i)) false]
 .have:=XG (fun x y:α=>decide (x=y)) (l:=l) (m:=m) (fun _ _ _ _=>decide_eq_true_iff) r;by_cases h:l=m
  .rw[this.2 h,a6 h];rfl
  .rw[ae h];cases v:ll (fun i=>!decide (AA l i=AA m i)) 0 l.length
   .exact absurd (this.1 v) h
   .rfl
 .intro i q u _;rw[AD q u,bs,AD q (by omega),bs,IC]
theorem Ob[Inhabited α][DecidableEq α](l m:List α):(if(!decide ((l.length:Int)=(m.length:Int)))=true then
 some false
 else
 ek (hT (ρ:=Bool) (fun(q:Int)(_:Unit)=>
 (idx l q).bind fun d=>
 (idx m q).bind fun j=>
 if (!decide (d=j))=true then
 some (.ret false)
 else
 some (.next ())) 0 (l.length:Int) ()) (fun _=>
 some true) (fun r=>some r))=some (decide (l=m)):=by
 by_cases o:l.length=m.length
 .rw[ae (by simp[o]),UC o];by_cases h:l=m
  .rw[a6 h,decide_eq_true h]
  .rw[ae h,decide_eq_false h]
 .rw[a6 (by simp;omega),decide_eq_false (fun e=>o (by rw[e]))]
theorem J8(l m:Fp):slices_Equal_int l m=some (decide (l=m)):=Ob l m
theorem ai(l m:List Bk):Fa l m=some (decide (l=m)):=Ob l m
theorem il(l m:List CP):HD l m=some (decide (l=m)):=Ob l m
theorem im(l m:List Test):HE l m=some (decide (l=m)):=Ob l m
theorem XA(l m:Fp):Hm l m=some (decide (l=m)):=Ob l m
theorem QM(l m:Fp):Ch l m=some (decide (l=m)):=Ob l m
theorem UL(a b:d6):El a b=some (decide (a=b)):=by
 unfold El;rw[J8,J8];obtain⟨a1,e⟩:=a;obtain⟨j,m⟩:=b;by_cases h:a1=j<;>by_cases d:e=m<;>simp[h,d]
theorem XD(a b:d6):Ij a b=some (decide (a=b)):=by
 unfold Ij;rw[XA,XA];obtain⟨a1,e⟩:=a;obtain⟨j,m⟩:=b;by_cases h:a1=j<;>by_cases d:e=m<;>simp[h,d]
theorem db(a b:d5):MD a b=some (decide (a=b)):=by
 unfold MD;rw[QM,bs];obtain⟨a1,j⟩:=a;obtain⟨q,m⟩:=b;by_cases h:a1=q
 .by_cases d:j.length=m.length
  .rw[ae (by simp[h,d]),UC d];by_cases o:j=m<;>simp[h,o]
  .rw[a6 (by simp;omega)];rw[decide_eq_false (fun e=>d (by cases e;rfl))]
 .simp[h]
theorem dc(a b:ea):KE a b=some (decide (a=b)):=by
 unfold KE;rw[db,bs];obtain⟨a1,r,x,u⟩:=a;obtain⟨y,v,z,w⟩:=b;by_cases h:a1=y/\x=z/\r.length=v.length/\u.length=w.length
 .obtain⟨j,m,o,d⟩:=h;rw[ae (by simp[j,m,o,d]),UC o];by_cases q:r=v
  .rw[a6 q,UC d];by_cases A:u=w<;>simp[j,m,q,A]
  .simp[q]
 .rw[a6 ?_]
  .rw[decide_eq_false (fun e=>h (by cases e;exact⟨rfl,rfl,rfl,rfl⟩))]
  .by_cases j:a1=y
   .by_cases m:x=z
    .by_cases o:r.length=v.length
     .have d:¬u.length=w.length:=fun d=>h ⟨j,m,o,d⟩;simp;omega
     .simp;omega
    .simp[m]
   .simp[j]
noncomputable def S1(a b:d7):Bool:=@decide (a=b) (Classical.propDecidable _)
theorem Wn{a b:d7}:S1 a b=true↔a=b:=by
 unfold S1;exact@decide_eq_true_iff _ (Classical.propDecidable _)
noncomputable def XW(l m:List d7):Bool:=@decide (l=m) (Classical.propDecidable _)
theorem UB{l m:List d7}:XW l m=true↔l=m:=by
 unfold XW;exact@decide_eq_true_iff _ (Classical.propDecidable _)
theorem cg(a b:d7):S1 a b=(decide (a.j0=b.j0)&&decide (a.Map=b.Map)&&decide (a.ea=b.ea)&&XW a.en b.en):=by
 rw [Bool.eq_iff_iff,Wn];obtain⟨a1,m,o,q⟩:=a;obtain⟨r,u,v,w⟩:=b;simp only[o4,t2,UB,d7.mk.injEq];constructor
 .rintro⟨d,e,h,j⟩;exact⟨⟨⟨d,h⟩,j⟩,e⟩
 .rintro⟨⟨⟨d,h⟩,j⟩,e⟩;exact⟨d,e,h,j⟩
theorem Xy{l m:List d7}{f:d7->d7->K1}(hf:∀x∈l,∀y,f x y=some (S1 x y))(v:l.length=m.length):ek (hT (ρ:=Bool) (fun(r:Int)(_:Unit)=>
 (idx l r).bind fun d=>
 (idx m r).bind fun e=>
 (f d e).bind fun j=>
 if (!j)=true then
 some (.ret false)
 else
 some (.next ())) 0 (l.length:Int) ()) (fun _=>
 some true) (fun w=>some w)=some (XW l m):=by
 rw [BQ (fun i=>!S1 (AA l i) (AA m i)) false]
 .have:=XG S1 (l:=l) (m:=m) (fun _ _ _ _=>Wn) v;cases q:ll (fun i=>!S1 (AA l i) (AA m i)) 0 l.length
  .rw[UB.2 (this.1 q)];rfl
  .have:XW l m=false:=by
    rw [<-Bool.not_eq_true,UB];intro h;rw[this.2 h]at q;cases q
   rw [this];rfl
 .intro i o u _;rw[AD o u,bs,AD o (by omega),bs,hf _ (AI o u),bs,IC]
theorem cm{l m:List d7}(h:¬l.length=m.length):XW l m=false:=by
 rw [<-Bool.not_eq_true,UB];exact fun e=>h (by rw[e])
theorem iY:∀(N:Nat)(a b:d7),SizeOf.sizeOf a<=N->∀n,N<=n->Cq n a b=some (S1 a b)
 |0,a,_,h,_,_=>by have:=Dn a;omega|N+1,a,b,h,n,I=>by
  obtain ⟨n,rfl⟩:∃m,n=m+1:=⟨n-1,by omega⟩;have v:CL a.en b.en (Cq n)=some (XW a.en b.en):=by
   unfold CL;by_cases d:a.en.length=b.en.length
   .rw[ae (by simp[d]),Xy (fun x u y=>by have:=ET u;exact iY N x y (by omega) n (by omega)) d]
   .rw[a6 (by simp;omega),cm d]
  rw [Cq,UL,J8,ai,il,im,v,cg];have w:decide (a.ea=b.ea)=(decide (a.ea.fa=b.ea.fa)&&decide (a.ea.d5.d3=b.ea.d5.d3)&&decide (a.ea.d5.d4=b.ea.d5.d4)&&decide (a.ea.em=b.ea.em)&&decide (a.ea.kq=b.ea.kq)):=by
   rw [Bool.eq_iff_iff];simp only[o4,t2];obtain⟨_,_,_,⟨⟨a1,z⟩,A,B,C⟩⟩:=a;obtain⟨_,_,_,⟨⟨D,E⟩,F,G,H⟩⟩:=b;simp only[ea.mk.injEq,d5.mk.injEq];constructor
   .rintro⟨⟨e,j⟩,o,q,r⟩;exact⟨⟨⟨⟨q,e⟩,j⟩,o⟩,r⟩
   .rintro⟨⟨⟨⟨q,e⟩,j⟩,o⟩,r⟩;exact⟨⟨e,j⟩,o,q,r⟩
  rw [w];generalize decide (a.j0=b.j0)=c1;generalize decide (a.Map=b.Map)=c2;generalize decide (a.ea.fa=b.ea.fa)=c3;generalize decide (a.ea.d5.d3=b.ea.d5.d3)=c4;generalize decide (a.ea.d5.d4=b.ea.d5.d4)=c5;generalize decide (a.ea.em=b.ea.em)=c6;generalize decide (a.ea.kq=b.ea.kq)=c7;generalize XW a.en b.en=c8;cases c1
  .rfl
  cases c2
  .rfl
  cases c3
  .rfl
  cases c4
  .rfl
  cases c5
  .rfl
  cases c6
  .rfl
  cases c7
  .rfl
  rfl
theorem oh(a b:d7):L3 a b=some (S1 a b):=Dd (SizeOf.sizeOf a) fun n d=>iY _ a b (az _) n d
theorem jG:∀(N:Nat)(a b:d7),SizeOf.sizeOf a<=N->∀n,N<=n->Hc n a b=some (S1 a b)
 |0,a,_,h,_,_=>by have:=Dn a;omega|N+1,a,b,h,n,j=>by
  obtain ⟨n,rfl⟩:∃m,n=m+1:=⟨n-1,by omega⟩;rw[Hc,XD,dc,cg];by_cases d:a.en.length=b.en.length
  .rw[Xy (fun x e y=>by have:=ET e;exact jG N x y (by omega) n (by omega)) d,decide_eq_true (show(a.en.length:Int)=b.en.length by rw[d])];generalize decide (a.j0=b.j0)=c1;generalize decide (a.Map=b.Map)=c2;generalize decide (a.ea=b.ea)=c3;cases c1
   .rfl
   cases c2
   .rfl
   cases c3
   .rfl
   rfl
  .rw[decide_eq_false (show¬(a.en.length:Int)=b.en.length by omega),cm d];generalize decide (a.j0=b.j0)=c1;simp
theorem o9(a b:d7):Sh a b=some (S1 a b):=Dd (SizeOf.sizeOf a) fun n d=>jG _ a b (az _) n d
end Go.Sf.Sc
namespace Go.Sf.Sc
open Go Go.Sf
mutual
def Dc:d7->Nat
 |⟨_,kids,_,_⟩=>1+RX kids
def RX:List d7->Nat
 |[]=>0|k::l=>Dc k+RX l
end
mutual
def xW:d7->Nat
 |⟨k,kids,_,_⟩=>(if k=5 then 1 else 0)+qV kids
def qV:List d7->Nat
 |[]=>0|k::l=>max (xW k) (qV l)
end
theorem TO(c:d7):Dc c=1+RX c.en:=by cases c;rfl
variable{k:Int}
theorem nx{l:List d7}(d:0<=k)(e:k<l.length):l.drop k.toNat=AA l k::l.drop (k+1).toNat:=by
 rw [show(k+1).toNat=k.toNat+1 by omega,List.drop_eq_getElem_cons (by omega)];unfold AA;rw[List.getD_eq_getElem?_getD,List.getElem?_eq_getElem (by omega)];rfl
theorem Xb:∀(N:Nat)(c:d7),SizeOf.sizeOf c<=N->(AH c).Sm->∀pr:Int,0<=pr->pr<=1000->∃r,(∀n,N<=n->Cy n c pr=some r)/\-1<=r/\r<=pr-1/\(0<=r->Dx c/\(Dc c:Int)+r<=pr)
 |0,c,h,_,_,_,_=>by have:=Dn c;omega|N+1,c,h,X,pr,m0,m1=>by
  obtain ⟨O,P,D⟩:=cd X;obtain⟨Q,z,R⟩:=Rk c.ea;obtain⟨S,F,T⟩:=Wp O;have step:∀n,N+1<=n->∃m,n=m+1/\N<=m:=fun n d=>⟨n-1,by omega,by omega⟩;cases Q
  .refine⟨-1,fun n d=>?_,by omega,by omega,fun h=>by omega⟩;obtain⟨n,rfl,_⟩:=step n d;rw[Cy,z];rfl
  cases S
  .refine⟨-1,fun n d=>?_,by omega,by omega,fun h=>by omega⟩;obtain⟨n,rfl,_⟩:=step n d;rw[Cy,z,bs,F];rfl
  have loop:∀(m:Nat)(k left:Int),0<=k->k+m=c.en.length->-1<=left->left<=1000->∃e w,(∀n,N<=n->NB (ρ:=Int) (fun(q:Int×Int)=>
    if ((decide (q.2<(c.en.length:Int)))&&(decide (0<=q.1)))=true then
    (idx c.en q.2).bind fun A=>
    (Cy n A q.1).bind fun B=>
    some (.next (B,Am (q.2+1)))
    else
    some (.brk (q.1,q.2))) (left,k) (.inl (e,w)))/\-1<=e/\e<=left/\(0<=e->(∀j,k<=j->j<c.en.length->Dx (AA c.en j))/\(RX (c.en.drop k.toNat):Int)+e<=left):=by
   intro m
   induction m with
   |zero=>
    intro k left y K E l1;refine⟨left,k,fun n d=>.brk ?_,E,by omega,fun _=>⟨fun j C x=>by omega,?_⟩⟩
    .rw[ae (by simp;omega)]
    .rw[List.drop_of_length_le (by omega),RX];omega
   |succ m W=>
    intro k left y K E l1;by_cases L:0<=left
    .have o:=AI (l:=c.en) y (by omega);have:=ET o;obtain⟨r,U,V,Y,I⟩:=Xb N _ (by omega) (D _ o) left L l1;obtain⟨e,w,a1,G,J,v⟩:=W (k+1) r (by omega) (by omega) V (by omega);refine⟨e,w,fun n d=>.next (s':=(r,k+1)) ?_ (a1 n d),G,by omega,fun u=>⟨fun j C x=>?_,?_⟩⟩
     .rw[a6 (by simp;omega),AD y (by omega),bs,U n d,bs,Ay (by omega) (by omega)]
     .by_cases M:j=k
      .subst M;exact(I (by omega)).1
      .exact(v u).1 j (by omega) x
     .have z:=(I (by omega)).2;have F:=(v u).2;rw[nx y (by omega),RX];omega
    .refine⟨left,k,fun n d=>.brk ?_,E,by omega,fun h=>by omega⟩;rw[ae (by simp;omega)]
  obtain ⟨e,w,a1,G,J,v⟩:=loop c.en.length 0 (pr-1) (by omega) (by omega) (by omega) (by omega);refine⟨e,fun n d=>?_,G,J,fun u=>⟨.mk c (R rfl) (T rfl) (fun k D=>?_),?_⟩⟩
  .obtain⟨n,rfl,H⟩:=step n d;rw[Cy,z,bs,F];simp only[bs,Bool.not_true,Bool.false_eq_true,if_false];rw[Ay (n:=pr-1) (by omega) (by omega),(a1 n H).eq,Bt]
  .obtain⟨j,C,x,rfl⟩:=Bb D;exact(v u).1 j C x
  .have:=(v u).2;rw[show(0:Int).toNat=0 from rfl,List.drop_zero]at this;rw[TO];omega
variable{c:d7}
theorem gi(d:(AH c).Sm):∃b,Jr c=some b/\(b=true->Dx c/\Dc c<=40):=by
 obtain ⟨r,j,_,_,m⟩:=Xb (SizeOf.sizeOf c) c (az _) d 40 (by omega) (by omega);have e:P7 c 40=some r:=Dd (SizeOf.sizeOf c) j;unfold Jr;rw[e];exact⟨_,rfl,fun h=>by have:=m (by simpa using h);exact⟨this.1,by have:=this.2;simp at h;omega⟩⟩
theorem Uu:∀{l:List d7}{k:d7},k∈l->Dc k<=RX l
 |x::l,k,h=>by
  rw [RX];rcases List.mem_cons.1 h with rfl|h
  .omega
  .have:=Uu h;omega
end Go.Sf.Sc
namespace Go.Sf.Sc
open Go Go.Sf
class PL(α:Type)where
 at_:α->Int->Int
 ok:α->Nat->Prop
instance:PL Fp:=⟨AA,fun l n=>l.length=n⟩
instance:PL (Option Fp):=⟨fun o i=>match o with|none=>-1|some l=>AA l i,fun o n=>match o with|none=>True|some l=>l.length=n⟩
structure NN(f:AK):Prop where
 pn:PL.ok f.fq.d3 f.p.d3.length
 pe:PL.ok f.fq.d4 f.p.d4.length
 ends:∀e∈f.p.d4,0≤e.ib/\e.ib<f.p.d3.length/\0≤e.To/\e.To<f.p.d3.length
 kinds:∀n∈f.p.d3,0<=n/\n<f.is.length/\∀t∈f.g.d3,0<=t/\t<(AA f.is n).length
 small:f.p.d3.length<=1000/\f.p.d4.length<=1000/\f.g.d3.length<=1000/\f.g.d4.length<=1000
def LI(f:AK)(i k:Int):Bool:=
 (decide (PL.at_ f.fq.d4 i<0)||decide (PL.at_ f.fq.d4 i=k))&&decide (AA f.g.d4 k=⟨(AA f.p.d4 i).jj,AA f.ec (AA f.p.d4 i).ib,AA f.ec (AA f.p.d4 i).To⟩)
variable{α:Type}
theorem iG{l:List α}(h:l≠[]):U3 l=some ():=by grind[U3]
variable{l:Fp}{i:Int}
theorem Vs(e:0<=i)(d:i<l.length):((U3 l).bind fun _=>(idx l i).bind fun x=>some x)=some (AA l i):=by
 rw [iG (by intro h;subst h;simp at d;omega),bs,AD e d,bs]
variable{n:Nat}
theorem Z3:∀{l},PL.ok l n->0<=i->i<n->Lt l i=some (PL.at_ l i):=by
 intro l h d e
 first
  |(cases l with
    |none=>rfl|some l=>exact Vs d (by have:l.length=n:=h;omega))
  |exact Vs d (by have:l.length=n:=h;omega)
variable{f:AK}{k:Int}
theorem ic(hf:NN f)(d:0<=i)(e:i<f.p.d4.length)(h:0<=k)(j:k<f.g.d4.length)(m:(AA f.p.d4 i).ib<f.ec.length)(o:(AA f.p.d4 i).To<f.ec.length):Dy f i k=some (LI f i k):=by
 have he:=hf.ends _ (AI d e);unfold Dy LI;rw[AD d e,bs,Z3 hf.pe d e,bs,AD h j,bs,AD he.1 m,bs,AD he.2.2.1 o,bs]
 grind
def Oi(f:AK):Bool:=!ll (fun i=>decide (max (AA f.p.d4 i).ib (AA f.p.d4 i).To=(f.ec.length:Int)-1)&&!ll (fun k=>LI f i k) 0 f.g.d4.length) 0 f.p.d4.length
variable{b:Int}
theorem ni{f:Int->Bool->Option (CC Bool Bool)}(p:Int->Bool)(h:∀i,0<=i->i<b->f i false=some (if p i=true then .brk true else .next false)):hT f 0 b false=some (.inl (ll p 0 b)):=by
 have key:∀(m:Nat)(i:Int),0<=i->i+m=b->wb f m i false=some (.inl (ll p i b)):=by
  intro m
  induction m with
  |zero=>
   intro i d hi;have:ll p i b=false:=by rw[BV];intro j q r;omega
   rw [this];rfl
  |succ m v=>
   intro i d hi;rw[GF,h i d (by omega)];by_cases o:p i=true
   .have:ll p i b=true:=by rw[D4];exact⟨i,Int.le_refl _,by omega,o⟩
    rw [a6 o,this]
   .have e:ll p i b=ll p (i+1) b:=by
     rw [Bool.eq_iff_iff,D4,D4]
     grind
    grind
 unfold hT;by_cases u:0<=b
 .grind
 .have:ll p 0 b=false:=by rw[BV];intro j q r;omega
  rw [this,show(b-0).toNat=0 by omega];rfl
theorem fT(hf:NN f)(q:0<f.ec.length)(j:f.ec.length<=1000):CQ f=some (Oi f):=by
 unfold CQ Oi;rw[BQ (fun i=>decide (max (AA f.p.d4 i).ib (AA f.p.d4 i).To=(f.ec.length:Int)-1)&&!ll (fun k=>LI f i k) 0 f.g.d4.length) false]
 .generalize ll (fun i=>decide (max (AA f.p.d4 i).ib (AA f.p.d4 i).To=(f.ec.length:Int)-1)&&!ll (fun k=>LI f i k) 0 f.g.d4.length) 0 f.p.d4.length=b;cases b<;>rfl
 .intro i d e _;rw[AD d e,bs,Ay (n:=(f.ec.length:Int)-1) (by omega) (by omega)];by_cases h:max (AA f.p.d4 i).ib (AA f.p.d4 i).To=(f.ec.length:Int)-1
  .rw[ae (by simp[h]),ni (fun k=>LI f i k) (fun k m o=>by
    rw [ic hf d e m o (by omega) (by omega),bs,IC])]
   generalize ll (fun k=>LI f i k) 0 f.g.d4.length=b;rw[decide_eq_true h];cases b<;>rfl
  grind
def Au(n:Nat):Fp:=(List.range n).map Int.ofNat
theorem T1(n:Nat):Au (n+1)=Au n++[(n:Int)]:=by grind[Au,List.range_succ]
def S6(f:AK)(k:Int):Bool:=(decide (PL.at_ f.fq.d3 f.ec.length<0)||decide (PL.at_ f.fq.d3 f.ec.length=k))&&AA (AA f.is (AA f.p.d3 f.ec.length)) (AA f.g.d3 k)&&!(f.fb&&f.ec.any fun x=>decide (k=x))
def S5(f:AK)(k:Int):Bool:=LI f f.ei.length k&&!(f.fb&&f.ei.any fun x=>decide (k=x))
def Ea:Nat->AK->List d6
 |0,f=>[⟨f.ec,f.ei⟩]|n+1,f=>(Au f.g.d4.length).flatMap fun k=>if S5 f k=true then Ea n {f with ei:=f.ei++[k]}else[]
def Jy:Nat->AK->List d6
 |0,f=>Ea f.p.d4.length f|n+1,f=>(Au f.g.d3.length).flatMap fun k=>if(S6 f k&&Oi {f with ec:=f.ec++[k]})=true then Jy n {f with ec:=f.ec++[k]}else[]
theorem YS(a b:List α)(m:Nat):((a.take m)++b).take m=(a++b).take m:=by
 by_cases h:a.length<=m
 .rw[List.take_of_length_le h]
 grind
end Go.Sf.Sc
namespace Go.Sf.Sc
open Go Go.Sf
def Sd(f:AK)(o:List d6):AK:={f with out:=o}
variable{f:AK}
theorem NN.out(h:NN f)(o:List d6):NN (Sd f o):=⟨h.pn,h.pe,h.ends,h.kinds,h.small⟩
theorem QZ:∀(n:Nat)(f:AK)(o:List d6),Ea n (Sd f o)=Ea n f
 |0,_,_=>rfl|n+1,f,o=>by
  rw [Ea,Ea];refine congrArg (fun F=>(Au f.g.d4.length).flatMap F) (funext fun k=>?_);have:=QZ n {f with ei:=f.ei++[k]} o;show(if S5 f k=true then Ea n (Sd {f with ei:=f.ei++[k]} o)else[])=_;rw[this]
theorem ZV:∀(n:Nat)(f:AK)(o:List d6),Jy n (Sd f o)=Jy n f
 |0,f,o=>QZ _ f o|n+1,f,o=>by
  rw [Jy,Jy];refine congrArg (fun F=>(Au f.g.d3.length).flatMap F) (funext fun k=>?_);have:=ZV n {f with ec:=f.ec++[k]} o;show(if(S6 f k&&Oi {f with ec:=f.ec++[k]})=true then Jy n (Sd {f with ec:=f.ec++[k]} o)else[])=_;rw[this]
def BC(f:AK)(l:List d6):AK:=Sd f ((f.out++l).take f.pr.toNat)
structure Wd(f:AK):Prop where
 m0:0<=f.pr
 m1:f.pr<=10000
 out:(f.out.length:Int)<=f.pr
theorem LU(h:Wd f):BC f []=f:=by
 unfold BC;rw[List.append_nil,List.take_of_length_le (by have:=h.out;have:=h.m0;omega)];rfl
theorem Xo(h:(f.out.length:Int)=f.pr)(l:List d6):BC f l=f:=by
 unfold BC;rw[List.take_append_of_le_length (by omega),List.take_of_length_le (by omega)];rfl
theorem Xq(h:Wd f)(l:List d6):Wd (BC f l):=by
 refine ⟨h.m0,h.m1,?_⟩;have:=h.m0;show(((f.out++l).take f.pr.toNat).length:Int)<=f.pr
 grind
theorem Xp(f:AK)(a b:List d6):BC (BC f a) b=BC f (a++b):=by
 show Sd f ((((f.out++a).take f.pr.toNat)++b).take f.pr.toNat)=_;rw[YS,ci];rfl
theorem Vl:∀(n:Nat)(f:AK),NN f->Wd f->f.ec.length=f.p.d3.length->f.ei.length+n=f.p.d4.length->∀m,n+1<=m->A4 m f=some (BC f (Ea n f))
 |n,f,hf,u,M,he,m,y=>by
  obtain ⟨m,rfl⟩:∃k,m=k+1:=⟨m-1,by omega⟩;have N:=hf.small;have O:=u.m0;have P:=u.m1;have Q:=u.out;rw[A4];by_cases e:(f.out.length:Int)=f.pr
  .grind[Xo]
  rw [ae (by simpa using e),ae (by simp;omega)]
  match n,he,y with
  |0,he,y=>
   rw [ae (by simp;omega)];unfold slices_Clone_int;rw[Bm (by unfold AZ;omega),bs,Bm (by unfold AZ;omega),bs,AY (by simp;unfold AZ;omega),bs,bs];unfold BC;rw[List.take_of_length_le (by simp[Ea];omega)];rfl
  |n+1,he,y=>
   rw [a6 (by simp;omega)];have F:∀k,S5 f k=true->NN {f with ei:=f.ei++[k]}:=fun k _=>⟨hf.pn,hf.pe,hf.ends,hf.kinds,hf.small⟩;rw[Bo (a:=0) (s:=f) (fun i=>BC f ((Au i.toNat).flatMap fun k=>if S5 f k=true then Ea n {f with ei:=f.ei++[k]}else[])) (by omega) (LU u)]
   .grind[Int.toNat_natCast,Ea]
   .intro i C D;have E:Au (i+1).toNat=Au i.toNat++[i]:=by
     rw [show(i+1).toNat=i.toNat+1 by omega,T1];rw[show((i.toNat:Nat):Int)=i by omega]
    have G:∀l,BC f ((Au (i+1).toNat).flatMap l)=BC (BC f ((Au i.toNat).flatMap l)) (l i):=by
     intro l;rw[Xp,E,List.flatMap_append];simp
    rw [G];generalize (Au i.toNat).flatMap (fun k=>if S5 f k=true then Ea n {f with ei:=f.ei++[k]}else[])=L;have o:=Xq u L;have v:NN (BC f L):=hf.out _;have z:=hf.ends _ (AI (l:=f.p.d4) (i:=(f.ei.length:Int)) (by omega) (by omega));rw[ic v (i:=(f.ei.length:Int)) (k:=i) (by omega) (by show _<(f.p.d4.length:Int);omega) C (by exact D) (by show(AA f.p.d4 f.ei.length).ib<(f.ec.length:Int);omega) (by show(AA f.p.d4 f.ei.length).To<(f.ec.length:Int);omega),bs];have H:slices_Contains_int (BC f L).ei i=some (f.ei.any fun x=>decide (i=x)):=LS f.ei i;rw[H];have q:LI (BC f L) f.ei.length i=LI f f.ei.length i:=rfl;have key:((Ap (BC f L).ei [i]).bind fun h=>
      (A4 m (AK.mk (BC f L).p (BC f L).g (BC f L).is (BC f L).fq (BC f L).fb (BC f L).pr (BC f L).ec h (BC f L).out)).bind fun d=>
      (slc d.ei 0 (f.ei.length:Int)).bind fun j=>
      some (AK.mk d.p d.g d.is d.fq d.fb d.pr d.ec j d.out))=some (BC (BC f L) (Ea n {f with ei:=f.ei++[i]})):=by
     have I:Ap (BC f L).ei [i]=some (f.ei++[i]):=AY (by show f.ei.length+1<=AZ;unfold AZ;omega);have B:=Vl n {BC f L with ei:=f.ei++[i]} ⟨hf.pn,hf.pe,hf.ends,hf.kinds,hf.small⟩ ⟨o.m0,o.m1,o.out⟩ M (by show(f.ei++[i]).length+n=f.p.d4.length;simp;omega) m (by omega);have J:Ea n {BC f L with ei:=f.ei++[i]}=Ea n {f with ei:=f.ei++[i]}:=QZ n {f with ei:=f.ei++[i]} _;rw[J]at B;rw[I,bs];show(A4 m {BC f L with ei:=f.ei++[i]}).bind _=_;rw[B,bs];have K:slc (BC {BC f L with ei:=f.ei++[i]} (Ea n {f with ei:=f.ei++[i]})).ei 0 (f.ei.length:Int)=some f.ei:=by
      show slc (f.ei++[i]) 0 (f.ei.length:Int)=_;rw[JB (by omega) (by rw[ba];omega),Int.toNat_natCast,List.take_left]
     rw [K];rfl
    rw [key,q];have w:S5 f i=(LI f f.ei.length i&&!(f.fb&&f.ei.any fun x=>decide (i=x))):=rfl;have r:(BC f L).fb=f.fb:=rfl;rw[w,r];generalize R:Ea n {f with ei:=f.ei++[i]}=A;cases LI f f.ei.length i
    .simp only[Bool.false_and,Bool.false_eq_true,if_false,LU o];rfl
    .cases f.fb
     .rfl
     .cases f.ei.any fun x=>decide (i=x)
      .rfl
      .simp only[Bool.and_self,Bool.not_true,Bool.and_false,Bool.false_eq_true,if_false,LU o];rfl
end Go.Sf.Sc
namespace Go.Sf.Sc
open Go Go.Sf
theorem Vm:∀(n:Nat)(f:AK),NN f->Wd f->f.ei=[]->f.ec.length+n=f.p.d3.length->∀m,n+f.p.d4.length+1<=m->A4 m f=some (BC f (Jy n f))
 |0,f,hf,r,he,R,m,S=>by
  grind [Jy,Vl]
 |n+1,f,hf,r,he,R,m,S=>by
  obtain ⟨m,rfl⟩:∃k,m=k+1:=⟨m-1,by omega⟩;have T:=hf.small;have U:=r.m0;have V:=r.m1;have W:=r.out;rw[A4];by_cases j:(f.out.length:Int)=f.pr
  .grind[Xo]
  rw [ae (by simpa using j),a6 (by simp;omega)];rw[Bo (a:=0) (s:=f) (fun i=>BC f ((Au i.toNat).flatMap fun k=>if(S6 f k&&Oi {f with ec:=f.ec++[k]})=true then Jy n {f with ec:=f.ec++[k]}else[])) (by omega) (LU r)]
  .grind[Int.toNat_natCast,Jy]
  .intro i B C;have F:Au (i+1).toNat=Au i.toNat++[i]:=by
    rw [show(i+1).toNat=i.toNat+1 by omega,T1];rw[show((i.toNat:Nat):Int)=i by omega]
   have G:∀l,BC f ((Au (i+1).toNat).flatMap l)=BC (BC f ((Au i.toNat).flatMap l)) (l i):=by
    intro l;rw[Xp,F,List.flatMap_append];simp
   rw [G];generalize (Au i.toNat).flatMap (fun k=>if(S6 f k&&Oi {f with ec:=f.ec++[k]})=true then Jy n {f with ec:=f.ec++[k]}else[])=L;have o:=Xq r L;have v:(f.ec.length:Int)<(f.p.d3.length:Int):=by omega
   have q:=hf.kinds _ (AI (l:=f.p.d3) (i:=(f.ec.length:Int)) (by omega) v);have w:=q.2.2 _ (AI B C);have key:((Ap (BC f L).ec [i]).bind fun e=>
     (CQ (AK.mk (BC f L).p (BC f L).g (BC f L).is (BC f L).fq (BC f L).fb (BC f L).pr e (BC f L).ei (BC f L).out)).bind fun u=>
     if u=true then
     (A4 m (AK.mk (BC f L).p (BC f L).g (BC f L).is (BC f L).fq (BC f L).fb (BC f L).pr e (BC f L).ei (BC f L).out)).bind fun d=>
     (slc d.ec 0 (f.ec.length:Int)).bind fun h=>
     some (AK.mk d.p d.g d.is d.fq d.fb d.pr h d.ei d.out)
     else
     (slc e 0 (f.ec.length:Int)).bind fun h=>
     some (AK.mk (BC f L).p (BC f L).g (BC f L).is (BC f L).fq (BC f L).fb (BC f L).pr h (BC f L).ei (BC f L).out))=some (BC (BC f L) (if Oi {f with ec:=f.ec++[i]}=true then Jy n {f with ec:=f.ec++[i]}else[])):=by
    have H:Ap (BC f L).ec [i]=some (f.ec++[i]):=AY (by show f.ec.length+1<=AZ;unfold AZ;omega);have D:slc (f.ec++[i]) 0 (f.ec.length:Int)=some f.ec:=by
     rw [JB (by omega) (by rw[ba];omega),Int.toNat_natCast,List.take_left]
    have I:CQ {BC f L with ec:=f.ec++[i]}=some (Oi {f with ec:=f.ec++[i]}):=fT (f:={BC f L with ec:=f.ec++[i]}) ⟨hf.pn,hf.pe,hf.ends,hf.kinds,hf.small⟩ (by show 0<(f.ec++[i]).length;simp) (by show(f.ec++[i]).length<=1000;rw[ba];simp;omega);have E:=Vm n {BC f L with ec:=f.ec++[i]} ⟨hf.pn,hf.pe,hf.ends,hf.kinds,hf.small⟩ ⟨o.m0,o.m1,o.out⟩ he (by show(f.ec++[i]).length+n=f.p.d3.length;rw[ba];simp;omega) m (by show n+f.p.d4.length+1<=m;omega);have J:Jy n {BC f L with ec:=f.ec++[i]}=Jy n {f with ec:=f.ec++[i]}:=ZV n {f with ec:=f.ec++[i]} _;rw[J]at E;rw[H,bs];show(CQ {BC f L with ec:=f.ec++[i]}).bind _=_;rw[I,bs];cases Oi {f with ec:=f.ec++[i]}
    .rw[ae (by decide),ae (by decide),D,LU o];rfl
    .rw[a6 rfl,a6 rfl];show(A4 m {BC f L with ec:=f.ec++[i]}).bind _=_;rw[E,bs];have K:slc (BC {BC f L with ec:=f.ec++[i]} (Jy n {f with ec:=f.ec++[i]})).ec 0 (f.ec.length:Int)=some f.ec:=D;rw[K];rfl
   have M:Lt (BC f L).fq.d3 (f.ec.length:Int)=some (PL.at_ f.fq.d3 f.ec.length):=Z3 (n:=f.p.d3.length) hf.pn (by omega) (by omega);have N:idx (BC f L).p.d3 (f.ec.length:Int)=some (AA f.p.d3 f.ec.length):=AD (by omega) v;have hi:idx (BC f L).is (AA f.p.d3 f.ec.length)=some (AA f.is (AA f.p.d3 f.ec.length)):=AD q.1 q.2.1;have O:idx (AA f.is (AA f.p.d3 f.ec.length)) (AA f.g.d3 i)=some (AA (AA f.is (AA f.p.d3 f.ec.length)) (AA f.g.d3 i)):=AD w.1 w.2;have P:slices_Contains_int (BC f L).ec i=some (f.ec.any fun x=>decide (i=x)):=LS f.ec i;have y:(BC f L).fb=f.fb:=rfl;have z:S6 f i=((decide (PL.at_ f.fq.d3 f.ec.length<0)||decide (PL.at_ f.fq.d3 f.ec.length=i))&&AA (AA f.is (AA f.p.d3 f.ec.length)) (AA f.g.d3 i)&&!(f.fb&&f.ec.any fun x=>decide (i=x))):=rfl;rw[AD B C,bs,M,bs,N,bs,hi,bs,O,bs,P,key,y,z];generalize AA (AA f.is (AA f.p.d3 f.ec.length)) (AA f.g.d3 i)=c2;have Q:(decide (0<=PL.at_ f.fq.d3 f.ec.length)&&!decide (PL.at_ f.fq.d3 f.ec.length=i))=!(decide (PL.at_ f.fq.d3 f.ec.length<0)||decide (PL.at_ f.fq.d3 f.ec.length=i)):=by
    rw [Bool.not_or];congr 1;rw[<-decide_not];exact decide_eq_decide.2 (by omega)
   rw [Q];generalize (decide (PL.at_ f.fq.d3 f.ec.length<0)||decide (PL.at_ f.fq.d3 f.ec.length=i))=c1;generalize Oi {f with ec:=f.ec++[i]}=c5;generalize Jy n {f with ec:=f.ec++[i]}=A;cases c1
   .simp only[Bool.false_and,Bool.false_eq_true,if_false,LU o];rfl
   .cases c2
    .simp only[Bool.and_false,Bool.false_and,Bool.false_eq_true,if_false,LU o];rfl
    .cases f.fb
     .rfl
     .cases f.ec.any fun x=>decide (i=x)
      .rfl
      .simp only[Bool.and_self,Bool.not_true,Bool.and_false,Bool.false_and,Bool.false_eq_true,if_false,LU o];rfl
variable{f:AK}
theorem rD(hf:NN f)(d:Wd f)(he:f.ei=[])(e:f.ec=[]):Gf f=some (BC f (Jy f.p.d3.length f)):=
 Dd (f.p.d3.length+f.p.d4.length+1) fun m h=>Vm _ f hf d he (by rw[e];simp) m h
end Go.Sf.Sc
namespace Go.Sf.Sc
open Go Go.Sf
theorem A5(n:Nat):(Au n).length=n:=by simp[Au]
variable{n:Nat}{i:Int}
theorem DT:i∈Au n↔0<=i/\i<n:=by
 unfold Au;rw[List.mem_map];constructor
 .grind
 .rintro⟨d,e⟩;exact⟨i.toNat,List.mem_range.2 (by omega),by show((i.toNat:Nat):Int)=i;omega⟩
variable{α:Type}
theorem Hq[Inhabited α](F:Int->α)(d:0<=i)(e:i<n):AA ((Au n).map F) i=F i:=by
 unfold AA Au
 grind
theorem GQ(d:0<=i):Au (i+1).toNat=Au i.toNat++[i]:=by
 rw [show(i+1).toNat=i.toNat+1 by omega,T1,show((i.toNat:Nat):Int)=i by omega]
def OG(t:AC)(a:Int):a5:=(Au t.d3.length).map fun k=>GD t k a
def KO(t:AC):List a5:=(Au t.d3.length).map (OG t)
variable{t:AC}{a:Int}
theorem oV(hf:Az t)(h:E0 t)(hv:(A7 t).2=0)(a0:0<=a)(a1:a<t.d3.length):JC t a=some ((Au t.d3.length).filter fun i=>GD t i a,0):=by
 have e:=h.ec;unfold JC;have d:K7 t a=true:=by simp[K7,a0,a1]
 rw [W7 hf,bs,ae (by simp[hv,d])];rw[Bo (fun i=>(Au i.toNat).filter fun i=>GD t i a) (by omega) (by rfl),bs,Int.toNat_natCast]
 grind [lF,GQ,Au,GD,List.length_filter_le,A5,AY,AZ]
variable{l:Fp}
theorem pM(r:∀x∈l,0<=x/\x<n):ne (fun(u:Int)(s2:a5)=>
  (idx l u).bind fun d=>
  (idx s2 d).bind fun _=>
  some (BN s2 d true)) 0 (l.length:Int) (List.replicate n false)=some ((Au n).map fun k=>l.any fun x=>decide (x=k)):=by
 rw [Bo (fun j=>(Au n).map fun k=>(l.take j.toNat).any fun x=>decide (x=k)) (by omega) (by
  refine List.ext_getElem (by simp[A5]) (fun j m y=>by simp))]
 .rw[Int.toNat_natCast,List.take_length]
 .intro j o m;have q:=r _ (AI o m);rw[AD o m,bs,AD q.1 (by rw[ca,A5];exact q.2),bs,BS o m];congr 1;unfold BN;refine List.ext_getElem (by simp) (fun k z v=>?_);have w:k<n:=by simpa[A5]using v
  rw [List.getElem_set];have e:(Au n)[k]'(by rw[A5];exact w)=(k:Int):=by simp[Au]
  simp only[List.getElem_map,e,List.any_append,List.any_cons,List.any_nil,Bool.or_false];by_cases h:(AA l j).toNat=k
  .rw[a6 h,decide_eq_true (show AA l j=(k:Int)by omega),Bool.or_true]
  .rw[ae h,decide_eq_false (show¬AA l j=(k:Int)by omega),Bool.or_false]
theorem nJ(hf:Az t)(h:E0 t)(hv:(A7 t).2=0):Ga t=some (KO t):=by
 have w:=h.ec;unfold Ga;rw[Bo (fun i=>(Au i.toNat).map (OG t)) (by omega) (by rfl),bs,Int.toNat_natCast]
 .rfl
 .intro i o r;have v:JW (t.d3.length:Int) false=some (List.replicate t.d3.length false):=by
   unfold JW;rw[a6 (by omega),Int.toNat_natCast]
  rw [v,bs,oV hf h hv o r,bs];have:=pM (n:=t.d3.length) (l:=(Au t.d3.length).filter fun k=>GD t k i) (fun x j=>DT.1 (List.mem_filter.1 j).1);show(ne (fun(q:Int)(s2:a5)=>
   (idx ((Au t.d3.length).filter fun k=>GD t k i) q).bind fun d=>
   (idx s2 d).bind fun _=>
   some (BN s2 d true)) 0 (((Au t.d3.length).filter fun k=>GD t k i).length:Int) (List.replicate t.d3.length false)).bind _=_
  rw [this,bs,AY (by rw[ca,A5];simp;unfold AZ;omega),bs,GQ o,List.map_append];congr 2;simp only[List.map_cons,List.map_nil];congr 1;unfold OG;refine List.map_congr_left (fun k m=>?_);have m:=DT.1 m;rw[Bool.eq_iff_iff,List.any_eq_true];constructor
  .rintro⟨x,j,e⟩;rw[t2]at e;subst e;exact(List.mem_filter.1 j).2
  .intro u;exact⟨k,List.mem_filter.2 ⟨DT.2 m,u⟩,by simp⟩
end Go.Sf.Sc
namespace Go.Sf.Sc
open Go Go.Sf
def Gq:Nat->AK->List d6
 |0,f=>Ea f.p.d4.length f|n+1,f=>(Au f.g.d3.length).flatMap fun k=>if S6 f k=true then Gq n {f with ec:=f.ec++[k]}else[]
def eG(f:AK)(i:Int):Prop:=0<=i/\i<f.p.d4.length/\0<=(AA f.p.d4 i).ib/\(AA f.p.d4 i).ib<f.ec.length/\0<=(AA f.p.d4 i).To/\(AA f.p.d4 i).To<f.ec.length/\∀k:Int,0<=k->k<f.g.d4.length->LI f i k=false
theorem VH(f:AK)(i k:Int):LI f i k=((decide (PL.at_ f.fq.d4 i<0)||decide (PL.at_ f.fq.d4 i=k))&&decide (AA f.g.d4 k=⟨(AA f.p.d4 i).jj,AA f.ec (AA f.p.d4 i).ib,AA f.ec (AA f.p.d4 i).To⟩)):=rfl
variable{α:Type}{i:Int}
theorem Zb[Inhabited α](l:List α)(x:α)(d:0<=i)(e:i<l.length):AA (l++[x]) i=AA l i:=by
 unfold AA
 grind
theorem gf:∀(n:Nat)(f:AK)(i:Int),eG f i->(f.ei.length:Int)<=i->i<f.ei.length+n->Ea n f=[]
 |0,f,i,_,e,h=>by omega|n+1,f,i,hd,e,h=>by
  rw [Ea];refine List.flatMap_eq_nil_iff.2 (fun k d=>?_);have d:=DT.1 d;by_cases he:(f.ei.length:Int)=i
  .have:S5 f k=false:=by
    unfold S5;rw[he,hd.2.2.2.2.2.2 k d.1 d.2];rfl
   grind
  .split
   .exact gf n {f with ei:=f.ei++[k]} i hd (by show((f.ei++[k]).length:Int)<=i;rw[ba];simp;omega) (by show i<((f.ei++[k]).length:Int)+n;rw[ba];simp;omega)
   .rfl
theorem Zl:∀(n:Nat)(f:AK)(i:Int),f.ei=[]->eG f i->Gq n f=[]
 |0,f,i,he,hd=>by
  rw [Gq];exact gf _ f i hd (by rw[he];simpa using hd.1) (by rw[he];simpa using hd.2.1)
 |n+1,f,i,he,hd=>by
  rw [Gq];refine List.flatMap_eq_nil_iff.2 (fun k o=>?_);split
  .refine Zl n {f with ec:=f.ec++[k]} i he ?_;obtain⟨d,e,h,v,m,w,x⟩:=hd;have u:((f.ec++[k]).length:Int)=f.ec.length+1:=by rw[ba];simp
   refine ⟨d,e,h,?_,m,?_,fun j q r=>?_⟩
   .grind
   .grind
   grind [VH,AA,Zb]
  .rfl
variable{f:AK}
theorem lL(hf:NN f)(h:Oi f=false):∃i,eG f i:=by
 unfold Oi at h;rw[Bool.not_eq_false',D4]at h;obtain⟨i,d,e,h⟩:=h;rw[o4,t2,Bool.not_eq_true',BV]at h;have he:=hf.ends _ (AI d e);exact⟨i,d,e,he.1,by omega,he.2.2.1,by omega,h.2⟩
theorem gT:∀(n:Nat)(f:AK),NN f->f.ei=[]->Jy n f=Gq n f
 |0,_,_,_=>rfl|n+1,f,hf,he=>by
  rw [Jy,Gq];refine congrArg (fun F=>(Au f.g.d3.length).flatMap F) (funext fun k=>?_);have d:NN {f with ec:=f.ec++[k]}:=⟨hf.pn,hf.pe,hf.ends,hf.kinds,hf.small⟩;cases S6 f k
  .rfl
  .cases e:Oi {f with ec:=f.ec++[k]}
   .obtain⟨i,hd⟩:=lL d e
    grind [Zl]
   .simp;exact gT n _ d he
end Go.Sf.Sc
namespace Go.Sf.Sc
open Go Go.Sf
variable{a b:Int}
theorem Qw{σ ρ:Type}{f:σ×Int->Option (CC (σ×Int) ρ)}(g:Int->σ){s:σ}(d:a<=b)(e:s=g a)(h:∀i,a<=i->i<b->f (g i,i)=some (.next (g (i+1),i+1)))(j:f (g b,b)=some (.brk (g b,b))):EG f (s,a)=some (.inl (g b,b)):=by
 subst e;have key:∀(n:Nat)(i:Int),a<=i->i+n=b->NB f (g i,i) (.inl (g b,b)):=by
  intro n
  induction n with
  |zero=>
   intro i _ hi;have:i=b:=by omega
   subst this;exact .brk j
  |succ n o=>
   intro i m q;exact .next (h i m (by omega)) (o (i+1) (by omega) (by omega))
 exact (key (b-a).toNat a (Int.le_refl _) (by omega)).eq
def IR(s:AX)(ec ei:Fp):AK:=⟨s.p,s.g,KO s.t,s.fq,s.fb,s.pr+1,ec,ei,s.Aae⟩
def Cf(s:AX)(l:List d6):AX:={s with Aae:=(s.Aae++l).take (s.pr+1).toNat}
structure VW(s:AX):Prop where
 m0:0<=s.pr
 m1:s.pr<=9999
 out:(s.Aae.length:Int)<=s.pr+1
variable{s:AX}
theorem Pb(h:VW s):Cf s []=s:=by
 unfold Cf;rw[List.append_nil,List.take_of_length_le (by have:=h.out;have:=h.m0;omega)]
theorem WU(h:(s.Aae.length:Int)=s.pr+1)(l:List d6):Cf s l=s:=by
 unfold Cf;rw[List.take_append_of_le_length (by omega),List.take_of_length_le (by omega)]
theorem WV(h:VW s)(l:List d6):VW (Cf s l):=by
 refine ⟨h.m0,h.m1,?_⟩;have:=h.m0;show(((s.Aae++l).take (s.pr+1).toNat).length:Int)<=s.pr+1
 grind
theorem Uj(s:AX)(a b:List d6):Cf (Cf s a) b=Cf s (a++b):=by
 show ({s with Aae:=(((s.Aae++a).take (s.pr+1).toNat)++b).take (s.pr+1).toNat}:AX)=_;rw[YS,ci];rfl
variable{l:Fp}
theorem jJ(s:AX)(j:l.length<=1000)(n:Int):CY s l n=some (s.fb&&l.any fun x=>decide (n=x)):=by
 unfold CY;cases s.fb
 .rw[UU (fun _=>false) true (a:=0) (b:=0) (Int.le_refl _) (fun i h d=>by omega) (by rw[ae (by simp)])];rfl
 .rw[UU (fun i=>decide (AA l i=n)) true (a:=0) (b:=l.length) (by omega) (fun i h d=>by
   rw [a6 (by simp;exact d),AD h d,bs,Ay (by omega) (by omega),IC]) (by rw[ae (by simp)])]
  have e:ll (fun i=>decide (AA l i=n)) 0 l.length=l.any fun x=>decide (n=x):=by
   rw [Bool.eq_iff_iff,D4,List.any_eq_true]
   grind [AI,Bb]
  rw [e,Bool.true_and];cases l.any fun x=>decide (n=x)<;>rfl
theorem YI:∀(n:Nat)(s:AX)(ec l:Fp),NN (IR s [] [])->VW s->ec.length=s.p.d3.length->l.length+n=s.p.d4.length->∀m,n+1<=m->Bp m s ec l=some (Cf s (Ea n (IR s ec l)))
 |n,s,ec,l,hf,r,z,he,m,B=>by
  obtain ⟨m,rfl⟩:∃k,m=k+1:=⟨m-1,by omega⟩;have u:=hf.small;have R:s.p.d3.length<=1000:=u.1;have s2:s.p.d4.length<=1000:=u.2.1;have S:s.g.d3.length<=1000:=u.2.2.1;have T:s.g.d4.length<=1000:=u.2.2.2;have U:=r.m0;have V:=r.m1;have W:=r.out;rw[Bp];by_cases v:(s.Aae.length:Int)=s.pr+1
  .grind[WU]
  rw [ae (by simp;omega)]
  match n,he,B with
  |0,he,B=>
   rw [a6 (by simp;omega),Bm (by unfold AZ;omega),bs,Bm (by unfold AZ;omega),bs,AY (by simp;unfold AZ;omega),bs];unfold Cf;rw[List.take_of_length_le (by simp[Ea];omega)];rfl
  |n+1,he,B=>
   have e:(0:Int)<=l.length:=by omega
   have q:(l.length:Int)<s.p.d4.length:=by omega
   have d:=hf.ends _ (AI (l:=s.p.d4) e q);have H:(AA s.p.d4 l.length).ib<ec.length:=by rw[z];exact d.2.1
   have I:(AA s.p.d4 l.length).To<ec.length:=by rw[z];exact d.2.2.2
   have w:(l.length:Int)<s.fq.d4.length:=by
    have:s.fq.d4.length=s.p.d4.length:=hf.pe;omega
   rw [ae (by simp;omega),AD e q,bs];rw[Qw (fun i=>Cf s ((Au i.toNat).flatMap fun k=>if S5 (IR s ec l) k=true then Ea n (IR s ec (l++[k]))else[])) (a:=0) (b:=(s.g.d4.length:Int)) (s:=s) (by omega) (Pb r).symm (fun i C D=>by
    have J:∀F,Cf s ((Au (i+1).toNat).flatMap F)=Cf (Cf s ((Au i.toNat).flatMap F)) (F i):=by
     intro F;rw[Uj,GQ C,List.flatMap_append];simp
    rw [J];generalize (Au i.toNat).flatMap (fun k=>if S5 (IR s ec l) k=true then Ea n (IR s ec (l++[k]))else[])=L;have E:=WV r L;rw[a6 (by rw[t2];exact D)];have K:idx (Cf s L).g.d4 i=some (AA s.g.d4 i):=AD C D;have M:idx (Cf s L).fq.d4 (l.length:Int)=some (AA s.fq.d4 l.length):=AD e w;have N:CY (Cf s L) l i=some (s.fb&&l.any fun x=>decide (i=x)):=jJ (Cf s L) (by omega) i;have key:((Ap [] l).bind fun h=>
      (Ap h [i]).bind fun j=>
      (Bp m (Cf s L) ec j).bind fun o=>
      some (.next (o,Am (i+1)):CC (AX×Int) AX))=some (.next (Cf (Cf s L) (Ea n (IR s ec (l++[i]))),i+1)):=by
     have G:=YI n (Cf s L) ec (l++[i]) ⟨hf.pn,hf.pe,hf.ends,hf.kinds,hf.small⟩ E z (by show(l++[i]).length+n=s.p.d4.length;rw[ba];simp;omega) m (by omega);have O:Ea n (IR (Cf s L) ec (l++[i]))=Ea n (IR s ec (l++[i])):=QZ n (IR s ec (l++[i])) _;rw[O]at G;rw[Bm (by unfold AZ;omega),bs,AY (by simp;unfold AZ;omega),bs,G,bs,Ay (by omega) (by omega)]
    rw [K,bs,M,bs,N,key];simp only[bs];rw[AD d.1 H,AD d.2.2.1 I,Ay (n:=i+1) (by omega) (by omega)];simp only[bs];have y:S5 (IR s ec l) i=(((decide (AA s.fq.d4 l.length<0)||decide (AA s.fq.d4 l.length=i))&&decide (AA s.g.d4 i=⟨(AA s.p.d4 l.length).jj,AA ec (AA s.p.d4 l.length).ib,AA ec (AA s.p.d4 l.length).To⟩))&&!(s.fb&&l.any fun x=>decide (i=x))):=rfl;have P:decide (AA s.g.d4 i=⟨(AA s.p.d4 l.length).jj,AA ec (AA s.p.d4 l.length).ib,AA ec (AA s.p.d4 l.length).To⟩)=(decide ((AA s.p.d4 l.length).jj=(AA s.g.d4 i).jj)&&decide ((AA s.g.d4 i).ib=AA ec (AA s.p.d4 l.length).ib)&&decide ((AA s.g.d4 i).To=AA ec (AA s.p.d4 l.length).To)):=by
     rw [Bool.eq_iff_iff];simp[t2];generalize AA s.g.d4 i=x;obtain⟨x1,X,Y⟩:=x;simp;constructor
     .rintro⟨a,b,c⟩;exact⟨⟨a.symm,b⟩,c⟩
     .rintro⟨⟨a,b⟩,c⟩;exact⟨a.symm,b,c⟩
    have Q:(decide (AA s.fq.d4 l.length<0)||decide (AA s.fq.d4 l.length=i))=!(decide (0<=AA s.fq.d4 l.length)&&!decide (AA s.fq.d4 l.length=i)):=by
     rw [Bool.not_and,Bool.not_not];congr 1;rw[<-decide_not];exact decide_eq_decide.2 (by omega)
    rw [y,P,Q];generalize Ea n (IR s ec (l++[i]))=A;generalize decide (0<=AA s.fq.d4 l.length)=c1;generalize decide (AA s.fq.d4 l.length=i)=c2;generalize decide ((AA s.p.d4 l.length).jj=(AA s.g.d4 i).jj)=c3;generalize decide ((AA s.g.d4 i).ib=AA ec (AA s.p.d4 l.length).ib)=c4;generalize decide ((AA s.g.d4 i).To=AA ec (AA s.p.d4 l.length).To)=c5;generalize (s.fb&&l.any fun x=>decide (i=x))=c6;cases c1<;>cases c2<;>cases c3<;>cases c4<;>cases c5<;>cases c6<;>first|rfl|(simp[Pb E];try rfl)) (by rw[ae (by simp[Cf])]),Bt,Int.toNat_natCast,Ea]
   rfl
end Go.Sf.Sc
namespace Go.Sf.Sc
open Go Go.Sf
def Sn(s:AX)(l:Fp)(i k:Int):Bool:=decide (AA s.g.d4 k=⟨(AA s.p.d4 i).jj,AA l (AA s.p.d4 i).ib,AA l (AA s.p.d4 i).To⟩)
def SF(s:AX)(l:Fp)(i:Int):Bool:=(decide ((AA s.p.d4 i).ib<l.length)&&decide ((AA s.p.d4 i).To<l.length))&&!(Au s.g.d4.length).any (Sn s l i)
variable{s:AX}{l:Fp}
theorem rW(hf:NN (IR s [] [])):FO s l=some (!ll (SF s l) 0 s.p.d4.length):=by
 unfold FO;rw[BQ (SF s l) false]
 .cases ll (SF s l) 0 s.p.d4.length<;>rfl
 .intro i d e _;have he:=hf.ends _ (AI (l:=s.p.d4) d e);rw[AD d e,bs];unfold SF;by_cases j:(AA s.p.d4 i).ib<l.length
  .by_cases m:(AA s.p.d4 i).To<l.length
   .rw[ae (by simp;omega),Bo (fun k=>(Au k.toNat).any (Sn s l i)) (by omega) (by rfl),bs,Int.toNat_natCast,decide_eq_true j,decide_eq_true m]
    .grind
    .intro k h o;rw[AD h o,bs,GQ h,List.any_append];have q:Sn s l i k=(decide ((AA s.p.d4 i).jj=(AA s.g.d4 k).jj)&&decide ((AA s.g.d4 k).ib=AA l (AA s.p.d4 i).ib)&&decide ((AA s.g.d4 k).To=AA l (AA s.p.d4 i).To)):=by
      unfold Sn;rw[Bool.eq_iff_iff];simp[t2];generalize AA s.g.d4 k=x;obtain⟨x1,r,u⟩:=x;simp;constructor
      .rintro⟨a,b,c⟩;exact⟨⟨a.symm,b⟩,c⟩
      .rintro⟨⟨a,b⟩,c⟩;exact⟨a.symm,b,c⟩
     rw [AD he.1 j,AD he.2.2.1 m];simp only[List.any_cons,List.any_nil,Bool.or_false,bs];rw[q];generalize (Au k.toNat).any (Sn s l i)=c1;generalize decide ((AA s.p.d4 i).jj=(AA s.g.d4 k).jj)=c3;generalize decide ((AA s.g.d4 k).ib=AA l (AA s.p.d4 i).ib)=c4;generalize decide ((AA s.g.d4 k).To=AA l (AA s.p.d4 i).To)=c5;cases c1<;>cases c3<;>cases c4<;>cases c5<;>rfl
   grind
  grind
theorem rT(hf:NN (IR s [] []))(h:ll (SF s l) 0 s.p.d4.length=true):∃i,eG (IR s l []) i:=by
 rw [D4]at h;obtain⟨i,d,j,h⟩:=h;unfold SF at h;rw[o4,o4,t2,t2,Bool.not_eq_true',List.any_eq_false]at h;have he:=hf.ends _ (AI (l:=s.p.d4) d j);refine⟨i,d,j,he.1,h.1.1,he.2.2.1,h.1.2,fun k m o=>?_⟩;have:=h.2 k (DT.2 ⟨m,o⟩);have e:Sn s l i k=false:=by rw[<-Bool.not_eq_true];exact this
 rw [VH];show((decide (AA s.fq.d4 i<0)||decide (AA s.fq.d4 i=k))&&Sn s l i k)=false;rw[e,Bool.and_false]
end Go.Sf.Sc
namespace Go.Sf.Sc
open Go Go.Sf
theorem ZW:∀(n:Nat)(f:AK)(o:List d6),Gq n (Sd f o)=Gq n f
 |0,f,o=>QZ _ f o|n+1,f,o=>by
  rw [Gq,Gq];refine congrArg (fun F=>(Au f.g.d3.length).flatMap F) (funext fun k=>?_);have:=ZW n {f with ec:=f.ec++[k]} o
  grind [S6,Gq,Sd]
theorem YJ:∀(n:Nat)(s:AX)(l:Fp),E0 s.t->NN (IR s [] [])->VW s->l.length+n=s.p.d3.length->∀m,n+1<=m->Bq m s l=some (Cf s (Gq n (IR s l [])))
 |n,s,l,P,hf,r,K,m,z=>by
  obtain ⟨m,rfl⟩:∃k,m=k+1:=⟨m-1,by omega⟩;have M:=hf.small;have Z:s.p.d3.length<=1000:=M.1;have s3:s.g.d3.length<=1000:=M.2.2.1;have h0:=r.m0;have h1:=r.m1;have h2:=r.out;rw[Bq];by_cases E:(s.Aae.length:Int)=s.pr+1
  .grind[WU]
  rw [ae (by simp;omega),rW hf];cases hd:ll (SF s l) 0 s.p.d4.length
  case true=>
   grind [rT,Zl,IR,Pb]
  simp only[bs,Bool.not_false,Bool.not_true,Bool.false_eq_true,if_false]
  match n,K,z with
  |0,K,z=>
   rw [a6 (by simp;omega),Option.bind_fun_some,Gq];exact Dd (s.p.d4.length+1) fun m z=>YI s.p.d4.length s l [] hf r (by omega) (by simp) m (by omega)
  |n+1,K,z=>
   have w:(l.length:Int)<s.p.d3.length:=by omega
   have o:(0:Int)<=l.length:=by omega
   have G:(l.length:Int)<s.fq.d3.length:=by
    have:s.fq.d3.length=s.p.d3.length:=hf.pn;omega
   have Q:(KO s.t).length=s.t.d3.length:=by unfold KO;rw[ca,A5]
   have d:=hf.kinds _ (AI (l:=s.p.d3) o w);have H:AA s.p.d3 l.length<s.t.d3.length:=by rw[<-Q];exact d.2.1
   have j:AA (KO s.t) (AA s.p.d3 l.length)=OG s.t (AA s.p.d3 l.length):=Hq (OG s.t) d.1 H;rw[ae (by simp;omega)];rw[Qw (fun i=>Cf s ((Au i.toNat).flatMap fun k=>if S6 (IR s l []) k=true then Gq n (IR s (l++[k]) [])else[])) (a:=0) (b:=(s.g.d3.length:Int)) (s:=s) (by omega) (Pb r).symm (fun i B C=>by
    have R:∀F,Cf s ((Au (i+1).toNat).flatMap F)=Cf (Cf s ((Au i.toNat).flatMap F)) (F i):=by
     intro F;rw[Uj,GQ B,List.flatMap_append];simp
    rw [R];generalize (Au i.toNat).flatMap (fun k=>if S6 (IR s l []) k=true then Gq n (IR s (l++[k]) [])else[])=L;have N:=WV r L;rw[a6 (by rw[t2];exact C)];have q:=d.2.2 _ (AI (l:=s.g.d3) B C);have y:AA s.g.d3 i<s.t.d3.length:=by
     have h:=q.2;have e:AA (IR s [] []).is (AA s.p.d3 l.length)=OG s.t (AA s.p.d3 l.length):=j;rw[e]at h;unfold OG at h
     rwa [ca,A5]at h
    have I:GV (Cf s L).t (AA s.g.d3 i) (AA s.p.d3 l.length)=some (GD s.t (AA s.g.d3 i) (AA s.p.d3 l.length)):=UN P q.1 y d.1;have S:idx (Cf s L).g.d3 i=some (AA s.g.d3 i):=AD B C;have T:idx (Cf s L).fq.d3 (l.length:Int)=some (AA s.fq.d3 l.length):=AD o G;have U:CY (Cf s L) l i=some (s.fb&&l.any fun x=>decide (i=x)):=jJ (Cf s L) (by omega) i;have V:idx (Cf s L).p.d3 (l.length:Int)=some (AA s.p.d3 l.length):=AD o w;have key:((Ap [] l).bind fun D=>
      (Ap D [i]).bind fun u=>
      (Bq m (Cf s L) u).bind fun v=>
      some (.next (v,Am (i+1)):CC (AX×Int) AX))=some (.next (Cf (Cf s L) (Gq n (IR s (l++[i]) [])),i+1)):=by
     have O:=YJ n (Cf s L) (l++[i]) P ⟨hf.pn,hf.pe,hf.ends,hf.kinds,hf.small⟩ N (by show(l++[i]).length+n=s.p.d3.length;rw[ba];simp;omega) m (by omega);have W:Gq n (IR (Cf s L) (l++[i]) [])=Gq n (IR s (l++[i]) []):=ZW n (IR s (l++[i]) []) _;rw[W]at O;rw[Bm (by unfold AZ;omega),bs,AY (by simp;unfold AZ;omega),bs,O,bs,Ay (by omega) (by omega)]
    rw [T,bs,U,S,V,key];simp only[bs];rw[I,Ay (n:=i+1) (by omega) (by omega)];simp only[bs];have J:S6 (IR s l []) i=((decide (AA s.fq.d3 l.length<0)||decide (AA s.fq.d3 l.length=i))&&AA (AA (KO s.t) (AA s.p.d3 l.length)) (AA s.g.d3 i)&&!(s.fb&&l.any fun x=>decide (i=x))):=rfl;have X:AA (AA (KO s.t) (AA s.p.d3 l.length)) (AA s.g.d3 i)=GD s.t (AA s.g.d3 i) (AA s.p.d3 l.length):=by
     rw [j];exact Hq (fun k=>GD s.t k (AA s.p.d3 l.length)) q.1 y
    have Y:(decide (AA s.fq.d3 l.length<0)||decide (AA s.fq.d3 l.length=i))=!(decide (0<=AA s.fq.d3 l.length)&&!decide (AA s.fq.d3 l.length=i)):=by
     rw [Bool.not_and,Bool.not_not];congr 1;rw[<-decide_not];exact decide_eq_decide.2 (by omega)
    rw [J,X,Y];generalize Gq n (IR s (l++[i]) [])=A;generalize decide (0<=AA s.fq.d3 l.length)=c1;generalize decide (AA s.fq.d3 l.length=i)=c2;generalize GD s.t (AA s.g.d3 i) (AA s.p.d3 l.length)=c3;generalize (s.fb&&l.any fun x=>decide (i=x))=c6;cases c1<;>cases c2<;>cases c3<;>cases c6<;>first|rfl|(simp[Pb N];try rfl)) (by rw[ae (by simp[Cf])]),Bt,Int.toNat_natCast,Gq]
   rfl
end Go.Sf.Sc
namespace Go.Sf.Sc
open Go Go.Sf
def FF(t:AC)(p g:d5)(pa:d6)(inj:Bool):AK:=⟨p,g,KO t,pa,inj,5001,[],[],[]⟩
def PO(t:AC)(p g:d5)(pa:d6)(inj:Bool):List d6:=(Gq p.d3.length (FF t p g pa inj)).take 5001
variable{t:AC}{p g:d5}{pa:d6}{inj:Bool}
theorem oa(j:Az t)(hv:(A7 t).2=0)(d:NN (FF t p g pa inj)):H3 t p g pa inj 5001=some (PO t p g pa inj):=by
 unfold H3;rw[nJ j (C4 hv) hv,bs];have h:=rD (f:=FF t p g pa inj) d ⟨by show(0:Int)<=5001;omega,by show(5001:Int)<=10000;omega,by show((0:Nat):Int)<=5001;omega⟩ rfl rfl;rw[gT _ _ d rfl]at h;have e:AK.mk p g (KO t) pa inj 5001 [] [] []=FF t p g pa inj:=rfl;rw[e,h];rfl
theorem vN(hv:(A7 t).2=0)(d:NN (FF t p g pa inj)):Jp t p g pa inj 5000=some (PO t p g pa inj):=by
 unfold Jp;have h:Ge ⟨t,p,g,pa,inj,5000,[]⟩ []=some (Cf ⟨t,p,g,pa,inj,5000,[]⟩ (Gq p.d3.length (FF t p g pa inj))):=
  Dd (p.d3.length+1) fun m e=>YJ p.d3.length ⟨t,p,g,pa,inj,5000,[]⟩ [] (C4 hv) d ⟨by show(0:Int)<=5000;omega,by show(5000:Int)<=9999;omega,by show((0:Nat):Int)<=5000+1;omega⟩ (by show 0+p.d3.length=p.d3.length;omega) m e
 rw [h];rfl
end Go.Sf.Sc
namespace Go.Sf.Sc
open Go Go.Sf
def Ur(n k:Int):Bool:=decide (k< -1)||decide (n<=k)
def RK(l:Fp)(n:Int):Int:=if l.any (Ur n)=true then 6 else 0
theorem iV(l:Fp)(n:Int):Hg l n=some (RK l n):=by grind[Hg,RK,M6,Ur,Qd]
variable{l:Fp}
theorem ax{c:Int}(n:Int)(h:(l.length:Int)=c):Je l c n=some (RK l n):=by
 unfold Je RK;rw[ae (by simp[h]),BQ (fun i=>Ur n (AA l i)) 6]
 .have e:ll (fun i=>Ur n (AA l i)) 0 l.length=l.any (Ur n):=by
   rw [Bool.eq_iff_iff,D4,List.any_eq_true]
   grind [AI,Bb]
  rw [e];cases l.any (Ur n)<;>rfl
 grind [AD,Ur,AA]
end Go.Sf.Sc
namespace Go.Sf.Sc
open Go Go.Sf
theorem aa(t:AC)(g:d5):Fo t g=some (C9 t g):=by grind[Fo,C9,LG,Qd,LH,cY]
def GT(t:AC)(p g:d5):Int:=if(A7 t).2≠0 then(A7 t).2 else if Bw p≠0 then Bw p else if Bw g≠0 then Bw g else if(C9 t p&&C9 t g)=true then 0 else 13
variable{t:AC}
theorem W8(hf:Az t)(p g:d5):Ef t p g=some (GT t p g):=by
 unfold Ef GT;rw[Oh hf,bs];refine Dz fun _=>?_;have o:hT (ρ:=Int) (fun(m:Int)(_:Unit)=>
   (idx [p,g] m).bind fun j=>
   (DC j).bind fun h=>
   if (!decide (h=0))=true then
   some (.ret h)
   else
   some (.next ())) 0 ([p,g].length:Int) ()=some (if Bw p≠0 then .inr (Bw p)else if Bw g≠0 then .inr (Bw g)else .inl ()):=by
  show wb _ 2 0 ()=_;rw[GF,show idx [p,g] 0=some p from rfl,bs,MC,bs];by_cases d:Bw p=0
  .rw[ae (by simp[d]),ae (by simp[d])];show wb _ 1 (0+1) ()=_;rw[GF,show idx [p,g] (0+1)=some g from rfl,bs,MC,bs];by_cases e:Bw g=0
   .rw[ae (by simp[e]),ae (by simp[e])];rfl
   .rw[a6 (by simp[e]),a6 e]
  .rw[a6 (by simp[d]),a6 d]
 rw [o];by_cases d:Bw p=0
 .by_cases e:Bw g=0
  .simp[d,e,Bt];rw[aa,aa,bs];cases C9 t p<;>cases C9 t g<;>rfl
  .simp[d,e,not_false_eq_true,Pd]
 .simp[d,not_false_eq_true,Pd]
theorem U9(hf:Az t)(p g:d5):FJ t p g=some (GT t p g):=by
 unfold FJ GT;rw[QN hf,bs];refine Dz fun _=>?_;rw[NV,bs];refine Dz fun d=>?_;rw[NV,bs];refine Dz fun e=>?_
 grind [XE,DF,C9]
end Go.Sf.Sc
namespace Go.Sf.Sc
open Go Go.Sf
variable{t:AC}{p g:d5}{pa:d6}{inj:Bool}
theorem Zq(h:GT t p g=0)(r:pa.d3.length=p.d3.length)(u:pa.d4.length=p.d4.length):(A7 t).2=0/\NN (FF t p g pa inj):=by
 unfold GT at h;by_cases hv:(A7 t).2=0
 .rw[ae (by simp[hv])]at h;by_cases o:Bw p=0
  .rw[ae (by simp[o])]at h;by_cases q:Bw g=0
   .rw[ae (by simp[q])]at h;by_cases d:(C9 t p&&C9 t g)=true
    .rw[o4]at d;have op:=DF o;have m:=DF q;have tp:=Gx op d.1;have w:=Gx m d.2;have x:(KO t).length=t.d3.length:=by unfold KO;rw[ca,A5]
     refine ⟨hv,r,u,fun e he=>?_,fun n v=>?_,Nat.le_trans op.ec (by omega),Nat.le_trans op.ei (by omega),Nat.le_trans m.ec (by omega),Nat.le_trans m.ei (by omega)⟩
     .have:=op.fit e he;exact⟨this.2.1.1,this.2.1.2,this.2.2.1,this.2.2.2⟩
     .have:=tp.1 n v;refine⟨this.1,by show n<((KO t).length:Int);rw[x];exact this.2,fun k j=>?_⟩;have j:=w.1 k j;refine⟨j.1,?_⟩;show k<((AA (KO t) n).length:Int)
      grind [KO,Hq,OG,ca,A5]
    grind
   grind
  grind
 grind
def SH(t:AC)(p g:d5)(pa:d6)(inj:Bool):List d6×Int:=
 if GT t p g≠0 then([],GT t p g)else if¬(pa.d3.length=p.d3.length/\pa.d4.length=p.d4.length)then([],20)else
 if RK pa.d3 g.d3.length≠0 then([],RK pa.d3 g.d3.length)else if RK pa.d4 g.d4.length≠0 then([],RK pa.d4 g.d4.length)else
 if 5000<(PO t p g pa inj).length then([],3)else(PO t p g pa inj,0)
theorem lC(hf:Az t)(p g:d5)(pa:d6)(inj:Bool):Gw t p g pa inj=some (SH t p g pa inj):=by
 unfold Gw SH;rw[W8 hf,bs];refine FG fun e=>?_;refine Nl (by simp[Bool.not_eq_true',decide_eq_false_iff_not];omega) fun d=>?_;have d:=Classical.not_not.1 d;rw[iV,bs];refine FG fun h=>?_;rw[iV,bs];refine FG fun j=>?_
 grind [Zq,KJ,oa,PO]
theorem lO(hf:Az t)(p g:d5)(pa:d6)(inj:Bool):Hx t p g pa inj=some (SH t p g pa inj):=by
 unfold Hx SH;rw[U9 hf,bs];refine FG fun e=>?_;refine Nl (by simp[Bool.not_eq_true',decide_eq_false_iff_not];omega) fun d=>?_;have d:=Classical.not_not.1 d;rw[ax _ (by omega),bs];refine FG fun h=>?_;rw[ax _ (by omega),bs];refine FG fun j=>?_
 grind [Zq,vN,PO]
end Go.Sf.Sc
