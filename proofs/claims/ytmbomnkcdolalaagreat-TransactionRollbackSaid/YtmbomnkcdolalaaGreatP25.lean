/- Plain lemmas: what the functions of the program and of the reference compute. -/
import Derived.Test.YtmbomnkcdolalaaGreatP1
import Derived.Test.YtmbomnkcdolalaaGreatEval
set_option linter.all false
set_option maxRecDepth 100000
namespace Go.Sf.Sc
open Go Go.Sf
variable{t:AC}{c:d7}
theorem n9(hf:An t)(p:ec)(e:Di c):Cu t p c=some (MQ t p c):=by
 by_cases d:(A2 t).2=0
 .exact g6 hf d p e
 .unfold Cu MQ;rw[Ws hf,bs];refine DV fun h=>?_;exfalso;unfold HV at h;rw[a6 d]at h;exact d h
end Go.Sf.Sc
namespace Go.Sf.Sc
open Go Go.Sf
variable{α:Type}
theorem o7[Inhabited α](b:α->α->Bool){l m:List α}(j:∀x∈l,∀y∈m,(b x y=true↔x=y))(o:l.length=m.length):pc (fun i=>!b (AA l i) (AA m i)) 0 l.length=false↔l=m:=by
 rw [Bk];constructor
 .intro h;refine gE o (fun i d e=>?_);have:=h i d e;rw[Bool.not_eq_false']at this;exact(j _ (AM d e) _ (AM d (by omega))).1 this
 .rintro rfl i d e;rw[Bool.not_eq_false'];exact(j _ (AM d e) _ (AM d e)).2 rfl
theorem nV[Inhabited α][DecidableEq α]{l m:List α}(r:l.length=m.length){k:Unit->K1}{j:Bool->K1}:gp (kq (ρ:=Bool) (fun(o:Int)(_:Unit)=>
 (idx l o).bind fun d=>
 (idx m o).bind fun e=>
 if (!decide (d=e))=true then
 some (.ret false)
 else
 some (.next ())) 0 (l.length:Int) ()) k j=if l=m then k ()else j false:=by
 rw [BS (fun i=>!decide (AA l i=AA m i)) false]
 .have:=o7 (fun x y:α=>decide (x=y)) (l:=l) (m:=m) (fun _ _ _ _=>decide_eq_true_iff) r;by_cases h:l=m
  .rw[this.2 h,a6 h];rfl
  .rw[ae h];cases v:pc (fun i=>!decide (AA l i=AA m i)) 0 l.length
   .exact absurd (this.1 v) h
   .rfl
 .intro i q u _;rw[AE q u,bs,AE q (by omega),bs,II]
theorem XZ[Inhabited α][DecidableEq α](l m:List α):(if(!decide ((l.length:Int)=(m.length:Int)))=true then
 some false
 else
 gp (kq (ρ:=Bool) (fun(q:Int)(_:Unit)=>
 (idx l q).bind fun d=>
 (idx m q).bind fun j=>
 if (!decide (d=j))=true then
 some (.ret false)
 else
 some (.next ())) 0 (l.length:Int) ()) (fun _=>
 some true) (fun r=>some r))=some (decide (l=m)):=by
 by_cases o:l.length=m.length
 .rw[ae (by simp[o]),nV o];by_cases h:l=m
  .rw[a6 h,decide_eq_true h]
  .rw[ae h,decide_eq_false h]
 .rw[a6 (by simp;omega),decide_eq_false (fun e=>o (by rw[e]))]
theorem mX(l m:Fp):slices_Equal_int l m=some (decide (l=m)):=XZ l m
theorem dM(l m:Fp):Gy l m=some (decide (l=m)):=XZ l m
theorem Xn(l m:Fp):Gz l m=some (decide (l=m)):=XZ l m
end Go.Sf.Sc
namespace Go.Sf.Sc
open Go Go.Sf
mutual
def Eo:d7->Nat
 |⟨_,kids,_,_⟩=>1+Qw kids
def Qw:List d7->Nat
 |[]=>0|k::l=>Eo k+Qw l
end
mutual
def xA:d7->Nat
 |⟨k,kids,_,_⟩=>(if k=5 then 1 else 0)+qN kids
def qN:List d7->Nat
 |[]=>0|k::l=>max (xA k) (qN l)
end
theorem S0(c:d7):Eo c=1+Qw c.hT:=by cases c;rfl
variable{k:Int}
theorem nU{l:List d7}(d:0<=k)(e:k<l.length):l.drop k.toNat=AA l k::l.drop (k+1).toNat:=by
 rw [show(k+1).toNat=k.toNat+1 by omega,List.drop_eq_getElem_cons (by omega)];unfold AA;rw[List.getD_eq_getElem?_getD,List.getElem?_eq_getElem (by omega)];rfl
theorem X4:∀(N:Nat)(c:d7),SizeOf.sizeOf c<=N->(AK c).Sm->∀up:Int,0<=up->up<=1000->∃r,(∀n,N<=n->Cj n c up=some r)/\-1<=r/\r<=up-1/\(0<=r->Di c/\(Eo c:Int)+r<=up)
 |0,c,h,_,_,_,_=>by have:=EQ c;omega|N+1,c,h,X,up,m0,m1=>by
  obtain ⟨O,P,D⟩:=cc X;obtain⟨Q,z,R⟩:=RE c.ec;obtain⟨S,F,T⟩:=Xa O;have step:∀n,N+1<=n->∃m,n=m+1/\N<=m:=fun n d=>⟨n-1,by omega,by omega⟩;cases Q
  .refine⟨-1,fun n d=>?_,by omega,by omega,fun h=>by omega⟩;obtain⟨n,rfl,_⟩:=step n d;rw[Cj,z];rfl
  cases S
  .refine⟨-1,fun n d=>?_,by omega,by omega,fun h=>by omega⟩;obtain⟨n,rfl,_⟩:=step n d;rw[Cj,z,bs,F];rfl
  have loop:∀(m:Nat)(k left:Int),0<=k->k+m=c.hT.length->-1<=left->left<=1000->∃e w,(∀n,N<=n->Lu (ρ:=Int) (fun(q:Int×Int)=>
    if ((decide (q.2<(c.hT.length:Int)))&&(decide (0<=q.1)))=true then
    (idx c.hT q.2).bind fun A=>
    (Cj n A q.1).bind fun B=>
    some (.next (B,Aj (q.2+1)))
    else
    some (.brk (q.1,q.2))) (left,k) (.inl (e,w)))/\-1<=e/\e<=left/\(0<=e->(∀j,k<=j->j<c.hT.length->Di (AA c.hT j))/\(Qw (c.hT.drop k.toNat):Int)+e<=left):=by
   intro m
   induction m with
   |zero=>
    intro k left y K E l1;refine⟨left,k,fun n d=>.brk ?_,E,by omega,fun _=>⟨fun j C x=>by omega,?_⟩⟩
    .rw[ae (by simp;omega)]
    .rw[List.drop_of_length_le (by omega),Qw];omega
   |succ m W=>
    intro k left y K E l1;by_cases L:0<=left
    .have o:=AM (l:=c.hT) y (by omega);have:=FN o;obtain⟨r,U,V,Y,I⟩:=X4 N _ (by omega) (D _ o) left L l1;obtain⟨e,w,a1,G,J,v⟩:=W (k+1) r (by omega) (by omega) V (by omega);refine⟨e,w,fun n d=>.next (s':=(r,k+1)) ?_ (a1 n d),G,by omega,fun u=>⟨fun j C x=>?_,?_⟩⟩
     .rw[a6 (by simp;omega),AE y (by omega),bs,U n d,bs,Ar (by omega) (by omega)]
     .by_cases M:j=k
      .subst M;exact(I (by omega)).1
      .exact(v u).1 j (by omega) x
     .have z:=(I (by omega)).2;have F:=(v u).2;rw[nU y (by omega),Qw];omega
    .refine⟨left,k,fun n d=>.brk ?_,E,by omega,fun h=>by omega⟩;rw[ae (by simp;omega)]
  obtain ⟨e,w,a1,G,J,v⟩:=loop c.hT.length 0 (up-1) (by omega) (by omega) (by omega) (by omega);refine⟨e,fun n d=>?_,G,J,fun u=>⟨.mk c (R rfl) (T rfl) (fun k D=>?_),?_⟩⟩
  .obtain⟨n,rfl,H⟩:=step n d;rw[Cj,z,bs,F];simp only[bs,Bool.not_true,Bool.false_eq_true,if_false];rw[Ar (n:=up-1) (by omega) (by omega),(a1 n H).eq,Br]
  .obtain⟨j,C,x,rfl⟩:=Be D;exact(v u).1 j C x
  .have:=(v u).2;rw[show(0:Int).toNat=0 from rfl,List.drop_zero]at this;rw[S0];omega
variable{c:d7}
theorem gN(d:(AK c).Sm):∃b,JE c=some b/\(b=true->Di c/\Eo c<=40):=by
 obtain ⟨r,j,_,_,m⟩:=X4 (SizeOf.sizeOf c) c (az _) d 40 (by omega) (by omega);have e:Ox c 40=some r:=EZ (SizeOf.sizeOf c) j;unfold JE;rw[e];exact⟨_,rfl,fun h=>by have:=m (by simpa using h);exact⟨this.1,by have:=this.2;simp at h;omega⟩⟩
theorem VX:∀{l:List d7}{k:d7},k∈l->Eo k<=Qw l
 |x::l,k,h=>by
  rw [Qw];rcases List.mem_cons.1 h with rfl|h
  .omega
  .have:=VX h;omega
end Go.Sf.Sc
namespace Go.Sf.Sc
open Go Go.Sf
structure Lz(f:AL):Prop where
 pn:f.gt.d3.length=f.p.d3.length
 pe:f.gt.d5.length=f.p.d5.length
 ends:∀e∈f.p.d5,0≤e.o4/\e.o4<f.p.d3.length/\0≤e.To/\e.To<f.p.d3.length
 kinds:∀n∈f.p.d3,0<=n/\n<f.is.length/\∀t∈f.g.d3,0<=t/\t<(AA f.is n).length
 small:f.p.d3.length<=1000/\f.p.d5.length<=1000/\f.g.d3.length<=1000/\f.g.d5.length<=1000
def KG(f:AL)(i k:Int):Bool:=
 (decide (AA f.gt.d5 i<0)||decide (AA f.gt.d5 i=k))&&decide (AA f.g.d5 k=⟨(AA f.p.d5 i).og,AA f.ei (AA f.p.d5 i).o4,AA f.ei (AA f.p.d5 i).To⟩)
variable{α:Type}
theorem gk{l:List α}(h:l≠[]):aB l=some ():=by grind[aB]
variable{l:Fp}{i:Int}
theorem Zz(e:0<=i)(d:i<l.length):HH l i=some (AA l i):=by
 unfold HH;rw[gk (by intro h;subst h;simp at d;omega),bs,AE e d,bs]
variable{f:AL}{k:Int}
theorem iE(hf:Lz f)(d:0<=i)(e:i<f.p.d5.length)(h:0<=k)(j:k<f.g.d5.length)(m:(AA f.p.d5 i).o4<f.ei.length)(o:(AA f.p.d5 i).To<f.ei.length):Dj f i k=some (KG f i k):=by
 have he:=hf.ends _ (AM d e);unfold Dj KG;rw[AE d e,bs,Zz d (by rw[hf.pe];exact e),bs,AE h j,bs,AE he.1 m,bs,AE he.2.2.1 o,bs]
 grind
def NW(f:AL):Bool:=!pc (fun i=>decide (max (AA f.p.d5 i).o4 (AA f.p.d5 i).To=(f.ei.length:Int)-1)&&!pc (fun k=>KG f i k) 0 f.g.d5.length) 0 f.p.d5.length
variable{b:Int}
theorem nN{f:Int->Bool->Option (Bv Bool Bool)}(p:Int->Bool)(h:∀i,0<=i->i<b->f i false=some (if p i=true then .brk true else .next false)):kq f 0 b false=some (.inl (pc p 0 b)):=by
 have key:∀(m:Nat)(i:Int),0<=i->i+m=b->Aad f m i false=some (.inl (pc p i b)):=by
  intro m
  induction m with
  |zero=>
   intro i d hi;have:pc p i b=false:=by rw[Bk];intro j q r;omega
   rw [this];rfl
  |succ m v=>
   intro i d hi;rw[Ft,h i d (by omega)];by_cases o:p i=true
   .have:pc p i b=true:=by rw[EE];exact⟨i,Int.le_refl _,by omega,o⟩
    rw [a6 o,this]
   .have e:pc p i b=pc p (i+1) b:=by
     rw [Bool.eq_iff_iff,EE,EE]
     grind
    grind
 unfold kq;by_cases u:0<=b
 .grind
 .have:pc p 0 b=false:=by rw[Bk];intro j q r;omega
  rw [this,show(b-0).toNat=0 by omega];rfl
theorem fB(hf:Lz f)(q:0<f.ei.length)(j:f.ei.length<=1000):B9 f=some (NW f):=by
 unfold B9 NW;rw[BS (fun i=>decide (max (AA f.p.d5 i).o4 (AA f.p.d5 i).To=(f.ei.length:Int)-1)&&!pc (fun k=>KG f i k) 0 f.g.d5.length) false]
 .generalize pc (fun i=>decide (max (AA f.p.d5 i).o4 (AA f.p.d5 i).To=(f.ei.length:Int)-1)&&!pc (fun k=>KG f i k) 0 f.g.d5.length) 0 f.p.d5.length=b;cases b<;>rfl
 .intro i d e _;rw[AE d e,bs,Ar (n:=(f.ei.length:Int)-1) (by omega) (by omega)];by_cases h:max (AA f.p.d5 i).o4 (AA f.p.d5 i).To=(f.ei.length:Int)-1
  .rw[ae (by simp[h]),nN (fun k=>KG f i k) (fun k m o=>by
    rw [iE hf d e m o (by omega) (by omega),bs,II])]
   generalize pc (fun k=>KG f i k) 0 f.g.d5.length=b;rw[decide_eq_true h];cases b<;>rfl
  grind
def Av(n:Nat):Fp:=(List.range n).map Int.ofNat
theorem UJ(n:Nat):Av (n+1)=Av n++[(n:Int)]:=by grind[Av,List.range_succ]
def SR(f:AL)(k:Int):Bool:=(decide (AA f.gt.d3 f.ei.length<0)||decide (AA f.gt.d3 f.ei.length=k))&&AA (AA f.is (AA f.p.d3 f.ei.length)) (AA f.g.d3 k)&&!(f.ej&&f.ei.any fun x=>decide (k=x))
def SQ(f:AL)(k:Int):Bool:=KG f f.ek.length k&&!(f.ej&&f.ek.any fun x=>decide (k=x))
def EU:Nat->AL->List d6
 |0,f=>[⟨f.ei,f.ek⟩]|n+1,f=>(Av f.g.d5.length).flatMap fun k=>if SQ f k=true then EU n {f with ek:=f.ek++[k]}else[]
def JL:Nat->AL->List d6
 |0,f=>EU f.p.d5.length f|n+1,f=>(Av f.g.d3.length).flatMap fun k=>if(SR f k&&NW {f with ei:=f.ei++[k]})=true then JL n {f with ei:=f.ei++[k]}else[]
theorem Yq(a b:List α)(m:Nat):((a.take m)++b).take m=(a++b).take m:=by
 by_cases h:a.length<=m
 .rw[List.take_of_length_le h]
 grind
end Go.Sf.Sc
namespace Go.Sf.Sc
open Go Go.Sf
def R4(f:AL)(o:List d6):AL:={f with out:=o}
variable{f:AL}
theorem Lz.out(h:Lz f)(o:List d6):Lz (R4 f o):=⟨h.pn,h.pe,h.ends,h.kinds,h.small⟩
theorem PM:∀(n:Nat)(f:AL)(o:List d6),EU n (R4 f o)=EU n f
 |0,_,_=>rfl|n+1,f,o=>by
  rw [EU,EU];refine congrArg (fun F=>(Av f.g.d5.length).flatMap F) (funext fun k=>?_);have:=PM n {f with ek:=f.ek++[k]} o;show(if SQ f k=true then EU n (R4 {f with ek:=f.ek++[k]} o)else[])=_;rw[this]
theorem ZT:∀(n:Nat)(f:AL)(o:List d6),JL n (R4 f o)=JL n f
 |0,f,o=>PM _ f o|n+1,f,o=>by
  rw [JL,JL];refine congrArg (fun F=>(Av f.g.d3.length).flatMap F) (funext fun k=>?_);have:=ZT n {f with ei:=f.ei++[k]} o;show(if(SR f k&&NW {f with ei:=f.ei++[k]})=true then JL n (R4 {f with ei:=f.ei++[k]} o)else[])=_;rw[this]
def A9(f:AL)(l:List d6):AL:=R4 f ((f.out++l).take f.up.toNat)
structure XR(f:AL):Prop where
 m0:0<=f.up
 m1:f.up<=10000
 out:(f.out.length:Int)<=f.up
theorem KL(h:XR f):A9 f []=f:=by
 unfold A9;rw[List.append_nil,List.take_of_length_le (by have:=h.out;have:=h.m0;omega)];rfl
theorem YG(h:(f.out.length:Int)=f.up)(l:List d6):A9 f l=f:=by
 unfold A9;rw[List.take_append_of_le_length (by omega),List.take_of_length_le (by omega)];rfl
theorem YI(h:XR f)(l:List d6):XR (A9 f l):=by
 refine ⟨h.m0,h.m1,?_⟩;have:=h.m0;show(((f.out++l).take f.up.toNat).length:Int)<=f.up
 grind
theorem YH(f:AL)(a b:List d6):A9 (A9 f a) b=A9 f (a++b):=by
 show R4 f ((((f.out++a).take f.up.toNat)++b).take f.up.toNat)=_;rw[Yq,ci];rfl
theorem WN:∀(n:Nat)(f:AL),Lz f->XR f->f.ei.length=f.p.d3.length->f.ek.length+n=f.p.d5.length->∀m,n+1<=m->Az m f=some (A9 f (EU n f))
 |n,f,hf,u,M,he,m,y=>by
  obtain ⟨m,rfl⟩:∃k,m=k+1:=⟨m-1,by omega⟩;have N:=hf.small;have O:=u.m0;have P:=u.m1;have Q:=u.out;rw[Az];by_cases e:(f.out.length:Int)=f.up
  .grind[YG]
  rw [ae (by simpa using e),ae (by simp;omega)]
  match n,he,y with
  |0,he,y=>
   rw [ae (by simp;omega)];unfold slices_Clone_int;rw[A1 (by unfold Ah;omega),bs,A1 (by unfold Ah;omega),bs,Ai (by simp;unfold Ah;omega),bs,bs];unfold A9;rw[List.take_of_length_le (by simp[EU];omega)];rfl
  |n+1,he,y=>
   rw [a6 (by simp;omega)];have F:∀k,SQ f k=true->Lz {f with ek:=f.ek++[k]}:=fun k _=>⟨hf.pn,hf.pe,hf.ends,hf.kinds,hf.small⟩;rw[Bt (a:=0) (s:=f) (fun i=>A9 f ((Av i.toNat).flatMap fun k=>if SQ f k=true then EU n {f with ek:=f.ek++[k]}else[])) (by omega) (KL u)]
   .grind[Int.toNat_natCast,EU]
   .intro i C D;have E:Av (i+1).toNat=Av i.toNat++[i]:=by
     rw [show(i+1).toNat=i.toNat+1 by omega,UJ];rw[show((i.toNat:Nat):Int)=i by omega]
    have G:∀l,A9 f ((Av (i+1).toNat).flatMap l)=A9 (A9 f ((Av i.toNat).flatMap l)) (l i):=by
     intro l;rw[YH,E,List.flatMap_append];simp
    rw [G];generalize (Av i.toNat).flatMap (fun k=>if SQ f k=true then EU n {f with ek:=f.ek++[k]}else[])=L;have o:=YI u L;have v:Lz (A9 f L):=hf.out _;have z:=hf.ends _ (AM (l:=f.p.d5) (i:=(f.ek.length:Int)) (by omega) (by omega));rw[iE v (i:=(f.ek.length:Int)) (k:=i) (by omega) (by show _<(f.p.d5.length:Int);omega) C (by exact D) (by show(AA f.p.d5 f.ek.length).o4<(f.ei.length:Int);omega) (by show(AA f.p.d5 f.ek.length).To<(f.ei.length:Int);omega),bs];have H:slices_Contains_int (A9 f L).ek i=some (f.ek.any fun x=>decide (i=x)):=LB f.ek i;rw[H];have q:KG (A9 f L) f.ek.length i=KG f f.ek.length i:=rfl;have key:((Ak (A9 f L).ek [i]).bind fun h=>
      (Az m (AL.mk (A9 f L).p (A9 f L).g (A9 f L).is (A9 f L).gt (A9 f L).ej (A9 f L).up (A9 f L).ei h (A9 f L).out)).bind fun d=>
      (slc d.ek 0 (f.ek.length:Int)).bind fun j=>
      some (AL.mk d.p d.g d.is d.gt d.ej d.up d.ei j d.out))=some (A9 (A9 f L) (EU n {f with ek:=f.ek++[i]})):=by
     have I:Ak (A9 f L).ek [i]=some (f.ek++[i]):=Ai (by show f.ek.length+1<=Ah;unfold Ah;omega);have B:=WN n {A9 f L with ek:=f.ek++[i]} ⟨hf.pn,hf.pe,hf.ends,hf.kinds,hf.small⟩ ⟨o.m0,o.m1,o.out⟩ M (by show(f.ek++[i]).length+n=f.p.d5.length;simp;omega) m (by omega);have J:EU n {A9 f L with ek:=f.ek++[i]}=EU n {f with ek:=f.ek++[i]}:=PM n {f with ek:=f.ek++[i]} _;rw[J]at B;rw[I,bs];show(Az m {A9 f L with ek:=f.ek++[i]}).bind _=_;rw[B,bs];have K:slc (A9 {A9 f L with ek:=f.ek++[i]} (EU n {f with ek:=f.ek++[i]})).ek 0 (f.ek.length:Int)=some f.ek:=by
      show slc (f.ek++[i]) 0 (f.ek.length:Int)=_;rw[GU (by omega) (by rw[bk];omega),Int.toNat_natCast,List.take_left]
     rw [K];rfl
    rw [key,q];have w:SQ f i=(KG f f.ek.length i&&!(f.ej&&f.ek.any fun x=>decide (i=x))):=rfl;have r:(A9 f L).ej=f.ej:=rfl;rw[w,r];generalize R:EU n {f with ek:=f.ek++[i]}=A;cases KG f f.ek.length i
    .simp only[Bool.false_and,Bool.false_eq_true,if_false,KL o];rfl
    .cases f.ej
     .rfl
     .cases f.ek.any fun x=>decide (i=x)
      .rfl
      .simp only[Bool.and_self,Bool.not_true,Bool.and_false,Bool.false_eq_true,if_false,KL o];rfl
end Go.Sf.Sc
namespace Go.Sf.Sc
open Go Go.Sf
theorem WQ:∀(n:Nat)(f:AL),Lz f->XR f->f.ek=[]->f.ei.length+n=f.p.d3.length->∀m,n+f.p.d5.length+1<=m->Az m f=some (A9 f (JL n f))
 |0,f,hf,u,he,R,m,S=>by
  grind [JL,WN]
 |n+1,f,hf,u,he,R,m,S=>by
  obtain ⟨m,rfl⟩:∃k,m=k+1:=⟨m-1,by omega⟩;have T:=hf.small;have U:=u.m0;have V:=u.m1;have W:=u.out;rw[Az];by_cases j:(f.out.length:Int)=f.up
  .grind[YG]
  rw [ae (by simpa using j),a6 (by simp;omega)];rw[Bt (a:=0) (s:=f) (fun i=>A9 f ((Av i.toNat).flatMap fun k=>if(SR f k&&NW {f with ei:=f.ei++[k]})=true then JL n {f with ei:=f.ei++[k]}else[])) (by omega) (KL u)]
  .grind[Int.toNat_natCast,JL]
  .intro i B C;have F:Av (i+1).toNat=Av i.toNat++[i]:=by
    rw [show(i+1).toNat=i.toNat+1 by omega,UJ];rw[show((i.toNat:Nat):Int)=i by omega]
   have G:∀l,A9 f ((Av (i+1).toNat).flatMap l)=A9 (A9 f ((Av i.toNat).flatMap l)) (l i):=by
    intro l;rw[YH,F,List.flatMap_append];simp
   rw [G];generalize (Av i.toNat).flatMap (fun k=>if(SR f k&&NW {f with ei:=f.ei++[k]})=true then JL n {f with ei:=f.ei++[k]}else[])=L;have o:=YI u L;have q:(f.ei.length:Int)<(f.p.d3.length:Int):=by omega
   have r:=hf.kinds _ (AM (l:=f.p.d3) (i:=(f.ei.length:Int)) (by omega) q);have w:=r.2.2 _ (AM B C);have key:((Ak (A9 f L).ei [i]).bind fun e=>
     (B9 (AL.mk (A9 f L).p (A9 f L).g (A9 f L).is (A9 f L).gt (A9 f L).ej (A9 f L).up e (A9 f L).ek (A9 f L).out)).bind fun v=>
     if v=true then
     (Az m (AL.mk (A9 f L).p (A9 f L).g (A9 f L).is (A9 f L).gt (A9 f L).ej (A9 f L).up e (A9 f L).ek (A9 f L).out)).bind fun d=>
     (slc d.ei 0 (f.ei.length:Int)).bind fun h=>
     some (AL.mk d.p d.g d.is d.gt d.ej d.up h d.ek d.out)
     else
     (slc e 0 (f.ei.length:Int)).bind fun h=>
     some (AL.mk (A9 f L).p (A9 f L).g (A9 f L).is (A9 f L).gt (A9 f L).ej (A9 f L).up h (A9 f L).ek (A9 f L).out))=some (A9 (A9 f L) (if NW {f with ei:=f.ei++[i]}=true then JL n {f with ei:=f.ei++[i]}else[])):=by
    have H:Ak (A9 f L).ei [i]=some (f.ei++[i]):=Ai (by show f.ei.length+1<=Ah;unfold Ah;omega);have D:slc (f.ei++[i]) 0 (f.ei.length:Int)=some f.ei:=by
     rw [GU (by omega) (by rw[bk];omega),Int.toNat_natCast,List.take_left]
    have I:B9 {A9 f L with ei:=f.ei++[i]}=some (NW {f with ei:=f.ei++[i]}):=fB (f:={A9 f L with ei:=f.ei++[i]}) ⟨hf.pn,hf.pe,hf.ends,hf.kinds,hf.small⟩ (by show 0<(f.ei++[i]).length;simp) (by show(f.ei++[i]).length<=1000;rw[bk];simp;omega);have E:=WQ n {A9 f L with ei:=f.ei++[i]} ⟨hf.pn,hf.pe,hf.ends,hf.kinds,hf.small⟩ ⟨o.m0,o.m1,o.out⟩ he (by show(f.ei++[i]).length+n=f.p.d3.length;rw[bk];simp;omega) m (by show n+f.p.d5.length+1<=m;omega);have J:JL n {A9 f L with ei:=f.ei++[i]}=JL n {f with ei:=f.ei++[i]}:=ZT n {f with ei:=f.ei++[i]} _;rw[J]at E;rw[H,bs];show(B9 {A9 f L with ei:=f.ei++[i]}).bind _=_;rw[I,bs];cases NW {f with ei:=f.ei++[i]}
    .rw[ae (by decide),ae (by decide),D,KL o];rfl
    .rw[a6 rfl,a6 rfl];show(Az m {A9 f L with ei:=f.ei++[i]}).bind _=_;rw[E,bs];have K:slc (A9 {A9 f L with ei:=f.ei++[i]} (JL n {f with ei:=f.ei++[i]})).ei 0 (f.ei.length:Int)=some f.ei:=D;rw[K];rfl
   have M:HH (A9 f L).gt.d3 (f.ei.length:Int)=some (AA f.gt.d3 f.ei.length):=Zz (by omega) (by show(f.ei.length:Int)<(f.gt.d3.length:Int);rw[hf.pn];exact q);have N:idx (A9 f L).p.d3 (f.ei.length:Int)=some (AA f.p.d3 f.ei.length):=AE (by omega) q;have hi:idx (A9 f L).is (AA f.p.d3 f.ei.length)=some (AA f.is (AA f.p.d3 f.ei.length)):=AE r.1 r.2.1;have O:idx (AA f.is (AA f.p.d3 f.ei.length)) (AA f.g.d3 i)=some (AA (AA f.is (AA f.p.d3 f.ei.length)) (AA f.g.d3 i)):=AE w.1 w.2;have P:slices_Contains_int (A9 f L).ei i=some (f.ei.any fun x=>decide (i=x)):=LB f.ei i;have y:(A9 f L).ej=f.ej:=rfl;have z:SR f i=((decide (AA f.gt.d3 f.ei.length<0)||decide (AA f.gt.d3 f.ei.length=i))&&AA (AA f.is (AA f.p.d3 f.ei.length)) (AA f.g.d3 i)&&!(f.ej&&f.ei.any fun x=>decide (i=x))):=rfl;rw[AE B C,bs,M,bs,N,bs,hi,bs,O,bs,P,key,y,z];generalize AA (AA f.is (AA f.p.d3 f.ei.length)) (AA f.g.d3 i)=c2;have Q:(decide (0<=AA f.gt.d3 f.ei.length)&&!decide (AA f.gt.d3 f.ei.length=i))=!(decide (AA f.gt.d3 f.ei.length<0)||decide (AA f.gt.d3 f.ei.length=i)):=by
    rw [Bool.not_or];congr 1;rw[<-decide_not];exact decide_eq_decide.2 (by omega)
   rw [Q];generalize (decide (AA f.gt.d3 f.ei.length<0)||decide (AA f.gt.d3 f.ei.length=i))=c1;generalize NW {f with ei:=f.ei++[i]}=c5;generalize JL n {f with ei:=f.ei++[i]}=A;cases c1
   .simp only[Bool.false_and,Bool.false_eq_true,if_false,KL o];rfl
   .cases c2
    .simp only[Bool.and_false,Bool.false_and,Bool.false_eq_true,if_false,KL o];rfl
    .cases f.ej
     .rfl
     .cases f.ei.any fun x=>decide (i=x)
      .rfl
      .simp only[Bool.and_self,Bool.not_true,Bool.and_false,Bool.false_and,Bool.false_eq_true,if_false,KL o];rfl
variable{f:AL}
theorem qw(hf:Lz f)(d:XR f)(he:f.ek=[])(e:f.ei=[]):Et f=some (A9 f (JL f.p.d3.length f)):=
 EZ (f.p.d3.length+f.p.d5.length+1) fun m h=>WQ _ f hf d he (by rw[e];simp) m h
end Go.Sf.Sc
namespace Go.Sf.Sc
open Go Go.Sf
theorem BA(n:Nat):(Av n).length=n:=by simp[Av]
variable{n:Nat}{i:Int}
theorem Es:i∈Av n↔0<=i/\i<n:=by
 unfold Av;rw[List.mem_map];constructor
 .grind
 .rintro⟨d,e⟩;exact⟨i.toNat,List.mem_range.2 (by omega),by show((i.toNat:Nat):Int)=i;omega⟩
variable{α:Type}
theorem Hi[Inhabited α](F:Int->α)(d:0<=i)(e:i<n):AA ((Av n).map F) i=F i:=by
 unfold AA Av
 grind
theorem Fy(d:0<=i):Av (i+1).toNat=Av i.toNat++[i]:=by
 rw [show(i+1).toNat=i.toNat+1 by omega,UJ,show((i.toNat:Nat):Int)=i by omega]
def M1(t:AC)(a:Int):a5:=(Av t.d3.length).map fun k=>JA t k a
def JZ(t:AC):List a5:=(Av t.d3.length).map (M1 t)
variable{t:AC}{a:Int}
theorem ny(hf:An t)(h:GG t)(hv:(A2 t).2=0)(a0:0<=a)(a1:a<t.d3.length):Gv t a=some ((Av t.d3.length).filter fun i=>JA t i a,0):=by
 have e:=h.ei;unfold Gv;have d:J6 t a=true:=by simp[J6,a0,a1]
 rw [Xk hf,bs,ae (by simp[hv,d])];rw[Bt (fun i=>(Av i.toNat).filter fun i=>JA t i a) (by omega) (by rfl),bs,Int.toNat_natCast]
 grind [kR,Fy,Av,JA,List.length_filter_le,BA,Ai,Ah]
variable{l:Fp}
theorem o8(r:∀x∈l,0<=x/\x<n):tc (fun(u:Int)(s2:a5)=>
  (idx l u).bind fun d=>
  (idx s2 d).bind fun _=>
  some (BP s2 d true)) 0 (l.length:Int) (List.replicate n false)=some ((Av n).map fun k=>l.any fun x=>decide (x=k)):=by
 rw [Bt (fun j=>(Av n).map fun k=>(l.take j.toNat).any fun x=>decide (x=k)) (by omega) (by
  refine List.ext_getElem (by simp[BA]) (fun j m y=>by simp))]
 .rw[Int.toNat_natCast,List.take_length]
 .intro j o m;have q:=r _ (AM o m);rw[AE o m,bs,AE q.1 (by rw[ca,BA];exact q.2),bs,Bx o m];congr 1;unfold BP;refine List.ext_getElem (by simp) (fun k z v=>?_);have w:k<n:=by simpa[BA]using v
  rw [List.getElem_set];have e:(Av n)[k]'(by rw[BA];exact w)=(k:Int):=by simp[Av]
  simp only[List.getElem_map,e,List.any_append,List.any_cons,List.any_nil,Bool.or_false];by_cases h:(AA l j).toNat=k
  .rw[a6 h,decide_eq_true (show AA l j=(k:Int)by omega),Bool.or_true]
  .rw[ae h,decide_eq_false (show¬AA l j=(k:Int)by omega),Bool.or_false]
theorem mW(hf:An t)(h:GG t)(hv:(A2 t).2=0):FL t=some (JZ t):=by
 have w:=h.ei;unfold FL;rw[Bt (fun i=>(Av i.toNat).map (M1 t)) (by omega) (by rfl),bs,Int.toNat_natCast]
 .rfl
 .intro i o r;have v:Is (t.d3.length:Int) false=some (List.replicate t.d3.length false):=by
   unfold Is;rw[a6 (by omega),Int.toNat_natCast]
  rw [v,bs,ny hf h hv o r,bs];have:=o8 (n:=t.d3.length) (l:=(Av t.d3.length).filter fun k=>JA t k i) (fun x j=>Es.1 (List.mem_filter.1 j).1);show(tc (fun(q:Int)(s2:a5)=>
   (idx ((Av t.d3.length).filter fun k=>JA t k i) q).bind fun d=>
   (idx s2 d).bind fun _=>
   some (BP s2 d true)) 0 (((Av t.d3.length).filter fun k=>JA t k i).length:Int) (List.replicate t.d3.length false)).bind _=_
  rw [this,bs,Ai (by rw[ca,BA];simp;unfold Ah;omega),bs,Fy o,List.map_append];congr 2;simp only[List.map_cons,List.map_nil];congr 1;unfold M1;refine List.map_congr_left (fun k m=>?_);have m:=Es.1 m;rw[Bool.eq_iff_iff,List.any_eq_true];constructor
  .rintro⟨x,j,e⟩;rw[zzX]at e;subst e;exact(List.mem_filter.1 j).2
  .intro u;exact⟨k,List.mem_filter.2 ⟨Es.2 m,u⟩,by simp⟩
end Go.Sf.Sc
namespace Go.Sf.Sc
open Go Go.Sf
def GQ:Nat->AL->List d6
 |0,f=>EU f.p.d5.length f|n+1,f=>(Av f.g.d3.length).flatMap fun k=>if SR f k=true then GQ n {f with ei:=f.ei++[k]}else[]
def dt(f:AL)(i:Int):Prop:=0<=i/\i<f.p.d5.length/\0<=(AA f.p.d5 i).o4/\(AA f.p.d5 i).o4<f.ei.length/\0<=(AA f.p.d5 i).To/\(AA f.p.d5 i).To<f.ei.length/\∀k:Int,0<=k->k<f.g.d5.length->KG f i k=false
theorem Vs(f:AL)(i k:Int):KG f i k=((decide (AA f.gt.d5 i<0)||decide (AA f.gt.d5 i=k))&&decide (AA f.g.d5 k=⟨(AA f.p.d5 i).og,AA f.ei (AA f.p.d5 i).o4,AA f.ei (AA f.p.d5 i).To⟩)):=rfl
variable{α:Type}{i:Int}
theorem ZX[Inhabited α](l:List α)(x:α)(d:0<=i)(e:i<l.length):AA (l++[x]) i=AA l i:=by
 unfold AA
 grind
theorem gL:∀(n:Nat)(f:AL)(i:Int),dt f i->(f.ek.length:Int)<=i->i<f.ek.length+n->EU n f=[]
 |0,f,i,_,e,h=>by omega|n+1,f,i,hd,e,h=>by
  rw [EU];refine List.flatMap_eq_nil_iff.2 (fun k d=>?_);have d:=Es.1 d;by_cases he:(f.ek.length:Int)=i
  .have:SQ f k=false:=by
    unfold SQ;rw[he,hd.2.2.2.2.2.2 k d.1 d.2];rfl
   grind
  .split
   .exact gL n {f with ek:=f.ek++[k]} i hd (by show((f.ek++[k]).length:Int)<=i;rw[bk];simp;omega) (by show i<((f.ek++[k]).length:Int)+n;rw[bk];simp;omega)
   .rfl
theorem Zg:∀(n:Nat)(f:AL)(i:Int),f.ek=[]->dt f i->GQ n f=[]
 |0,f,i,he,hd=>by
  rw [GQ];exact gL _ f i hd (by rw[he];simpa using hd.1) (by rw[he];simpa using hd.2.1)
 |n+1,f,i,he,hd=>by
  rw [GQ];refine List.flatMap_eq_nil_iff.2 (fun k o=>?_);split
  .refine Zg n {f with ei:=f.ei++[k]} i he ?_;obtain⟨d,e,h,v,m,w,x⟩:=hd;have u:((f.ei++[k]).length:Int)=f.ei.length+1:=by rw[bk];simp
   refine ⟨d,e,h,?_,m,?_,fun j q r=>?_⟩
   .grind
   .grind
   grind [Vs,AA,ZX]
  .rfl
variable{f:AL}
theorem kT(hf:Lz f)(h:NW f=false):∃i,dt f i:=by
 unfold NW at h;rw[Bool.not_eq_false',EE]at h;obtain⟨i,d,e,h⟩:=h;rw[pq,zzX,Bool.not_eq_true',Bk]at h;have he:=hf.ends _ (AM d e);exact⟨i,d,e,he.1,by omega,he.2.2.1,by omega,h.2⟩
theorem gD:∀(n:Nat)(f:AL),Lz f->f.ek=[]->JL n f=GQ n f
 |0,_,_,_=>rfl|n+1,f,hf,he=>by
  rw [JL,GQ];refine congrArg (fun F=>(Av f.g.d3.length).flatMap F) (funext fun k=>?_);have d:Lz {f with ei:=f.ei++[k]}:=⟨hf.pn,hf.pe,hf.ends,hf.kinds,hf.small⟩;cases SR f k
  .rfl
  .cases e:NW {f with ei:=f.ei++[k]}
   .obtain⟨i,hd⟩:=kT d e
    grind [Zg]
   .simp only[Bool.and_self,if_true];exact gD n _ d he
end Go.Sf.Sc
namespace Go.Sf.Sc
open Go Go.Sf
variable{a b:Int}
theorem Pv{σ ρ:Type}{f:σ×Int->Option (Bv (σ×Int) ρ)}(g:Int->σ){s:σ}(d:a<=b)(e:s=g a)(h:∀i,a<=i->i<b->f (g i,i)=some (.next (g (i+1),i+1)))(j:f (g b,b)=some (.brk (g b,b))):Ep f (s,a)=some (.inl (g b,b)):=by
 subst e;have key:∀(n:Nat)(i:Int),a<=i->i+n=b->Lu f (g i,i) (.inl (g b,b)):=by
  intro n
  induction n with
  |zero=>
   intro i _ hi;have:i=b:=by omega
   subst this;exact .brk j
  |succ n o=>
   intro i m q;exact .next (h i m (by omega)) (o (i+1) (by omega) (by omega))
 exact (key (b-a).toNat a (Int.le_refl _) (by omega)).eq
def Hn(s:Ag)(ei ek:Fp):AL:=⟨s.p,s.g,JZ s.t,s.gt,s.ej,s.up+1,ei,ek,s.Aaz⟩
def CM(s:Ag)(l:List d6):Ag:={s with Aaz:=(s.Aaz++l).take (s.up+1).toNat}
structure V6(s:Ag):Prop where
 m0:0<=s.up
 m1:s.up<=9999
 out:(s.Aaz.length:Int)<=s.up+1
variable{s:Ag}
theorem OS(h:V6 s):CM s []=s:=by
 unfold CM;rw[List.append_nil,List.take_of_length_le (by have:=h.out;have:=h.m0;omega)]
theorem XG(h:(s.Aaz.length:Int)=s.up+1)(l:List d6):CM s l=s:=by
 unfold CM;rw[List.take_append_of_le_length (by omega),List.take_of_length_le (by omega)]
theorem XH(h:V6 s)(l:List d6):V6 (CM s l):=by
 refine ⟨h.m0,h.m1,?_⟩;have:=h.m0;show(((s.Aaz++l).take (s.up+1).toNat).length:Int)<=s.up+1
 grind
theorem VM(s:Ag)(a b:List d6):CM (CM s a) b=CM s (a++b):=by
 show ({s with Aaz:=(((s.Aaz++a).take (s.up+1).toNat)++b).take (s.up+1).toNat}:Ag)=_;rw[Yq,ci];rfl
variable{l:Fp}
theorem ia(s:Ag)(j:l.length<=1000)(n:Int):Cp s l n=some (s.ej&&l.any fun x=>decide (n=x)):=by
 unfold Cp;cases s.ej
 .rw[Ug (fun _=>false) true (a:=0) (b:=0) (Int.le_refl _) (fun i h d=>by omega) (by rw[ae (by simp)])];rfl
 .rw[Ug (fun i=>decide (AA l i=n)) true (a:=0) (b:=l.length) (by omega) (fun i h d=>by
   rw [a6 (by simp;exact d),AE h d,bs,Ar (by omega) (by omega),II]) (by rw[ae (by simp)])]
  have e:pc (fun i=>decide (AA l i=n)) 0 l.length=l.any fun x=>decide (n=x):=by
   rw [Bool.eq_iff_iff,EE,List.any_eq_true]
   grind [AM,Be]
  rw [e,Bool.true_and];cases l.any fun x=>decide (n=x)<;>rfl
theorem Yg:∀(n:Nat)(s:Ag)(ei l:Fp),Lz (Hn s [] [])->V6 s->ei.length=s.p.d3.length->l.length+n=s.p.d5.length->∀m,n+1<=m->CE m s ei l=some (CM s (EU n (Hn s ei l)))
 |n,s,ei,l,hf,r,z,he,m,B=>by
  obtain ⟨m,rfl⟩:∃k,m=k+1:=⟨m-1,by omega⟩;have u:=hf.small;have R:s.p.d3.length<=1000:=u.1;have s2:s.p.d5.length<=1000:=u.2.1;have S:s.g.d3.length<=1000:=u.2.2.1;have T:s.g.d5.length<=1000:=u.2.2.2;have U:=r.m0;have V:=r.m1;have W:=r.out;rw[CE];by_cases v:(s.Aaz.length:Int)=s.up+1
  .grind[XG]
  rw [ae (by simp;omega)]
  match n,he,B with
  |0,he,B=>
   rw [a6 (by simp;omega),A1 (by unfold Ah;omega),bs,A1 (by unfold Ah;omega),bs,Ai (by simp;unfold Ah;omega),bs];unfold CM;rw[List.take_of_length_le (by simp[EU];omega)];rfl
  |n+1,he,B=>
   have e:(0:Int)<=l.length:=by omega
   have q:(l.length:Int)<s.p.d5.length:=by omega
   have d:=hf.ends _ (AM (l:=s.p.d5) e q);have H:(AA s.p.d5 l.length).o4<ei.length:=by rw[z];exact d.2.1
   have I:(AA s.p.d5 l.length).To<ei.length:=by rw[z];exact d.2.2.2
   have w:(l.length:Int)<s.gt.d5.length:=by
    have:s.gt.d5.length=s.p.d5.length:=hf.pe;omega
   rw [ae (by simp;omega),AE e q,bs];rw[Pv (fun i=>CM s ((Av i.toNat).flatMap fun k=>if SQ (Hn s ei l) k=true then EU n (Hn s ei (l++[k]))else[])) (a:=0) (b:=(s.g.d5.length:Int)) (s:=s) (by omega) (OS r).symm (fun i C D=>by
    have J:∀F,CM s ((Av (i+1).toNat).flatMap F)=CM (CM s ((Av i.toNat).flatMap F)) (F i):=by
     intro F;rw[VM,Fy C,List.flatMap_append];simp
    rw [J];generalize (Av i.toNat).flatMap (fun k=>if SQ (Hn s ei l) k=true then EU n (Hn s ei (l++[k]))else[])=L;have E:=XH r L;rw[a6 (by rw[zzX];exact D)];have K:idx (CM s L).g.d5 i=some (AA s.g.d5 i):=AE C D;have M:idx (CM s L).gt.d5 (l.length:Int)=some (AA s.gt.d5 l.length):=AE e w;have N:Cp (CM s L) l i=some (s.ej&&l.any fun x=>decide (i=x)):=ia (CM s L) (by omega) i;have key:((Ak [] l).bind fun h=>
      (Ak h [i]).bind fun j=>
      (CE m (CM s L) ei j).bind fun o=>
      some (.next (o,Aj (i+1)):Bv (Ag×Int) Ag))=some (.next (CM (CM s L) (EU n (Hn s ei (l++[i]))),i+1)):=by
     have G:=Yg n (CM s L) ei (l++[i]) ⟨hf.pn,hf.pe,hf.ends,hf.kinds,hf.small⟩ E z (by show(l++[i]).length+n=s.p.d5.length;rw[bk];simp;omega) m (by omega);have O:EU n (Hn (CM s L) ei (l++[i]))=EU n (Hn s ei (l++[i])):=PM n (Hn s ei (l++[i])) _;rw[O]at G;rw[A1 (by unfold Ah;omega),bs,Ai (by simp;unfold Ah;omega),bs,G,bs,Ar (by omega) (by omega)]
    rw [K,bs,M,bs,N,key];simp only[bs];rw[AE d.1 H,AE d.2.2.1 I,Ar (n:=i+1) (by omega) (by omega)];simp only[bs];have y:SQ (Hn s ei l) i=(((decide (AA s.gt.d5 l.length<0)||decide (AA s.gt.d5 l.length=i))&&decide (AA s.g.d5 i=⟨(AA s.p.d5 l.length).og,AA ei (AA s.p.d5 l.length).o4,AA ei (AA s.p.d5 l.length).To⟩))&&!(s.ej&&l.any fun x=>decide (i=x))):=rfl;have P:decide (AA s.g.d5 i=⟨(AA s.p.d5 l.length).og,AA ei (AA s.p.d5 l.length).o4,AA ei (AA s.p.d5 l.length).To⟩)=(decide ((AA s.p.d5 l.length).og=(AA s.g.d5 i).og)&&decide ((AA s.g.d5 i).o4=AA ei (AA s.p.d5 l.length).o4)&&decide ((AA s.g.d5 i).To=AA ei (AA s.p.d5 l.length).To)):=by
     rw [Bool.eq_iff_iff];simp only[pq,zzX];generalize AA s.g.d5 i=x;obtain⟨x1,X,Y⟩:=x;simp only[Bo.mk.injEq];constructor
     .rintro⟨a,b,c⟩;exact⟨⟨a.symm,b⟩,c⟩
     .rintro⟨⟨a,b⟩,c⟩;exact⟨a.symm,b,c⟩
    have Q:(decide (AA s.gt.d5 l.length<0)||decide (AA s.gt.d5 l.length=i))=!(decide (0<=AA s.gt.d5 l.length)&&!decide (AA s.gt.d5 l.length=i)):=by
     rw [Bool.not_and,Bool.not_not];congr 1;rw[<-decide_not];exact decide_eq_decide.2 (by omega)
    rw [y,P,Q];generalize EU n (Hn s ei (l++[i]))=A;generalize decide (0<=AA s.gt.d5 l.length)=c1;generalize decide (AA s.gt.d5 l.length=i)=c2;generalize decide ((AA s.p.d5 l.length).og=(AA s.g.d5 i).og)=c3;generalize decide ((AA s.g.d5 i).o4=AA ei (AA s.p.d5 l.length).o4)=c4;generalize decide ((AA s.g.d5 i).To=AA ei (AA s.p.d5 l.length).To)=c5;generalize (s.ej&&l.any fun x=>decide (i=x))=c6;cases c1<;>cases c2<;>cases c3<;>cases c4<;>cases c5<;>cases c6<;>first|rfl|(simp only[Bool.and_self,Bool.and_true,Bool.true_and,Bool.and_false,Bool.false_and,Bool.not_true,Bool.not_false,Bool.or_true,Bool.or_false,Bool.false_or,Bool.true_or,if_true,Bool.false_eq_true,if_false,OS E,bs];try rfl)) (by rw[ae (by simp[CM])]),Br,Int.toNat_natCast,EU]
   rfl
end Go.Sf.Sc
namespace Go.Sf.Sc
open Go Go.Sf
def SA(s:Ag)(l:Fp)(i k:Int):Bool:=decide (AA s.g.d5 k=⟨(AA s.p.d5 i).og,AA l (AA s.p.d5 i).o4,AA l (AA s.p.d5 i).To⟩)
def Rf(s:Ag)(l:Fp)(i:Int):Bool:=(decide ((AA s.p.d5 i).o4<l.length)&&decide ((AA s.p.d5 i).To<l.length))&&!(Av s.g.d5.length).any (SA s l i)
variable{s:Ag}{l:Fp}
theorem rQ(hf:Lz (Hn s [] [])):FE s l=some (!pc (Rf s l) 0 s.p.d5.length):=by
 unfold FE;rw[BS (Rf s l) false]
 .cases pc (Rf s l) 0 s.p.d5.length<;>rfl
 .intro i d e _;have he:=hf.ends _ (AM (l:=s.p.d5) d e);rw[AE d e,bs];unfold Rf;by_cases j:(AA s.p.d5 i).o4<l.length
  .by_cases m:(AA s.p.d5 i).To<l.length
   .rw[ae (by simp;omega),Bt (fun k=>(Av k.toNat).any (SA s l i)) (by omega) (by rfl),bs,Int.toNat_natCast,decide_eq_true j,decide_eq_true m]
    .grind
    .intro k h o;rw[AE h o,bs,Fy h,List.any_append];have q:SA s l i k=(decide ((AA s.p.d5 i).og=(AA s.g.d5 k).og)&&decide ((AA s.g.d5 k).o4=AA l (AA s.p.d5 i).o4)&&decide ((AA s.g.d5 k).To=AA l (AA s.p.d5 i).To)):=by
      unfold SA;rw[Bool.eq_iff_iff];simp only[pq,zzX];generalize AA s.g.d5 k=x;obtain⟨x1,r,u⟩:=x;simp only[Bo.mk.injEq];constructor
      .rintro⟨a,b,c⟩;exact⟨⟨a.symm,b⟩,c⟩
      .rintro⟨⟨a,b⟩,c⟩;exact⟨a.symm,b,c⟩
     rw [AE he.1 j,AE he.2.2.1 m];simp only[List.any_cons,List.any_nil,Bool.or_false,bs];rw[q];generalize (Av k.toNat).any (SA s l i)=c1;generalize decide ((AA s.p.d5 i).og=(AA s.g.d5 k).og)=c3;generalize decide ((AA s.g.d5 k).o4=AA l (AA s.p.d5 i).o4)=c4;generalize decide ((AA s.g.d5 k).To=AA l (AA s.p.d5 i).To)=c5;cases c1<;>cases c3<;>cases c4<;>cases c5<;>rfl
   grind
  grind
theorem rN(hf:Lz (Hn s [] []))(h:pc (Rf s l) 0 s.p.d5.length=true):∃i,dt (Hn s l []) i:=by
 rw [EE]at h;obtain⟨i,d,j,h⟩:=h;unfold Rf at h;rw[pq,pq,zzX,zzX,Bool.not_eq_true',List.any_eq_false]at h;have he:=hf.ends _ (AM (l:=s.p.d5) d j);refine⟨i,d,j,he.1,h.1.1,he.2.2.1,h.1.2,fun k m o=>?_⟩;have:=h.2 k (Es.2 ⟨m,o⟩);have e:SA s l i k=false:=by rw[<-Bool.not_eq_true];exact this
 rw [Vs];show((decide (AA s.gt.d5 i<0)||decide (AA s.gt.d5 i=k))&&SA s l i k)=false;rw[e,Bool.and_false]
end Go.Sf.Sc
namespace Go.Sf.Sc
open Go Go.Sf
theorem ZU:∀(n:Nat)(f:AL)(o:List d6),GQ n (R4 f o)=GQ n f
 |0,f,o=>PM _ f o|n+1,f,o=>by
  rw [GQ,GQ];refine congrArg (fun F=>(Av f.g.d3.length).flatMap F) (funext fun k=>?_);have:=ZU n {f with ei:=f.ei++[k]} o
  grind [SR,GQ,R4]
theorem Yh:∀(n:Nat)(s:Ag)(l:Fp),GG s.t->Lz (Hn s [] [])->V6 s->l.length+n=s.p.d3.length->∀m,n+1<=m->CF m s l=some (CM s (GQ n (Hn s l [])))
 |n,s,l,P,hf,r,K,m,z=>by
  obtain ⟨m,rfl⟩:∃k,m=k+1:=⟨m-1,by omega⟩;have M:=hf.small;have Z:s.p.d3.length<=1000:=M.1;have s3:s.g.d3.length<=1000:=M.2.2.1;have h0:=r.m0;have h1:=r.m1;have h2:=r.out;rw[CF];by_cases E:(s.Aaz.length:Int)=s.up+1
  .grind[XG]
  rw [ae (by simp;omega),rQ hf];cases hd:pc (Rf s l) 0 s.p.d5.length
  case true=>
   grind [rN,Zg,Hn,OS]
  simp only[bs,Bool.not_false,Bool.not_true,Bool.false_eq_true,if_false]
  match n,K,z with
  |0,K,z=>
   rw [a6 (by simp;omega),Option.bind_fun_some,GQ];exact EZ (s.p.d5.length+1) fun m z=>Yg s.p.d5.length s l [] hf r (by omega) (by simp) m (by omega)
  |n+1,K,z=>
   have w:(l.length:Int)<s.p.d3.length:=by omega
   have o:(0:Int)<=l.length:=by omega
   have G:(l.length:Int)<s.gt.d3.length:=by
    have:s.gt.d3.length=s.p.d3.length:=hf.pn;omega
   have Q:(JZ s.t).length=s.t.d3.length:=by unfold JZ;rw[ca,BA]
   have d:=hf.kinds _ (AM (l:=s.p.d3) o w);have H:AA s.p.d3 l.length<s.t.d3.length:=by rw[<-Q];exact d.2.1
   have j:AA (JZ s.t) (AA s.p.d3 l.length)=M1 s.t (AA s.p.d3 l.length):=Hi (M1 s.t) d.1 H;rw[ae (by simp;omega)];rw[Pv (fun i=>CM s ((Av i.toNat).flatMap fun k=>if SR (Hn s l []) k=true then GQ n (Hn s (l++[k]) [])else[])) (a:=0) (b:=(s.g.d3.length:Int)) (s:=s) (by omega) (OS r).symm (fun i B C=>by
    have R:∀F,CM s ((Av (i+1).toNat).flatMap F)=CM (CM s ((Av i.toNat).flatMap F)) (F i):=by
     intro F;rw[VM,Fy B,List.flatMap_append];simp
    rw [R];generalize (Av i.toNat).flatMap (fun k=>if SR (Hn s l []) k=true then GQ n (Hn s (l++[k]) [])else[])=L;have N:=XH r L;rw[a6 (by rw[zzX];exact C)];have q:=d.2.2 _ (AM (l:=s.g.d3) B C);have y:AA s.g.d3 i<s.t.d3.length:=by
     have h:=q.2;have e:AA (Hn s [] []).is (AA s.p.d3 l.length)=M1 s.t (AA s.p.d3 l.length):=j;rw[e]at h;unfold M1 at h
     rwa [ca,BA]at h
    have I:G8 (CM s L).t (AA s.g.d3 i) (AA s.p.d3 l.length)=some (JA s.t (AA s.g.d3 i) (AA s.p.d3 l.length)):=Ub P q.1 y d.1;have S:idx (CM s L).g.d3 i=some (AA s.g.d3 i):=AE B C;have T:idx (CM s L).gt.d3 (l.length:Int)=some (AA s.gt.d3 l.length):=AE o G;have U:Cp (CM s L) l i=some (s.ej&&l.any fun x=>decide (i=x)):=ia (CM s L) (by omega) i;have V:idx (CM s L).p.d3 (l.length:Int)=some (AA s.p.d3 l.length):=AE o w;have key:((Ak [] l).bind fun D=>
      (Ak D [i]).bind fun u=>
      (CF m (CM s L) u).bind fun v=>
      some (.next (v,Aj (i+1)):Bv (Ag×Int) Ag))=some (.next (CM (CM s L) (GQ n (Hn s (l++[i]) [])),i+1)):=by
     have O:=Yh n (CM s L) (l++[i]) P ⟨hf.pn,hf.pe,hf.ends,hf.kinds,hf.small⟩ N (by show(l++[i]).length+n=s.p.d3.length;rw[bk];simp;omega) m (by omega);have W:GQ n (Hn (CM s L) (l++[i]) [])=GQ n (Hn s (l++[i]) []):=ZU n (Hn s (l++[i]) []) _;rw[W]at O;rw[A1 (by unfold Ah;omega),bs,Ai (by simp;unfold Ah;omega),bs,O,bs,Ar (by omega) (by omega)]
    rw [T,bs,U,S,V,key];simp only[bs];rw[I,Ar (n:=i+1) (by omega) (by omega)];simp only[bs];have J:SR (Hn s l []) i=((decide (AA s.gt.d3 l.length<0)||decide (AA s.gt.d3 l.length=i))&&AA (AA (JZ s.t) (AA s.p.d3 l.length)) (AA s.g.d3 i)&&!(s.ej&&l.any fun x=>decide (i=x))):=rfl;have X:AA (AA (JZ s.t) (AA s.p.d3 l.length)) (AA s.g.d3 i)=JA s.t (AA s.g.d3 i) (AA s.p.d3 l.length):=by
     rw [j];exact Hi (fun k=>JA s.t k (AA s.p.d3 l.length)) q.1 y
    have Y:(decide (AA s.gt.d3 l.length<0)||decide (AA s.gt.d3 l.length=i))=!(decide (0<=AA s.gt.d3 l.length)&&!decide (AA s.gt.d3 l.length=i)):=by
     rw [Bool.not_and,Bool.not_not];congr 1;rw[<-decide_not];exact decide_eq_decide.2 (by omega)
    rw [J,X,Y];generalize GQ n (Hn s (l++[i]) [])=A;generalize decide (0<=AA s.gt.d3 l.length)=c1;generalize decide (AA s.gt.d3 l.length=i)=c2;generalize JA s.t (AA s.g.d3 i) (AA s.p.d3 l.length)=c3;generalize (s.ej&&l.any fun x=>decide (i=x))=c6;cases c1<;>cases c2<;>cases c3<;>cases c6<;>first|rfl|(simp only[Bool.and_self,Bool.and_true,Bool.true_and,Bool.and_false,Bool.false_and,Bool.not_true,Bool.not_false,Bool.or_true,Bool.or_false,if_true,Bool.false_eq_true,if_false,OS N,bs];try rfl)) (by rw[ae (by simp[CM])]),Br,Int.toNat_natCast,GQ]
   rfl
end Go.Sf.Sc
namespace Go.Sf.Sc
open Go Go.Sf
def FF(t:AC)(p g:d4)(pa:d6)(inj:Bool):AL:=⟨p,g,JZ t,pa,inj,5001,[],[],[]⟩
def OB(t:AC)(p g:d4)(pa:d6)(inj:Bool):List d6:=(GQ p.d3.length (FF t p g pa inj)).take 5001
variable{t:AC}{p g:d4}{pa:d6}{inj:Bool}
theorem oB(j:An t)(hv:(A2 t).2=0)(d:Lz (FF t p g pa inj)):GA t p g pa inj 5001=some (OB t p g pa inj):=by
 unfold GA;rw[mW j (DU hv) hv,bs];have h:=qw (f:=FF t p g pa inj) d ⟨by show(0:Int)<=5001;omega,by show(5001:Int)<=10000;omega,by show((0:Nat):Int)<=5001;omega⟩ rfl rfl;rw[gD _ _ d rfl]at h;have e:AL.mk p g (JZ t) pa inj 5001 [] [] []=FF t p g pa inj:=rfl;rw[e,h];rfl
theorem vI(hv:(A2 t).2=0)(d:Lz (FF t p g pa inj)):ON t p g pa inj 5000=some (OB t p g pa inj):=by
 unfold ON;have h:Ij ⟨t,p,g,pa,inj,5000,[]⟩ []=some (CM ⟨t,p,g,pa,inj,5000,[]⟩ (GQ p.d3.length (FF t p g pa inj))):=
  EZ (p.d3.length+1) fun m e=>Yh p.d3.length ⟨t,p,g,pa,inj,5000,[]⟩ [] (DU hv) d ⟨by show(0:Int)<=5000;omega,by show(5000:Int)<=9999;omega,by show((0:Nat):Int)<=5000+1;omega⟩ (by show 0+p.d3.length=p.d3.length;omega) m e
 rw [h];rfl
end Go.Sf.Sc
namespace Go.Sf.Sc
open Go Go.Sf
def VU(n k:Int):Bool:=decide (k< -1)||decide (n<=k)
def Qe(l:Fp)(n:Int):Int:=if l.any (VU n)=true then 6 else 0
theorem iA(l:Fp)(n:Int):Fx l n=some (Qe l n):=by grind[Fx,Qe,Lp,VU,Sv]
variable{l:Fp}
theorem ai{c:Int}(n:Int)(h:(l.length:Int)=c):I1 l c n=some (Qe l n):=by
 unfold I1 Qe;rw[ae (by simp[h]),BS (fun i=>VU n (AA l i)) 6]
 .have e:pc (fun i=>VU n (AA l i)) 0 l.length=l.any (VU n):=by
   rw [Bool.eq_iff_iff,EE,List.any_eq_true]
   grind [AM,Be]
  rw [e];cases l.any (VU n)<;>rfl
 grind [AE,VU,AA]
end Go.Sf.Sc
namespace Go.Sf.Sc
open Go Go.Sf
theorem aU(t:AC)(g:d4):El t g=some (Cw t g):=by grind[El,Cw,KE,Sv,KF,cX]
def F2(t:AC)(p g:d4):Int:=if(A2 t).2≠0 then(A2 t).2 else if Bu p≠0 then Bu p else if Bu g≠0 then Bu g else if(Cw t p&&Cw t g)=true then 0 else 13
variable{t:AC}
theorem Xm(hf:An t)(p g:d4):Ed t p g=some (F2 t p g):=by
 unfold Ed F2;rw[NV hf,bs];refine DV fun _=>?_;have o:kq (ρ:=Int) (fun(m:Int)(_:Unit)=>
   (idx [p,g] m).bind fun j=>
   (Ci j).bind fun h=>
   if (!decide (h=0))=true then
   some (.ret h)
   else
   some (.next ())) 0 ([p,g].length:Int) ()=some (if Bu p≠0 then .inr (Bu p)else if Bu g≠0 then .inr (Bu g)else .inl ()):=by
  show Aad _ 2 0 ()=_;rw[Ft,show idx [p,g] 0=some p from rfl,bs,Kq,bs];by_cases d:Bu p=0
  .rw[ae (by simp[d]),ae (by simp[d])];show Aad _ 1 (0+1) ()=_;rw[Ft,show idx [p,g] (0+1)=some g from rfl,bs,Kq,bs];by_cases e:Bu g=0
   .rw[ae (by simp[e]),ae (by simp[e])];rfl
   .rw[a6 (by simp[e]),a6 e]
  .rw[a6 (by simp[d]),a6 d]
 rw [o];by_cases d:Bu p=0
 .by_cases e:Bu g=0
  .simp only[d,e,ne_eq,not_true_eq_false,if_false,Br];rw[aU,aU,bs];cases Cw t p<;>cases Cw t g<;>rfl
  .simp only[d,e,ne_eq,not_true_eq_false,not_false_eq_true,if_false,if_true,Qp]
 .simp only[d,ne_eq,not_false_eq_true,if_true,Qp]
theorem Vj(hf:An t)(p g:d4):IP t p g=some (F2 t p g):=by
 unfold IP F2;rw[PF hf,bs];refine DV fun _=>?_;rw[MB,bs];refine DV fun d=>?_;rw[MB,bs];refine DV fun e=>?_
 grind [Xq,C2,Cw]
end Go.Sf.Sc
namespace Go.Sf.Sc
open Go Go.Sf
variable{t:AC}{p g:d4}{pa:d6}{inj:Bool}
theorem Zm(h:F2 t p g=0)(r:pa.d3.length=p.d3.length)(u:pa.d5.length=p.d5.length):(A2 t).2=0/\Lz (FF t p g pa inj):=by
 unfold F2 at h;by_cases hv:(A2 t).2=0
 .rw[ae (by simp[hv])]at h;by_cases o:Bu p=0
  .rw[ae (by simp[o])]at h;by_cases q:Bu g=0
   .rw[ae (by simp[q])]at h;by_cases d:(Cw t p&&Cw t g)=true
    .rw[pq]at d;have op:=C2 o;have m:=C2 q;have tp:=IV op d.1;have w:=IV m d.2;have x:(JZ t).length=t.d3.length:=by unfold JZ;rw[ca,BA]
     refine ⟨hv,r,u,fun e he=>?_,fun n v=>?_,Nat.le_trans op.ei (by omega),Nat.le_trans op.ek (by omega),Nat.le_trans m.ei (by omega),Nat.le_trans m.ek (by omega)⟩
     .have:=op.fit e he;exact⟨this.2.1.1,this.2.1.2,this.2.2.1,this.2.2.2⟩
     .have:=tp.1 n v;refine⟨this.1,by show n<((JZ t).length:Int);rw[x];exact this.2,fun k j=>?_⟩;have j:=w.1 k j;refine⟨j.1,?_⟩;show k<((AA (JZ t) n).length:Int)
      grind [JZ,Hi,M1,ca,BA]
    grind
   grind
  grind
 grind
def Ri(t:AC)(p g:d4)(pa:d6)(inj:Bool):List d6×Int:=
 if F2 t p g≠0 then([],F2 t p g)else if¬(pa.d3.length=p.d3.length/\pa.d5.length=p.d5.length)then([],20)else
 if Qe pa.d3 g.d3.length≠0 then([],Qe pa.d3 g.d3.length)else if Qe pa.d5 g.d5.length≠0 then([],Qe pa.d5 g.d5.length)else
 if 5000<(OB t p g pa inj).length then([],3)else(OB t p g pa inj,0)
theorem kP(hf:An t)(p g:d4)(pa:d6)(inj:Bool):FW t p g pa inj=some (Ri t p g pa inj):=by
 unfold FW Ri;rw[Xm hf,bs];refine Cg fun e=>?_;refine F1 (by simp only[Bool.or_eq_true,Bool.not_eq_true',decide_eq_false_iff_not];omega) fun d=>?_;have d:=Classical.not_not.1 d;rw[iA,bs];refine Cg fun h=>?_;rw[iA,bs];refine Cg fun j=>?_
 grind [Zm,JV,oB,OB]
theorem kY(hf:An t)(p g:d4)(pa:d6)(inj:Bool):KY t p g pa inj=some (Ri t p g pa inj):=by
 unfold KY Ri;rw[Vj hf,bs];refine Cg fun e=>?_;refine F1 (by simp only[Bool.or_eq_true,Bool.not_eq_true',decide_eq_false_iff_not];omega) fun d=>?_;have d:=Classical.not_not.1 d;rw[ai _ (by omega),bs];refine Cg fun h=>?_;rw[ai _ (by omega),bs];refine Cg fun j=>?_
 grind [Zm,vI,OB]
end Go.Sf.Sc
