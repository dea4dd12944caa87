/- Plain lemmas: what the functions of the program and of the reference compute. -/
import Derived.Test.YtmbomnkcdolalaaGreatP1
import Derived.Test.YtmbomnkcdolalaaGreatEval
set_option linter.all false
set_option maxRecDepth 100000
namespace Go.Sf.Sc
open Go Go.Sf
variable{t:AC}{c:d6}
theorem jU(hf:As t)(p:ea)(e:DO c):Cf t p c=some (Lr t p c):=by
 by_cases d:(Av t).2=0
 .exact b6 hf d p e
 .unfold Cf Lr;rw[UR hf,bs];refine DC fun h=>?_;exfalso;unfold Gz at h;rw[a6 d]at h;exact d h
end Go.Sf.Sc
namespace Go.Sf.Sc
open Go Go.Sf
variable{α:Type}
theorem kL[Inhabited α](b:α->α->Bool){l m:List α}(j:∀x∈l,∀y∈m,(b x y=true↔x=y))(o:l.length=m.length):og (fun i=>!b (AA l i) (AA m i)) 0 l.length=false↔l=m:=by
 rw [Bb];constructor
 .intro h;refine bN o (fun i d e=>?_);have:=h i d e;rw[Bool.not_eq_false']at this;exact(j _ (AK d e) _ (AK d (by omega))).1 this
 .rintro rfl i d e;rw[Bool.not_eq_false'];exact(j _ (AK d e) _ (AK d e)).2 rfl
theorem ir[Inhabited α][DecidableEq α]{l m:List α}(r:l.length=m.length){k:Unit->K1}{j:Bool->K1}:fq (j4 (ρ:=Bool) (fun(o:Int)(_:Unit)=>
 (idx l o).bind fun d=>
 (idx m o).bind fun e=>
 if (!decide (d=e))=true then
 some (.ret false)
 else
 some (.next ())) 0 (l.length:Int) ()) k j=if l=m then k ()else j false:=by
 rw [BM (fun i=>!decide (AA l i=AA m i)) false]
 .have:=kL (fun x y:α=>decide (x=y)) (l:=l) (m:=m) (fun _ _ _ _=>decide_eq_true_iff) r;by_cases h:l=m
  .rw[this.2 h,a6 h];rfl
  .rw[ae h];cases v:og (fun i=>!decide (AA l i=AA m i)) 0 l.length
   .exact absurd (this.1 v) h
   .rfl
 .intro i q u _;rw[AD q u,bs,AD q (by omega),bs,Hq]
theorem Ur[Inhabited α][DecidableEq α](l m:List α):(if(!decide ((l.length:Int)=(m.length:Int)))=true then
 some false
 else
 fq (j4 (ρ:=Bool) (fun(q:Int)(_:Unit)=>
 (idx l q).bind fun d=>
 (idx m q).bind fun j=>
 if (!decide (d=j))=true then
 some (.ret false)
 else
 some (.next ())) 0 (l.length:Int) ()) (fun _=>
 some true) (fun r=>some r))=some (decide (l=m)):=by
 by_cases o:l.length=m.length
 .rw[ae (by simp[o]),ir o];by_cases h:l=m
  .rw[a6 h,decide_eq_true h]
  .rw[ae h,decide_eq_false h]
 .rw[a6 (by simp;omega),decide_eq_false (fun e=>o (by rw[e]))]
theorem gw(l m:Fp):slices_Equal_int l m=some (decide (l=m)):=Ur l m
theorem ZE(l m:Fp):GZ l m=some (decide (l=m)):=Ur l m
theorem U3(l m:Fp):Ga l m=some (decide (l=m)):=Ur l m
end Go.Sf.Sc
namespace Go.Sf.Sc
open Go Go.Sf
mutual
def EP:d6->Nat
 |⟨_,kids,_,_⟩=>1+PX kids
def PX:List d6->Nat
 |[]=>0|k::l=>EP k+PX l
end
mutual
def tT:d6->Nat
 |⟨k,kids,_,_⟩=>(if k=5 then 1 else 0)+ln kids
def ln:List d6->Nat
 |[]=>0|k::l=>max (tT k) (ln l)
end
theorem Rg(c:d6):EP c=1+PX c.gn:=by cases c;rfl
variable{k:Int}
theorem iq{l:List d6}(d:0<=k)(e:k<l.length):l.drop k.toNat=AA l k::l.drop (k+1).toNat:=by
 rw [show(k+1).toNat=k.toNat+1 by omega,List.drop_eq_getElem_cons (by omega)];unfold AA;rw[List.getD_eq_getElem?_getD,List.getElem?_eq_getElem (by omega)];rfl
theorem VK:∀(N:Nat)(c:d6),SizeOf.sizeOf c<=N->(AJ c).Sm->∀tn:Int,0<=tn->tn<=1000->∃r,(∀n,N<=n->CW n c tn=some r)/\-1<=r/\r<=tn-1/\(0<=r->DO c/\(EP c:Int)+r<=tn)
 |0,c,h,_,_,_,_=>by have:=D3 c;omega|N+1,c,h,X,tn,m0,m1=>by
  obtain ⟨O,P,D⟩:=Yp X;obtain⟨Q,z,R⟩:=Pm c.ea;obtain⟨S,F,T⟩:=Us O;have step:∀n,N+1<=n->∃m,n=m+1/\N<=m:=fun n d=>⟨n-1,by omega,by omega⟩;cases Q
  .refine⟨-1,fun n d=>?_,by omega,by omega,fun h=>by omega⟩;obtain⟨n,rfl,_⟩:=step n d;rw[CW,z];rfl
  cases S
  .refine⟨-1,fun n d=>?_,by omega,by omega,fun h=>by omega⟩;obtain⟨n,rfl,_⟩:=step n d;rw[CW,z,bs,F];rfl
  have loop:∀(m:Nat)(k left:Int),0<=k->k+m=c.gn.length->-1<=left->left<=1000->∃e w,(∀n,N<=n->LI (ρ:=Int) (fun(q:Int×Int)=>
    if ((decide (q.2<(c.gn.length:Int)))&&(decide (0<=q.1)))=true then
    (idx c.gn q.2).bind fun A=>
    (CW n A q.1).bind fun B=>
    some (.next (B,Af (q.2+1)))
    else
    some (.brk (q.1,q.2))) (left,k) (.inl (e,w)))/\-1<=e/\e<=left/\(0<=e->(∀j,k<=j->j<c.gn.length->DO (AA c.gn j))/\(PX (c.gn.drop k.toNat):Int)+e<=left):=by
   intro m
   induction m with
   |zero=>
    intro k left y K E l1;refine⟨left,k,fun n d=>.brk ?_,E,by omega,fun _=>⟨fun j C x=>by omega,?_⟩⟩
    .rw[ae (by simp;omega)]
    .rw[List.drop_of_length_le (by omega),PX];omega
   |succ m W=>
    intro k left y K E l1;by_cases L:0<=left
    .have o:=AK (l:=c.gn) y (by omega);have:=Ey o;obtain⟨r,U,V,Y,I⟩:=VK N _ (by omega) (D _ o) left L l1;obtain⟨e,w,a1,G,J,v⟩:=W (k+1) r (by omega) (by omega) V (by omega);refine⟨e,w,fun n d=>.next (s':=(r,k+1)) ?_ (a1 n d),G,by omega,fun u=>⟨fun j C x=>?_,?_⟩⟩
     .rw[a6 (by simp;omega),AD y (by omega),bs,U n d,bs,Ao (by omega) (by omega)]
     .by_cases M:j=k
      .subst M;exact(I (by omega)).1
      .exact(v u).1 j (by omega) x
     .have z:=(I (by omega)).2;have F:=(v u).2;rw[iq y (by omega),PX];omega
    .refine⟨left,k,fun n d=>.brk ?_,E,by omega,fun h=>by omega⟩;rw[ae (by simp;omega)]
  obtain ⟨e,w,a1,G,J,v⟩:=loop c.gn.length 0 (tn-1) (by omega) (by omega) (by omega) (by omega);refine⟨e,fun n d=>?_,G,J,fun u=>⟨.mk c (R rfl) (T rfl) (fun k D=>?_),?_⟩⟩
  .obtain⟨n,rfl,H⟩:=step n d;rw[CW,z,bs,F];simp only[bs,Bool.not_true,Bool.false_eq_true,if_false];rw[Ao (n:=tn-1) (by omega) (by omega),(a1 n H).eq,Bi]
  .obtain⟨j,C,x,rfl⟩:=BW D;exact(v u).1 j C x
  .have:=(v u).2;rw[show(0:Int).toNat=0 from rfl,List.drop_zero]at this;rw[Rg];omega
variable{c:d6}
theorem bW(d:(AJ c).Sm):∃b,Ib c=some b/\(b=true->DO c/\EP c<=40):=by
 obtain ⟨r,j,_,_,m⟩:=VK (SizeOf.sizeOf c) c (az _) d 40 (by omega) (by omega);have e:OH c 40=some r:=EB (SizeOf.sizeOf c) j;unfold Ib;rw[e];exact⟨_,rfl,fun h=>by have:=m (by simpa using h);exact⟨this.1,by have:=this.2;simp at h;omega⟩⟩
theorem TB:∀{l:List d6}{k:d6},k∈l->EP k<=PX l
 |x::l,k,h=>by
  rw [PX];rcases List.mem_cons.1 h with rfl|h
  .omega
  .have:=TB h;omega
end Go.Sf.Sc
namespace Go.Sf.Sc
open Go Go.Sf
structure LP(f:AH):Prop where
 pn:f.f0.ci.length=f.p.ci.length
 pe:f.f0.d3.length=f.p.d3.length
 ends:∀e∈f.p.d3,0≤e.ns/\e.ns<f.p.ci.length/\0≤e.To/\e.To<f.p.ci.length
 kinds:∀n∈f.p.ci,0<=n/\n<f.is.length/\∀t∈f.g.ci,0<=t/\t<(AA f.is n).length
 small:f.p.ci.length<=1000/\f.p.d3.length<=1000/\f.g.ci.length<=1000/\f.g.d3.length<=1000
def Ji(f:AH)(i k:Int):Bool:=
 (decide (AA f.f0.d3 i<0)||decide (AA f.f0.d3 i=k))&&decide (AA f.g.d3 k=⟨(AA f.p.d3 i).ne,AA f.ec (AA f.p.d3 i).ns,AA f.ec (AA f.p.d3 i).To⟩)
variable{α:Type}
theorem bq{l:List α}(h:l≠[]):XM l=some ():=by grind[XM]
variable{l:Fp}{i:Int}
theorem XA(e:0<=i)(d:i<l.length):Gq l i=some (AA l i):=by
 unfold Gq;rw[bq (by intro h;subst h;simp at d;omega),bs,AD e d,bs]
variable{f:AH}{k:Int}
theorem cH(hf:LP f)(d:0<=i)(e:i<f.p.d3.length)(h:0<=k)(j:k<f.g.d3.length)(m:(AA f.p.d3 i).ns<f.ec.length)(o:(AA f.p.d3 i).To<f.ec.length):DP f i k=some (Ji f i k):=by
 have he:=hf.ends _ (AK d e);unfold DP Ji;rw[AD d e,bs,XA d (by rw[hf.pe];exact e),bs,AD h j,bs,AD he.1 m,bs,AD he.2.2.1 o,bs]
 grind
def Mt(f:AH):Bool:=!og (fun i=>decide (max (AA f.p.d3 i).ns (AA f.p.d3 i).To=(f.ec.length:Int)-1)&&!og (fun k=>Ji f i k) 0 f.g.d3.length) 0 f.p.d3.length
variable{b:Int}
theorem ii{f:Int->Bool->Option (Bk Bool Bool)}(p:Int->Bool)(h:∀i,0<=i->i<b->f i false=some (if p i=true then .brk true else .next false)):j4 f 0 b false=some (.inl (og p 0 b)):=by
 have key:∀(m:Nat)(i:Int),0<=i->i+m=b->Aae f m i false=some (.inl (og p i b)):=by
  intro m
  induction m with
  |zero=>
   intro i d hi;have:og p i b=false:=by rw[Bb];intro j q r;omega
   rw [this];rfl
  |succ m v=>
   intro i d hi;rw[FN,h i d (by omega)];by_cases o:p i=true
   .have:og p i b=true:=by rw[Dt];exact⟨i,Int.le_refl _,by omega,o⟩
    rw [a6 o,this]
   .have e:og p i b=og p (i+1) b:=by
     rw [Bool.eq_iff_iff,Dt,Dt]
     grind
    grind
 unfold j4;by_cases u:0<=b
 .grind
 .have:og p 0 b=false:=by rw[Bb];intro j q r;omega
  rw [this,show(b-0).toNat=0 by omega];rfl
theorem aK(hf:LP f)(q:0<f.ec.length)(j:f.ec.length<=1000):B2 f=some (Mt f):=by
 unfold B2 Mt;rw[BM (fun i=>decide (max (AA f.p.d3 i).ns (AA f.p.d3 i).To=(f.ec.length:Int)-1)&&!og (fun k=>Ji f i k) 0 f.g.d3.length) false]
 .generalize og (fun i=>decide (max (AA f.p.d3 i).ns (AA f.p.d3 i).To=(f.ec.length:Int)-1)&&!og (fun k=>Ji f i k) 0 f.g.d3.length) 0 f.p.d3.length=b;cases b<;>rfl
 .intro i d e _;rw[AD d e,bs,Ao (n:=(f.ec.length:Int)-1) (by omega) (by omega)];by_cases h:max (AA f.p.d3 i).ns (AA f.p.d3 i).To=(f.ec.length:Int)-1
  .rw[ae (by simp[h]),ii (fun k=>Ji f i k) (fun k m o=>by
    rw [cH hf d e m o (by omega) (by omega),bs,Hq])]
   generalize og (fun k=>Ji f i k) 0 f.g.d3.length=b;rw[decide_eq_true h];cases b<;>rfl
  grind
def Ax(n:Nat):Fp:=(List.range n).map Int.ofNat
theorem SN(n:Nat):Ax (n+1)=Ax n++[(n:Int)]:=by grind[Ax,List.range_succ]
def RJ(f:AH)(k:Int):Bool:=(decide (AA f.f0.ci f.ec.length<0)||decide (AA f.f0.ci f.ec.length=k))&&AA (AA f.is (AA f.p.ci f.ec.length)) (AA f.g.ci k)&&!(f.ei&&f.ec.any fun x=>decide (k=x))
def RI(f:AH)(k:Int):Bool:=Ji f f.ek.length k&&!(f.ei&&f.ek.any fun x=>decide (k=x))
def D6:Nat->AH->List d5
 |0,f=>[⟨f.ec,f.ek⟩]|n+1,f=>(Ax f.g.d3.length).flatMap fun k=>if RI f k=true then D6 n {f with ek:=f.ek++[k]}else[]
def Ij:Nat->AH->List d5
 |0,f=>D6 f.p.d3.length f|n+1,f=>(Ax f.g.ci.length).flatMap fun k=>if(RJ f k&&Mt {f with ec:=f.ec++[k]})=true then Ij n {f with ec:=f.ec++[k]}else[]
theorem V1(a b:List α)(m:Nat):((a.take m)++b).take m=(a++b).take m:=by
 by_cases h:a.length<=m
 .rw[List.take_of_length_le h]
 grind
end Go.Sf.Sc
namespace Go.Sf.Sc
open Go Go.Sf
def Qd(f:AH)(o:List d5):AH:={f with out:=o}
variable{f:AH}
theorem LP.out(h:LP f)(o:List d5):LP (Qd f o):=⟨h.pn,h.pe,h.ends,h.kinds,h.small⟩
theorem Ob:∀(n:Nat)(f:AH)(o:List d5),D6 n (Qd f o)=D6 n f
 |0,_,_=>rfl|n+1,f,o=>by
  rw [D6,D6];refine congrArg (fun F=>(Ax f.g.d3.length).flatMap F) (funext fun k=>?_);have:=Ob n {f with ek:=f.ek++[k]} o;show(if RI f k=true then D6 n (Qd {f with ek:=f.ek++[k]} o)else[])=_;rw[this]
theorem We:∀(n:Nat)(f:AH)(o:List d5),Ij n (Qd f o)=Ij n f
 |0,f,o=>Ob _ f o|n+1,f,o=>by
  rw [Ij,Ij];refine congrArg (fun F=>(Ax f.g.ci.length).flatMap F) (funext fun k=>?_);have:=We n {f with ec:=f.ec++[k]} o;show(if(RJ f k&&Mt {f with ec:=f.ec++[k]})=true then Ij n (Qd {f with ec:=f.ec++[k]} o)else[])=_;rw[this]
def A2(f:AH)(l:List d5):AH:=Qd f ((f.out++l).take f.tn.toNat)
structure Uk(f:AH):Prop where
 m0:0<=f.tn
 m1:f.tn<=10000
 out:(f.out.length:Int)<=f.tn
theorem Jo(h:Uk f):A2 f []=f:=by
 unfold A2;rw[List.append_nil,List.take_of_length_le (by have:=h.out;have:=h.m0;omega)];rfl
theorem VW(h:(f.out.length:Int)=f.tn)(l:List d5):A2 f l=f:=by
 unfold A2;rw[List.take_append_of_le_length (by omega),List.take_of_length_le (by omega)];rfl
theorem VY(h:Uk f)(l:List d5):Uk (A2 f l):=by
 refine ⟨h.m0,h.m1,?_⟩;have:=h.m0;show(((f.out++l).take f.tn.toNat).length:Int)<=f.tn
 grind
theorem VX(f:AH)(a b:List d5):A2 (A2 f a) b=A2 f (a++b):=by
 show Qd f ((((f.out++a).take f.tn.toNat)++b).take f.tn.toNat)=_;rw[V1,ca];rfl
theorem Tz:∀(n:Nat)(f:AH),LP f->Uk f->f.ec.length=f.p.ci.length->f.ek.length+n=f.p.d3.length->∀m,n+1<=m->At m f=some (A2 f (D6 n f))
 |n,f,hf,u,M,he,m,y=>by
  obtain ⟨m,rfl⟩:∃k,m=k+1:=⟨m-1,by omega⟩;have N:=hf.small;have O:=u.m0;have P:=u.m1;have Q:=u.out;rw[At];by_cases e:(f.out.length:Int)=f.tn
  .grind[VW]
  rw [ae (by simpa using e),ae (by simp;omega)]
  match n,he,y with
  |0,he,y=>
   rw [ae (by simp;omega)];unfold slices_Clone_int;rw[BD (by unfold Ad;omega),bs,BD (by unfold Ad;omega),bs,Ai (by simp;unfold Ad;omega),bs,bs];unfold A2;rw[List.take_of_length_le (by simp[D6];omega)];rfl
  |n+1,he,y=>
   rw [a6 (by simp;omega)];have F:∀k,RI f k=true->LP {f with ek:=f.ek++[k]}:=fun k _=>⟨hf.pn,hf.pe,hf.ends,hf.kinds,hf.small⟩;rw[B1 (a:=0) (s:=f) (fun i=>A2 f ((Ax i.toNat).flatMap fun k=>if RI f k=true then D6 n {f with ek:=f.ek++[k]}else[])) (by omega) (Jo u)]
   .grind[Int.toNat_natCast,D6]
   .intro i C D;have E:Ax (i+1).toNat=Ax i.toNat++[i]:=by
     rw [show(i+1).toNat=i.toNat+1 by omega,SN];rw[show((i.toNat:Nat):Int)=i by omega]
    have G:∀l,A2 f ((Ax (i+1).toNat).flatMap l)=A2 (A2 f ((Ax i.toNat).flatMap l)) (l i):=by
     intro l;rw[VX,E,List.flatMap_append];simp
    rw [G];generalize (Ax i.toNat).flatMap (fun k=>if RI f k=true then D6 n {f with ek:=f.ek++[k]}else[])=L;have o:=VY u L;have v:LP (A2 f L):=hf.out _;have z:=hf.ends _ (AK (l:=f.p.d3) (i:=(f.ek.length:Int)) (by omega) (by omega));rw[cH v (i:=(f.ek.length:Int)) (k:=i) (by omega) (by show _<(f.p.d3.length:Int);omega) C (by exact D) (by show(AA f.p.d3 f.ek.length).ns<(f.ec.length:Int);omega) (by show(AA f.p.d3 f.ek.length).To<(f.ec.length:Int);omega),bs];have H:slices_Contains_int (A2 f L).ek i=some (f.ek.any fun x=>decide (i=x)):=Kb f.ek i;rw[H];have q:Ji (A2 f L) f.ek.length i=Ji f f.ek.length i:=rfl;have key:((Ag (A2 f L).ek [i]).bind fun h=>
      (At m (AH.mk (A2 f L).p (A2 f L).g (A2 f L).is (A2 f L).f0 (A2 f L).ei (A2 f L).tn (A2 f L).ec h (A2 f L).out)).bind fun d=>
      (slc d.ek 0 (f.ek.length:Int)).bind fun j=>
      some (AH.mk d.p d.g d.is d.f0 d.ei d.tn d.ec j d.out))=some (A2 (A2 f L) (D6 n {f with ek:=f.ek++[i]})):=by
     have I:Ag (A2 f L).ek [i]=some (f.ek++[i]):=Ai (by show f.ek.length+1<=Ad;unfold Ad;omega);have B:=Tz n {A2 f L with ek:=f.ek++[i]} ⟨hf.pn,hf.pe,hf.ends,hf.kinds,hf.small⟩ ⟨o.m0,o.m1,o.out⟩ M (by show(f.ek++[i]).length+n=f.p.d3.length;simp;omega) m (by omega);have J:D6 n {A2 f L with ek:=f.ek++[i]}=D6 n {f with ek:=f.ek++[i]}:=Ob n {f with ek:=f.ek++[i]} _;rw[J]at B;rw[I,bs];show(At m {A2 f L with ek:=f.ek++[i]}).bind _=_;rw[B,bs];have K:slc (A2 {A2 f L with ek:=f.ek++[i]} (D6 n {f with ek:=f.ek++[i]})).ek 0 (f.ek.length:Int)=some f.ek:=by
      show slc (f.ek++[i]) 0 (f.ek.length:Int)=_;rw[LN (by omega) (by rw[bk];omega),Int.toNat_natCast,List.take_left]
     rw [K];rfl
    rw [key,q];have w:RI f i=(Ji f f.ek.length i&&!(f.ei&&f.ek.any fun x=>decide (i=x))):=rfl;have r:(A2 f L).ei=f.ei:=rfl;rw[w,r];generalize R:D6 n {f with ek:=f.ek++[i]}=A;cases Ji f f.ek.length i
    .simp only[Bool.false_and,Bool.false_eq_true,if_false,Jo o];rfl
    .cases f.ei
     .rfl
     .cases f.ek.any fun x=>decide (i=x)
      .rfl
      .simp only[Bool.and_self,Bool.not_true,Bool.and_false,Bool.false_eq_true,if_false,Jo o];rfl
end Go.Sf.Sc
namespace Go.Sf.Sc
open Go Go.Sf
theorem T1:∀(n:Nat)(f:AH),LP f->Uk f->f.ek=[]->f.ec.length+n=f.p.ci.length->∀m,n+f.p.d3.length+1<=m->At m f=some (A2 f (Ij n f))
 |0,f,hf,u,he,R,m,S=>by
  grind [Ij,Tz]
 |n+1,f,hf,u,he,R,m,S=>by
  obtain ⟨m,rfl⟩:∃k,m=k+1:=⟨m-1,by omega⟩;have T:=hf.small;have U:=u.m0;have V:=u.m1;have W:=u.out;rw[At];by_cases j:(f.out.length:Int)=f.tn
  .grind[VW]
  rw [ae (by simpa using j),a6 (by simp;omega)];rw[B1 (a:=0) (s:=f) (fun i=>A2 f ((Ax i.toNat).flatMap fun k=>if(RJ f k&&Mt {f with ec:=f.ec++[k]})=true then Ij n {f with ec:=f.ec++[k]}else[])) (by omega) (Jo u)]
  .grind[Int.toNat_natCast,Ij]
  .intro i B C;have F:Ax (i+1).toNat=Ax i.toNat++[i]:=by
    rw [show(i+1).toNat=i.toNat+1 by omega,SN];rw[show((i.toNat:Nat):Int)=i by omega]
   have G:∀l,A2 f ((Ax (i+1).toNat).flatMap l)=A2 (A2 f ((Ax i.toNat).flatMap l)) (l i):=by
    intro l;rw[VX,F,List.flatMap_append];simp
   rw [G];generalize (Ax i.toNat).flatMap (fun k=>if(RJ f k&&Mt {f with ec:=f.ec++[k]})=true then Ij n {f with ec:=f.ec++[k]}else[])=L;have o:=VY u L;have q:(f.ec.length:Int)<(f.p.ci.length:Int):=by omega
   have r:=hf.kinds _ (AK (l:=f.p.ci) (i:=(f.ec.length:Int)) (by omega) q);have w:=r.2.2 _ (AK B C);have key:((Ag (A2 f L).ec [i]).bind fun e=>
     (B2 (AH.mk (A2 f L).p (A2 f L).g (A2 f L).is (A2 f L).f0 (A2 f L).ei (A2 f L).tn e (A2 f L).ek (A2 f L).out)).bind fun v=>
     if v=true then
     (At m (AH.mk (A2 f L).p (A2 f L).g (A2 f L).is (A2 f L).f0 (A2 f L).ei (A2 f L).tn e (A2 f L).ek (A2 f L).out)).bind fun d=>
     (slc d.ec 0 (f.ec.length:Int)).bind fun h=>
     some (AH.mk d.p d.g d.is d.f0 d.ei d.tn h d.ek d.out)
     else
     (slc e 0 (f.ec.length:Int)).bind fun h=>
     some (AH.mk (A2 f L).p (A2 f L).g (A2 f L).is (A2 f L).f0 (A2 f L).ei (A2 f L).tn h (A2 f L).ek (A2 f L).out))=some (A2 (A2 f L) (if Mt {f with ec:=f.ec++[i]}=true then Ij n {f with ec:=f.ec++[i]}else[])):=by
    have H:Ag (A2 f L).ec [i]=some (f.ec++[i]):=Ai (by show f.ec.length+1<=Ad;unfold Ad;omega);have D:slc (f.ec++[i]) 0 (f.ec.length:Int)=some f.ec:=by
     rw [LN (by omega) (by rw[bk];omega),Int.toNat_natCast,List.take_left]
    have I:B2 {A2 f L with ec:=f.ec++[i]}=some (Mt {f with ec:=f.ec++[i]}):=aK (f:={A2 f L with ec:=f.ec++[i]}) ⟨hf.pn,hf.pe,hf.ends,hf.kinds,hf.small⟩ (by show 0<(f.ec++[i]).length;simp) (by show(f.ec++[i]).length<=1000;rw[bk];simp;omega);have E:=T1 n {A2 f L with ec:=f.ec++[i]} ⟨hf.pn,hf.pe,hf.ends,hf.kinds,hf.small⟩ ⟨o.m0,o.m1,o.out⟩ he (by show(f.ec++[i]).length+n=f.p.ci.length;rw[bk];simp;omega) m (by show n+f.p.d3.length+1<=m;omega);have J:Ij n {A2 f L with ec:=f.ec++[i]}=Ij n {f with ec:=f.ec++[i]}:=We n {f with ec:=f.ec++[i]} _;rw[J]at E;rw[H,bs];show(B2 {A2 f L with ec:=f.ec++[i]}).bind _=_;rw[I,bs];cases Mt {f with ec:=f.ec++[i]}
    .rw[ae (by decide),ae (by decide),D,Jo o];rfl
    .rw[a6 rfl,a6 rfl];show(At m {A2 f L with ec:=f.ec++[i]}).bind _=_;rw[E,bs];have K:slc (A2 {A2 f L with ec:=f.ec++[i]} (Ij n {f with ec:=f.ec++[i]})).ec 0 (f.ec.length:Int)=some f.ec:=D;rw[K];rfl
   have M:Gq (A2 f L).f0.ci (f.ec.length:Int)=some (AA f.f0.ci f.ec.length):=XA (by omega) (by show(f.ec.length:Int)<(f.f0.ci.length:Int);rw[hf.pn];exact q);have N:idx (A2 f L).p.ci (f.ec.length:Int)=some (AA f.p.ci f.ec.length):=AD (by omega) q;have hi:idx (A2 f L).is (AA f.p.ci f.ec.length)=some (AA f.is (AA f.p.ci f.ec.length)):=AD r.1 r.2.1;have O:idx (AA f.is (AA f.p.ci f.ec.length)) (AA f.g.ci i)=some (AA (AA f.is (AA f.p.ci f.ec.length)) (AA f.g.ci i)):=AD w.1 w.2;have P:slices_Contains_int (A2 f L).ec i=some (f.ec.any fun x=>decide (i=x)):=Kb f.ec i;have y:(A2 f L).ei=f.ei:=rfl;have z:RJ f i=((decide (AA f.f0.ci f.ec.length<0)||decide (AA f.f0.ci f.ec.length=i))&&AA (AA f.is (AA f.p.ci f.ec.length)) (AA f.g.ci i)&&!(f.ei&&f.ec.any fun x=>decide (i=x))):=rfl;rw[AD B C,bs,M,bs,N,bs,hi,bs,O,bs,P,key,y,z];generalize AA (AA f.is (AA f.p.ci f.ec.length)) (AA f.g.ci i)=c2;have Q:(decide (0<=AA f.f0.ci f.ec.length)&&!decide (AA f.f0.ci f.ec.length=i))=!(decide (AA f.f0.ci f.ec.length<0)||decide (AA f.f0.ci f.ec.length=i)):=by
    rw [Bool.not_or];congr 1;rw[<-decide_not];exact decide_eq_decide.2 (by omega)
   rw [Q];generalize (decide (AA f.f0.ci f.ec.length<0)||decide (AA f.f0.ci f.ec.length=i))=c1;generalize Mt {f with ec:=f.ec++[i]}=c5;generalize Ij n {f with ec:=f.ec++[i]}=A;cases c1
   .simp only[Bool.false_and,Bool.false_eq_true,if_false,Jo o];rfl
   .cases c2
    .simp only[Bool.and_false,Bool.false_and,Bool.false_eq_true,if_false,Jo o];rfl
    .cases f.ei
     .rfl
     .cases f.ec.any fun x=>decide (i=x)
      .rfl
      .simp only[Bool.and_self,Bool.not_true,Bool.and_false,Bool.false_and,Bool.false_eq_true,if_false,Jo o];rfl
variable{f:AH}
theorem mN(hf:LP f)(d:Uk f)(he:f.ek=[])(e:f.ec=[]):ET f=some (A2 f (Ij f.p.ci.length f)):=
 EB (f.p.ci.length+f.p.d3.length+1) fun m h=>T1 _ f hf d he (by rw[e];simp) m h
end Go.Sf.Sc
namespace Go.Sf.Sc
open Go Go.Sf
theorem BG(n:Nat):(Ax n).length=n:=by simp[Ax]
variable{n:Nat}{i:Int}
theorem FL:i∈Ax n↔0<=i/\i<n:=by
 unfold Ax;rw[List.mem_map];constructor
 .grind
 .rintro⟨d,e⟩;exact⟨i.toNat,List.mem_range.2 (by omega),by show((i.toNat:Nat):Int)=i;omega⟩
variable{α:Type}
theorem IT[Inhabited α](F:Int->α)(d:0<=i)(e:i<n):AA ((Ax n).map F) i=F i:=by
 unfold AA Ax
 grind
theorem FV(d:0<=i):Ax (i+1).toNat=Ax i.toNat++[i]:=by
 rw [show(i+1).toNat=i.toNat+1 by omega,SN,show((i.toNat:Nat):Int)=i by omega]
def MQ(t:AC)(a:Int):a5:=(Ax t.ci.length).map fun k=>IX t k a
def I0(t:AC):List a5:=(Ax t.ci.length).map (MQ t)
variable{t:AC}{a:Int}
theorem jR(hf:As t)(h:Fm t)(hv:(Av t).2=0)(a0:0<=a)(a1:a<t.ci.length):GW t a=some ((Ax t.ci.length).filter fun i=>IX t i a,0):=by
 have e:=h.ec;unfold GW;have d:JY t a=true:=by simp[JY,a0,a1]
 rw [U1 hf,bs,ae (by simp[hv,d])];rw[B1 (fun i=>(Ax i.toNat).filter fun i=>IX t i a) (by omega) (by rfl),bs,Int.toNat_natCast]
 grind [eh,FV,Ax,IX,List.length_filter_le,BG,Ai,Ad]
variable{l:Fp}
theorem kM(r:∀x∈l,0<=x/\x<n):sx (fun(u:Int)(s2:a5)=>
  (idx l u).bind fun d=>
  (idx s2 d).bind fun _=>
  some (BI s2 d true)) 0 (l.length:Int) (List.replicate n false)=some ((Ax n).map fun k=>l.any fun x=>decide (x=k)):=by
 rw [B1 (fun j=>(Ax n).map fun k=>(l.take j.toNat).any fun x=>decide (x=k)) (by omega) (by
  refine List.ext_getElem (by simp[BG]) (fun j m y=>by simp))]
 .rw[Int.toNat_natCast,List.take_length]
 .intro j o m;have q:=r _ (AK o m);rw[AD o m,bs,AD q.1 (by rw[c8,BG];exact q.2),bs,Ch o m];congr 1;unfold BI;refine List.ext_getElem (by simp) (fun k z v=>?_);have w:k<n:=by simpa[BG]using v
  rw [List.getElem_set];have e:(Ax n)[k]'(by rw[BG];exact w)=(k:Int):=by simp[Ax]
  simp only[List.getElem_map,e,List.any_append,List.any_cons,List.any_nil,Bool.or_false];by_cases h:(AA l j).toNat=k
  .rw[a6 h,decide_eq_true (show AA l j=(k:Int)by omega),Bool.or_true]
  .rw[ae h,decide_eq_false (show¬AA l j=(k:Int)by omega),Bool.or_false]
theorem gv(hf:As t)(h:Fm t)(hv:(Av t).2=0):Ew t=some (I0 t):=by
 have w:=h.ec;unfold Ew;rw[B1 (fun i=>(Ax i.toNat).map (MQ t)) (by omega) (by rfl),bs,Int.toNat_natCast]
 .rfl
 .intro i o r;have v:IZ (t.ci.length:Int) false=some (List.replicate t.ci.length false):=by
   unfold IZ;rw[a6 (by omega),Int.toNat_natCast]
  rw [v,bs,jR hf h hv o r,bs];have:=kM (n:=t.ci.length) (l:=(Ax t.ci.length).filter fun k=>IX t k i) (fun x j=>FL.1 (List.mem_filter.1 j).1);show(sx (fun(q:Int)(s2:a5)=>
   (idx ((Ax t.ci.length).filter fun k=>IX t k i) q).bind fun d=>
   (idx s2 d).bind fun _=>
   some (BI s2 d true)) 0 (((Ax t.ci.length).filter fun k=>IX t k i).length:Int) (List.replicate t.ci.length false)).bind _=_
  rw [this,bs,Ai (by rw[c8,BG];simp;unfold Ad;omega),bs,FV o,List.map_append];congr 2;simp only[List.map_cons,List.map_nil];congr 1;unfold MQ;refine List.map_congr_left (fun k m=>?_);have m:=FL.1 m;rw[Bool.eq_iff_iff,List.any_eq_true];constructor
  .rintro⟨x,j,e⟩;rw[zzX]at e;subst e;exact(List.mem_filter.1 j).2
  .intro u;exact⟨k,List.mem_filter.2 ⟨FL.2 m,u⟩,by simp⟩
end Go.Sf.Sc
namespace Go.Sf.Sc
open Go Go.Sf
def F2:Nat->AH->List d5
 |0,f=>D6 f.p.d3.length f|n+1,f=>(Ax f.g.ci.length).flatMap fun k=>if RJ f k=true then F2 n {f with ec:=f.ec++[k]}else[]
def Ze(f:AH)(i:Int):Prop:=0<=i/\i<f.p.d3.length/\0<=(AA f.p.d3 i).ns/\(AA f.p.d3 i).ns<f.ec.length/\0<=(AA f.p.d3 i).To/\(AA f.p.d3 i).To<f.ec.length/\∀k:Int,0<=k->k<f.g.d3.length->Ji f i k=false
theorem TY(f:AH)(i k:Int):Ji f i k=((decide (AA f.f0.d3 i<0)||decide (AA f.f0.d3 i=k))&&decide (AA f.g.d3 k=⟨(AA f.p.d3 i).ne,AA f.ec (AA f.p.d3 i).ns,AA f.ec (AA f.p.d3 i).To⟩)):=rfl
variable{α:Type}{i:Int}
theorem Wh[Inhabited α](l:List α)(x:α)(d:0<=i)(e:i<l.length):AA (l++[x]) i=AA l i:=by
 unfold AA
 grind
theorem bU:∀(n:Nat)(f:AH)(i:Int),Ze f i->(f.ek.length:Int)<=i->i<f.ek.length+n->D6 n f=[]
 |0,f,i,_,e,h=>by omega|n+1,f,i,hd,e,h=>by
  rw [D6];refine List.flatMap_eq_nil_iff.2 (fun k d=>?_);have d:=FL.1 d;by_cases he:(f.ek.length:Int)=i
  .have:RI f k=false:=by
    unfold RI;rw[he,hd.2.2.2.2.2.2 k d.1 d.2];rfl
   grind
  .split
   .exact bU n {f with ek:=f.ek++[k]} i hd (by show((f.ek++[k]).length:Int)<=i;rw[bk];simp;omega) (by show i<((f.ek++[k]).length:Int)+n;rw[bk];simp;omega)
   .rfl
theorem Wr:∀(n:Nat)(f:AH)(i:Int),f.ek=[]->Ze f i->F2 n f=[]
 |0,f,i,he,hd=>by
  rw [F2];exact bU _ f i hd (by rw[he];simpa using hd.1) (by rw[he];simpa using hd.2.1)
 |n+1,f,i,he,hd=>by
  rw [F2];refine List.flatMap_eq_nil_iff.2 (fun k o=>?_);split
  .refine Wr n {f with ec:=f.ec++[k]} i he ?_;obtain⟨d,e,h,v,m,w,x⟩:=hd;have u:((f.ec++[k]).length:Int)=f.ec.length+1:=by rw[bk];simp
   refine ⟨d,e,h,?_,m,?_,fun j q r=>?_⟩
   .grind
   .grind
   grind [TY,AA,Wh]
  .rfl
variable{f:AH}
theorem eu(hf:LP f)(h:Mt f=false):∃i,Ze f i:=by
 unfold Mt at h;rw[Bool.not_eq_false',Dt]at h;obtain⟨i,d,e,h⟩:=h;rw[pc,zzX,Bool.not_eq_true',Bb]at h;have he:=hf.ends _ (AK d e);exact⟨i,d,e,he.1,by omega,he.2.2.1,by omega,h.2⟩
theorem bM:∀(n:Nat)(f:AH),LP f->f.ek=[]->Ij n f=F2 n f
 |0,_,_,_=>rfl|n+1,f,hf,he=>by
  rw [Ij,F2];refine congrArg (fun F=>(Ax f.g.ci.length).flatMap F) (funext fun k=>?_);have d:LP {f with ec:=f.ec++[k]}:=⟨hf.pn,hf.pe,hf.ends,hf.kinds,hf.small⟩;cases RJ f k
  .rfl
  .cases e:Mt {f with ec:=f.ec++[k]}
   .obtain⟨i,hd⟩:=eu d e
    grind [Wr]
   .simp only[Bool.and_self,if_true];exact bM n _ d he
end Go.Sf.Sc
namespace Go.Sf.Sc
open Go Go.Sf
variable{a b:Int}
theorem Ox{σ ρ:Type}{f:σ×Int->Option (Bk (σ×Int) ρ)}(g:Int->σ){s:σ}(d:a<=b)(e:s=g a)(h:∀i,a<=i->i<b->f (g i,i)=some (.next (g (i+1),i+1)))(j:f (g b,b)=some (.brk (g b,b))):EQ f (s,a)=some (.inl (g b,b)):=by
 subst e;have key:∀(n:Nat)(i:Int),a<=i->i+n=b->LI f (g i,i) (.inl (g b,b)):=by
  intro n
  induction n with
  |zero=>
   intro i _ hi;have:i=b:=by omega
   subst this;exact .brk j
  |succ n o=>
   intro i m q;exact .next (h i m (by omega)) (o (i+1) (by omega) (by omega))
 exact (key (b-a).toNat a (Int.le_refl _) (by omega)).eq
def HF(s:AZ)(ec ek:Fp):AH:=⟨s.p,s.g,I0 s.t,s.f0,s.ei,s.tn+1,ec,ek,s.Aax⟩
def CE(s:AZ)(l:List d5):AZ:={s with Aax:=(s.Aax++l).take (s.tn+1).toNat}
structure Th(s:AZ):Prop where
 m0:0<=s.tn
 m1:s.tn<=9999
 out:(s.Aax.length:Int)<=s.tn+1
variable{s:AZ}
theorem Np(h:Th s):CE s []=s:=by
 unfold CE;rw[List.append_nil,List.take_of_length_le (by have:=h.out;have:=h.m0;omega)]
theorem Ub(h:(s.Aax.length:Int)=s.tn+1)(l:List d5):CE s l=s:=by
 unfold CE;rw[List.take_append_of_le_length (by omega),List.take_of_length_le (by omega)]
theorem Uc(h:Th s)(l:List d5):Th (CE s l):=by
 refine ⟨h.m0,h.m1,?_⟩;have:=h.m0;show(((s.Aax++l).take (s.tn+1).toNat).length:Int)<=s.tn+1
 grind
theorem S1(s:AZ)(a b:List d5):CE (CE s a) b=CE s (a++b):=by
 show ({s with Aax:=(((s.Aax++a).take (s.tn+1).toNat)++b).take (s.tn+1).toNat}:AZ)=_;rw[V1,ca];rfl
variable{l:Fp}
theorem cd(s:AZ)(j:l.length<=1000)(n:Int):Cb s l n=some (s.ei&&l.any fun x=>decide (n=x)):=by
 unfold Cb;cases s.ei
 .rw[Sl (fun _=>false) true (a:=0) (b:=0) (Int.le_refl _) (fun i h d=>by omega) (by rw[ae (by simp)])];rfl
 .rw[Sl (fun i=>decide (AA l i=n)) true (a:=0) (b:=l.length) (by omega) (fun i h d=>by
   rw [a6 (by simp;exact d),AD h d,bs,Ao (by omega) (by omega),Hq]) (by rw[ae (by simp)])]
  have e:og (fun i=>decide (AA l i=n)) 0 l.length=l.any fun x=>decide (n=x):=by
   rw [Bool.eq_iff_iff,Dt,List.any_eq_true]
   grind [AK,BW]
  rw [e,Bool.true_and];cases l.any fun x=>decide (n=x)<;>rfl
theorem Vs:∀(n:Nat)(s:AZ)(ec l:Fp),LP (HF s [] [])->Th s->ec.length=s.p.ci.length->l.length+n=s.p.d3.length->∀m,n+1<=m->B7 m s ec l=some (CE s (D6 n (HF s ec l)))
 |n,s,ec,l,hf,r,z,he,m,B=>by
  obtain ⟨m,rfl⟩:∃k,m=k+1:=⟨m-1,by omega⟩;have u:=hf.small;have R:s.p.ci.length<=1000:=u.1;have s2:s.p.d3.length<=1000:=u.2.1;have S:s.g.ci.length<=1000:=u.2.2.1;have T:s.g.d3.length<=1000:=u.2.2.2;have U:=r.m0;have V:=r.m1;have W:=r.out;rw[B7];by_cases v:(s.Aax.length:Int)=s.tn+1
  .grind[Ub]
  rw [ae (by simp;omega)]
  match n,he,B with
  |0,he,B=>
   rw [a6 (by simp;omega),BD (by unfold Ad;omega),bs,BD (by unfold Ad;omega),bs,Ai (by simp;unfold Ad;omega),bs];unfold CE;rw[List.take_of_length_le (by simp[D6];omega)];rfl
  |n+1,he,B=>
   have e:(0:Int)<=l.length:=by omega
   have q:(l.length:Int)<s.p.d3.length:=by omega
   have d:=hf.ends _ (AK (l:=s.p.d3) e q);have H:(AA s.p.d3 l.length).ns<ec.length:=by rw[z];exact d.2.1
   have I:(AA s.p.d3 l.length).To<ec.length:=by rw[z];exact d.2.2.2
   have w:(l.length:Int)<s.f0.d3.length:=by
    have:s.f0.d3.length=s.p.d3.length:=hf.pe;omega
   rw [ae (by simp;omega),AD e q,bs];rw[Ox (fun i=>CE s ((Ax i.toNat).flatMap fun k=>if RI (HF s ec l) k=true then D6 n (HF s ec (l++[k]))else[])) (a:=0) (b:=(s.g.d3.length:Int)) (s:=s) (by omega) (Np r).symm (fun i C D=>by
    have J:∀F,CE s ((Ax (i+1).toNat).flatMap F)=CE (CE s ((Ax i.toNat).flatMap F)) (F i):=by
     intro F;rw[S1,FV C,List.flatMap_append];simp
    rw [J];generalize (Ax i.toNat).flatMap (fun k=>if RI (HF s ec l) k=true then D6 n (HF s ec (l++[k]))else[])=L;have E:=Uc r L;rw[a6 (by rw[zzX];exact D)];have K:idx (CE s L).g.d3 i=some (AA s.g.d3 i):=AD C D;have M:idx (CE s L).f0.d3 (l.length:Int)=some (AA s.f0.d3 l.length):=AD e w;have N:Cb (CE s L) l i=some (s.ei&&l.any fun x=>decide (i=x)):=cd (CE s L) (by omega) i;have key:((Ag [] l).bind fun h=>
      (Ag h [i]).bind fun j=>
      (B7 m (CE s L) ec j).bind fun o=>
      some (.next (o,Af (i+1)):Bk (AZ×Int) AZ))=some (.next (CE (CE s L) (D6 n (HF s ec (l++[i]))),i+1)):=by
     have G:=Vs n (CE s L) ec (l++[i]) ⟨hf.pn,hf.pe,hf.ends,hf.kinds,hf.small⟩ E z (by show(l++[i]).length+n=s.p.d3.length;rw[bk];simp;omega) m (by omega);have O:D6 n (HF (CE s L) ec (l++[i]))=D6 n (HF s ec (l++[i])):=Ob n (HF s ec (l++[i])) _;rw[O]at G;rw[BD (by unfold Ad;omega),bs,Ai (by simp;unfold Ad;omega),bs,G,bs,Ao (by omega) (by omega)]
    rw [K,bs,M,bs,N,key];simp only[bs];rw[AD d.1 H,AD d.2.2.1 I,Ao (n:=i+1) (by omega) (by omega)];simp only[bs];have y:RI (HF s ec l) i=(((decide (AA s.f0.d3 l.length<0)||decide (AA s.f0.d3 l.length=i))&&decide (AA s.g.d3 i=⟨(AA s.p.d3 l.length).ne,AA ec (AA s.p.d3 l.length).ns,AA ec (AA s.p.d3 l.length).To⟩))&&!(s.ei&&l.any fun x=>decide (i=x))):=rfl;have P:decide (AA s.g.d3 i=⟨(AA s.p.d3 l.length).ne,AA ec (AA s.p.d3 l.length).ns,AA ec (AA s.p.d3 l.length).To⟩)=(decide ((AA s.p.d3 l.length).ne=(AA s.g.d3 i).ne)&&decide ((AA s.g.d3 i).ns=AA ec (AA s.p.d3 l.length).ns)&&decide ((AA s.g.d3 i).To=AA ec (AA s.p.d3 l.length).To)):=by
     rw [Bool.eq_iff_iff];simp only[pc,zzX];generalize AA s.g.d3 i=x;obtain⟨x1,X,Y⟩:=x;simp only[Bf.mk.injEq];constructor
     .rintro⟨a,b,c⟩;exact⟨⟨a.symm,b⟩,c⟩
     .rintro⟨⟨a,b⟩,c⟩;exact⟨a.symm,b,c⟩
    have Q:(decide (AA s.f0.d3 l.length<0)||decide (AA s.f0.d3 l.length=i))=!(decide (0<=AA s.f0.d3 l.length)&&!decide (AA s.f0.d3 l.length=i)):=by
     rw [Bool.not_and,Bool.not_not];congr 1;rw[<-decide_not];exact decide_eq_decide.2 (by omega)
    rw [y,P,Q];generalize D6 n (HF s ec (l++[i]))=A;generalize decide (0<=AA s.f0.d3 l.length)=c1;generalize decide (AA s.f0.d3 l.length=i)=c2;generalize decide ((AA s.p.d3 l.length).ne=(AA s.g.d3 i).ne)=c3;generalize decide ((AA s.g.d3 i).ns=AA ec (AA s.p.d3 l.length).ns)=c4;generalize decide ((AA s.g.d3 i).To=AA ec (AA s.p.d3 l.length).To)=c5;generalize (s.ei&&l.any fun x=>decide (i=x))=c6;cases c1<;>cases c2<;>cases c3<;>cases c4<;>cases c5<;>cases c6<;>first|rfl|(simp only[Bool.and_self,Bool.and_true,Bool.true_and,Bool.and_false,Bool.false_and,Bool.not_true,Bool.not_false,Bool.or_true,Bool.or_false,Bool.false_or,Bool.true_or,if_true,Bool.false_eq_true,if_false,Np E,bs];try rfl)) (by rw[ae (by simp[CE])]),Bi,Int.toNat_natCast,D6]
   rfl
end Go.Sf.Sc
namespace Go.Sf.Sc
open Go Go.Sf
def Qh(s:AZ)(l:Fp)(i k:Int):Bool:=decide (AA s.g.d3 k=⟨(AA s.p.d3 i).ne,AA l (AA s.p.d3 i).ns,AA l (AA s.p.d3 i).To⟩)
def QH(s:AZ)(l:Fp)(i:Int):Bool:=(decide ((AA s.p.d3 i).ns<l.length)&&decide ((AA s.p.d3 i).To<l.length))&&!(Ax s.g.d3.length).any (Qh s l i)
variable{s:AZ}{l:Fp}
theorem mn(hf:LP (HF s [] [])):Ep s l=some (!og (QH s l) 0 s.p.d3.length):=by
 unfold Ep;rw[BM (QH s l) false]
 .cases og (QH s l) 0 s.p.d3.length<;>rfl
 .intro i d e _;have he:=hf.ends _ (AK (l:=s.p.d3) d e);rw[AD d e,bs];unfold QH;by_cases j:(AA s.p.d3 i).ns<l.length
  .by_cases m:(AA s.p.d3 i).To<l.length
   .rw[ae (by simp;omega),B1 (fun k=>(Ax k.toNat).any (Qh s l i)) (by omega) (by rfl),bs,Int.toNat_natCast,decide_eq_true j,decide_eq_true m]
    .grind
    .intro k h o;rw[AD h o,bs,FV h,List.any_append];have q:Qh s l i k=(decide ((AA s.p.d3 i).ne=(AA s.g.d3 k).ne)&&decide ((AA s.g.d3 k).ns=AA l (AA s.p.d3 i).ns)&&decide ((AA s.g.d3 k).To=AA l (AA s.p.d3 i).To)):=by
      unfold Qh;rw[Bool.eq_iff_iff];simp only[pc,zzX];generalize AA s.g.d3 k=x;obtain⟨x1,r,u⟩:=x;simp only[Bf.mk.injEq];constructor
      .rintro⟨a,b,c⟩;exact⟨⟨a.symm,b⟩,c⟩
      .rintro⟨⟨a,b⟩,c⟩;exact⟨a.symm,b,c⟩
     rw [AD he.1 j,AD he.2.2.1 m];simp only[List.any_cons,List.any_nil,Bool.or_false,bs];rw[q];generalize (Ax k.toNat).any (Qh s l i)=c1;generalize decide ((AA s.p.d3 i).ne=(AA s.g.d3 k).ne)=c3;generalize decide ((AA s.g.d3 k).ns=AA l (AA s.p.d3 i).ns)=c4;generalize decide ((AA s.g.d3 k).To=AA l (AA s.p.d3 i).To)=c5;cases c1<;>cases c3<;>cases c4<;>cases c5<;>rfl
   grind
  grind
theorem mh(hf:LP (HF s [] []))(h:og (QH s l) 0 s.p.d3.length=true):∃i,Ze (HF s l []) i:=by
 rw [Dt]at h;obtain⟨i,d,j,h⟩:=h;unfold QH at h;rw[pc,pc,zzX,zzX,Bool.not_eq_true',List.any_eq_false]at h;have he:=hf.ends _ (AK (l:=s.p.d3) d j);refine⟨i,d,j,he.1,h.1.1,he.2.2.1,h.1.2,fun k m o=>?_⟩;have:=h.2 k (FL.2 ⟨m,o⟩);have e:Qh s l i k=false:=by rw[<-Bool.not_eq_true];exact this
 rw [TY];show((decide (AA s.f0.d3 i<0)||decide (AA s.f0.d3 i=k))&&Qh s l i k)=false;rw[e,Bool.and_false]
end Go.Sf.Sc
namespace Go.Sf.Sc
open Go Go.Sf
theorem Wf:∀(n:Nat)(f:AH)(o:List d5),F2 n (Qd f o)=F2 n f
 |0,f,o=>Ob _ f o|n+1,f,o=>by
  rw [F2,F2];refine congrArg (fun F=>(Ax f.g.ci.length).flatMap F) (funext fun k=>?_);have:=Wf n {f with ec:=f.ec++[k]} o
  grind [RJ,F2,Qd]
theorem Vt:∀(n:Nat)(s:AZ)(l:Fp),Fm s.t->LP (HF s [] [])->Th s->l.length+n=s.p.ci.length->∀m,n+1<=m->B8 m s l=some (CE s (F2 n (HF s l [])))
 |n,s,l,P,hf,r,K,m,z=>by
  obtain ⟨m,rfl⟩:∃k,m=k+1:=⟨m-1,by omega⟩;have M:=hf.small;have Z:s.p.ci.length<=1000:=M.1;have s3:s.g.ci.length<=1000:=M.2.2.1;have h0:=r.m0;have h1:=r.m1;have h2:=r.out;rw[B8];by_cases E:(s.Aax.length:Int)=s.tn+1
  .grind[Ub]
  rw [ae (by simp;omega),mn hf];cases hd:og (QH s l) 0 s.p.d3.length
  case true=>
   grind [mh,Wr,HF,Np]
  simp only[bs,Bool.not_false,Bool.not_true,Bool.false_eq_true,if_false]
  match n,K,z with
  |0,K,z=>
   rw [a6 (by simp;omega),Option.bind_fun_some,F2];exact EB (s.p.d3.length+1) fun m z=>Vs s.p.d3.length s l [] hf r (by omega) (by simp) m (by omega)
  |n+1,K,z=>
   have w:(l.length:Int)<s.p.ci.length:=by omega
   have o:(0:Int)<=l.length:=by omega
   have G:(l.length:Int)<s.f0.ci.length:=by
    have:s.f0.ci.length=s.p.ci.length:=hf.pn;omega
   have Q:(I0 s.t).length=s.t.ci.length:=by unfold I0;rw[c8,BG]
   have d:=hf.kinds _ (AK (l:=s.p.ci) o w);have H:AA s.p.ci l.length<s.t.ci.length:=by rw[<-Q];exact d.2.1
   have j:AA (I0 s.t) (AA s.p.ci l.length)=MQ s.t (AA s.p.ci l.length):=IT (MQ s.t) d.1 H;rw[ae (by simp;omega)];rw[Ox (fun i=>CE s ((Ax i.toNat).flatMap fun k=>if RJ (HF s l []) k=true then F2 n (HF s (l++[k]) [])else[])) (a:=0) (b:=(s.g.ci.length:Int)) (s:=s) (by omega) (Np r).symm (fun i B C=>by
    have R:∀F,CE s ((Ax (i+1).toNat).flatMap F)=CE (CE s ((Ax i.toNat).flatMap F)) (F i):=by
     intro F;rw[S1,FV B,List.flatMap_append];simp
    rw [R];generalize (Ax i.toNat).flatMap (fun k=>if RJ (HF s l []) k=true then F2 n (HF s (l++[k]) [])else[])=L;have N:=Uc r L;rw[a6 (by rw[zzX];exact C)];have q:=d.2.2 _ (AK (l:=s.g.ci) B C);have y:AA s.g.ci i<s.t.ci.length:=by
     have h:=q.2;have e:AA (HF s [] []).is (AA s.p.ci l.length)=MQ s.t (AA s.p.ci l.length):=j;rw[e]at h;unfold MQ at h
     rwa [c8,BG]at h
    have I:Gk (CE s L).t (AA s.g.ci i) (AA s.p.ci l.length)=some (IX s.t (AA s.g.ci i) (AA s.p.ci l.length)):=Sh P q.1 y d.1;have S:idx (CE s L).g.ci i=some (AA s.g.ci i):=AD B C;have T:idx (CE s L).f0.ci (l.length:Int)=some (AA s.f0.ci l.length):=AD o G;have U:Cb (CE s L) l i=some (s.ei&&l.any fun x=>decide (i=x)):=cd (CE s L) (by omega) i;have V:idx (CE s L).p.ci (l.length:Int)=some (AA s.p.ci l.length):=AD o w;have key:((Ag [] l).bind fun D=>
      (Ag D [i]).bind fun u=>
      (B8 m (CE s L) u).bind fun v=>
      some (.next (v,Af (i+1)):Bk (AZ×Int) AZ))=some (.next (CE (CE s L) (F2 n (HF s (l++[i]) [])),i+1)):=by
     have O:=Vt n (CE s L) (l++[i]) P ⟨hf.pn,hf.pe,hf.ends,hf.kinds,hf.small⟩ N (by show(l++[i]).length+n=s.p.ci.length;rw[bk];simp;omega) m (by omega);have W:F2 n (HF (CE s L) (l++[i]) [])=F2 n (HF s (l++[i]) []):=Wf n (HF s (l++[i]) []) _;rw[W]at O;rw[BD (by unfold Ad;omega),bs,Ai (by simp;unfold Ad;omega),bs,O,bs,Ao (by omega) (by omega)]
    rw [T,bs,U,S,V,key];simp only[bs];rw[I,Ao (n:=i+1) (by omega) (by omega)];simp only[bs];have J:RJ (HF s l []) i=((decide (AA s.f0.ci l.length<0)||decide (AA s.f0.ci l.length=i))&&AA (AA (I0 s.t) (AA s.p.ci l.length)) (AA s.g.ci i)&&!(s.ei&&l.any fun x=>decide (i=x))):=rfl;have X:AA (AA (I0 s.t) (AA s.p.ci l.length)) (AA s.g.ci i)=IX s.t (AA s.g.ci i) (AA s.p.ci l.length):=by
     rw [j];exact IT (fun k=>IX s.t k (AA s.p.ci l.length)) q.1 y
    have Y:(decide (AA s.f0.ci l.length<0)||decide (AA s.f0.ci l.length=i))=!(decide (0<=AA s.f0.ci l.length)&&!decide (AA s.f0.ci l.length=i)):=by
     rw [Bool.not_and,Bool.not_not];congr 1;rw[<-decide_not];exact decide_eq_decide.2 (by omega)
    rw [J,X,Y];generalize F2 n (HF s (l++[i]) [])=A;generalize decide (0<=AA s.f0.ci l.length)=c1;generalize decide (AA s.f0.ci l.length=i)=c2;generalize IX s.t (AA s.g.ci i) (AA s.p.ci l.length)=c3;generalize (s.ei&&l.any fun x=>decide (i=x))=c6;cases c1<;>cases c2<;>cases c3<;>cases c6<;>first|rfl|(simp only[Bool.and_self,Bool.and_true,Bool.true_and,Bool.and_false,Bool.false_and,Bool.not_true,Bool.not_false,Bool.or_true,Bool.or_false,if_true,Bool.false_eq_true,if_false,Np N,bs];try rfl)) (by rw[ae (by simp[CE])]),Bi,Int.toNat_natCast,F2]
   rfl
end Go.Sf.Sc
namespace Go.Sf.Sc
open Go Go.Sf
def FF(t:AC)(p g:d4)(pa:d5)(inj:Bool):AH:=⟨p,g,I0 t,pa,inj,5001,[],[],[]⟩
def NX(t:AC)(p g:d4)(pa:d5)(inj:Bool):List d5:=(F2 p.ci.length (FF t p g pa inj)).take 5001
variable{t:AC}{p g:d4}{pa:d5}{inj:Bool}
theorem jV(j:As t)(hv:(Av t).2=0)(d:LP (FF t p g pa inj)):Ff t p g pa inj 5001=some (NX t p g pa inj):=by
 unfold Ff;rw[gv j (DU hv) hv,bs];have h:=mN (f:=FF t p g pa inj) d ⟨by show(0:Int)<=5001;omega,by show(5001:Int)<=10000;omega,by show((0:Nat):Int)<=5001;omega⟩ rfl rfl;rw[bM _ _ d rfl]at h;have e:AH.mk p g (I0 t) pa inj 5001 [] [] []=FF t p g pa inj:=rfl;rw[e,h];rfl
theorem qt(hv:(Av t).2=0)(d:LP (FF t p g pa inj)):Nj t p g pa inj 5000=some (NX t p g pa inj):=by
 unfold Nj;have h:IB ⟨t,p,g,pa,inj,5000,[]⟩ []=some (CE ⟨t,p,g,pa,inj,5000,[]⟩ (F2 p.ci.length (FF t p g pa inj))):=
  EB (p.ci.length+1) fun m e=>Vt p.ci.length ⟨t,p,g,pa,inj,5000,[]⟩ [] (DU hv) d ⟨by show(0:Int)<=5000;omega,by show(5000:Int)<=9999;omega,by show((0:Nat):Int)<=5000+1;omega⟩ (by show 0+p.ci.length=p.ci.length;omega) m e
 rw [h];rfl
end Go.Sf.Sc
namespace Go.Sf.Sc
open Go Go.Sf
def S8(n k:Int):Bool:=decide (k< -1)||decide (n<=k)
def PH(l:Fp)(n:Int):Int:=if l.any (S8 n)=true then 6 else 0
theorem cD(l:Fp)(n:Int):FU l n=some (PH l n):=by grind[FU,PH,LD,S8,Rc]
variable{l:Fp}
theorem Xl{c:Int}(n:Int)(h:(l.length:Int)=c):IQ l c n=some (PH l n):=by
 unfold IQ PH;rw[ae (by simp[h]),BM (fun i=>S8 n (AA l i)) 6]
 .have e:og (fun i=>S8 n (AA l i)) 0 l.length=l.any (S8 n):=by
   rw [Bool.eq_iff_iff,Dt,List.any_eq_true]
   grind [AK,BW]
  rw [e];cases l.any (S8 n)<;>rfl
 grind [AD,S8,AA]
end Go.Sf.Sc
namespace Go.Sf.Sc
open Go Go.Sf
theorem Xc(t:AC)(g:d4):EN t g=some (Ci t g):=by grind[EN,Ci,Jg,Rc,Jh,Yl]
def FW(t:AC)(p g:d4):Int:=if(Av t).2≠0 then(Av t).2 else if Bt p≠0 then Bt p else if Bt g≠0 then Bt g else if(Ci t p&&Ci t g)=true then 0 else 13
variable{t:AC}
theorem U2(hf:As t)(p g:d4):EG t p g=some (FW t p g):=by
 unfold EG FW;rw[Ms hf,bs];refine DC fun _=>?_;have o:j4 (ρ:=Int) (fun(m:Int)(_:Unit)=>
   (idx [p,g] m).bind fun j=>
   (CU j).bind fun h=>
   if (!decide (h=0))=true then
   some (.ret h)
   else
   some (.next ())) 0 ([p,g].length:Int) ()=some (if Bt p≠0 then .inr (Bt p)else if Bt g≠0 then .inr (Bt g)else .inl ()):=by
  show Aae _ 2 0 ()=_;rw[FN,show idx [p,g] 0=some p from rfl,bs,LY,bs];by_cases d:Bt p=0
  .rw[ae (by simp[d]),ae (by simp[d])];show Aae _ 1 (0+1) ()=_;rw[FN,show idx [p,g] (0+1)=some g from rfl,bs,LY,bs];by_cases e:Bt g=0
   .rw[ae (by simp[e]),ae (by simp[e])];rfl
   .rw[a6 (by simp[e]),a6 e]
  .rw[a6 (by simp[d]),a6 d]
 rw [o];by_cases d:Bt p=0
 .by_cases e:Bt g=0
  .simp only[d,e,ne_eq,not_true_eq_false,if_false,Bi];rw[Xc,Xc,bs];cases Ci t p<;>cases Ci t g<;>rfl
  .simp only[d,e,ne_eq,not_true_eq_false,not_false_eq_true,if_false,if_true,PT]
 .simp only[d,ne_eq,not_false_eq_true,if_true,PT]
theorem TP(hf:As t)(p g:d4):Hw t p g=some (FW t p g):=by
 unfold Hw FW;rw[Mv hf,bs];refine DC fun _=>?_;rw[LZ,bs];refine DC fun d=>?_;rw[LZ,bs];refine DC fun e=>?_
 grind [U6,DB,Ci]
end Go.Sf.Sc
namespace Go.Sf.Sc
open Go Go.Sf
variable{t:AC}{p g:d4}{pa:d5}{inj:Bool}
theorem Wv(h:FW t p g=0)(r:pa.ci.length=p.ci.length)(u:pa.d3.length=p.d3.length):(Av t).2=0/\LP (FF t p g pa inj):=by
 unfold FW at h;by_cases hv:(Av t).2=0
 .rw[ae (by simp[hv])]at h;by_cases o:Bt p=0
  .rw[ae (by simp[o])]at h;by_cases q:Bt g=0
   .rw[ae (by simp[q])]at h;by_cases d:(Ci t p&&Ci t g)=true
    .rw[pc]at d;have op:=DB o;have m:=DB q;have tp:=Hz op d.1;have w:=Hz m d.2;have x:(I0 t).length=t.ci.length:=by unfold I0;rw[c8,BG]
     refine ⟨hv,r,u,fun e he=>?_,fun n v=>?_,Nat.le_trans op.ec (by omega),Nat.le_trans op.ek (by omega),Nat.le_trans m.ec (by omega),Nat.le_trans m.ek (by omega)⟩
     .have:=op.fit e he;exact⟨this.2.1.1,this.2.1.2,this.2.2.1,this.2.2.2⟩
     .have:=tp.1 n v;refine⟨this.1,by show n<((I0 t).length:Int);rw[x];exact this.2,fun k j=>?_⟩;have j:=w.1 k j;refine⟨j.1,?_⟩;show k<((AA (I0 t) n).length:Int)
      grind [I0,IT,MQ,c8,BG]
    grind
   grind
  grind
 grind
def QK(t:AC)(p g:d4)(pa:d5)(inj:Bool):List d5×Int:=
 if FW t p g≠0 then([],FW t p g)else if¬(pa.ci.length=p.ci.length/\pa.d3.length=p.d3.length)then([],20)else
 if PH pa.ci g.ci.length≠0 then([],PH pa.ci g.ci.length)else if PH pa.d3 g.d3.length≠0 then([],PH pa.d3 g.d3.length)else
 if 5000<(NX t p g pa inj).length then([],3)else(NX t p g pa inj,0)
theorem ef(hf:As t)(p g:d4)(pa:d5)(inj:Bool):E8 t p g pa inj=some (QK t p g pa inj):=by
 unfold E8 QK;rw[U2 hf,bs];refine Ef fun e=>?_;refine Ka (by simp only[Bool.or_eq_true,Bool.not_eq_true',decide_eq_false_iff_not];omega) fun d=>?_;have d:=Classical.not_not.1 d;rw[cD,bs];refine Ef fun h=>?_;rw[cD,bs];refine Ef fun j=>?_
 grind [Wv,Iw,jV,NX]
theorem ey(hf:As t)(p g:d4)(pa:d5)(inj:Bool):Jx t p g pa inj=some (QK t p g pa inj):=by
 unfold Jx QK;rw[TP hf,bs];refine Ef fun e=>?_;refine Ka (by simp only[Bool.or_eq_true,Bool.not_eq_true',decide_eq_false_iff_not];omega) fun d=>?_;have d:=Classical.not_not.1 d;rw[Xl _ (by omega),bs];refine Ef fun h=>?_;rw[Xl _ (by omega),bs];refine Ef fun j=>?_
 grind [Wv,qt,NX]
end Go.Sf.Sc
