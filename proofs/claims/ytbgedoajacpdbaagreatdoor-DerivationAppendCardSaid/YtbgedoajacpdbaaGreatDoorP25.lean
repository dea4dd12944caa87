/- Plain lemmas: what the functions of the program and of the reference compute. -/
import Derived.Test.YtbgedoajacpdbaaGreatDoorP1
import Derived.Test.YtbgedoajacpdbaaGreatDoorEval
set_option linter.all false
set_option maxRecDepth 100000
namespace Go.Sf.Sc
open Go Go.Sf
variable{t:AC}{c:d7}
theorem kZ(hf:At t)(p:ec)(e:DV c):Ch t p c=some (Lt t p c):=by
 by_cases d:(Ax t).2=0
 .exact cy hf d p e
 .unfold Ch Lt;rw[Ui hf,bs];refine DX fun h=>?_;exfalso;unfold G6 at h;rw[ae d]at h;exact d h
end Go.Sf.Sc
namespace Go.Sf.Sc
open Go Go.Sf
variable{α:Type}
theorem lr[Inhabited α](b:α->α->Bool){l m:List α}(j:∀x∈l,∀y∈m,(b x y=true↔x=y))(o:l.length=m.length):o4 (fun i=>!b (AA l i) (AA m i)) 0 l.length=false↔l=m:=by
 rw [Bc];constructor
 .intro h;refine cK o (fun i d e=>?_);have:=h i d e;rw[Bool.not_eq_false']at this;exact(j _ (AJ d e) _ (AJ d (by omega))).1 this
 .rintro rfl i d e;rw[Bool.not_eq_false'];exact(j _ (AJ d e) _ (AJ d e)).2 rfl
theorem j8[Inhabited α][DecidableEq α]{l m:List α}(r:l.length=m.length){k:Unit->K1}{j:Bool->K1}:gn (kl (ρ:=Bool) (fun(o:Int)(_:Unit)=>
 (idx l o).bind fun d=>
 (idx m o).bind fun e=>
 if (!decide (d=e))=true then
 some (.ret false)
 else
 some (.next ())) 0 (l.length:Int) ()) k j=if l=m then k ()else j false:=by
 rw [BL (fun i=>!decide (AA l i=AA m i)) false]
 .have:=lr (fun x y:α=>decide (x=y)) (l:=l) (m:=m) (fun _ _ _ _=>decide_eq_true_iff) r;by_cases h:l=m
  .rw[this.2 h,ae h];rfl
  .rw[az h];cases v:o4 (fun i=>!decide (AA l i=AA m i)) 0 l.length
   .exact absurd (this.1 v) h
   .rfl
 .intro i q u _;rw[AD q u,bs,AD q (by omega),bs,Hx]
theorem VC[Inhabited α][DecidableEq α](l m:List α):(if(!decide ((l.length:Int)=(m.length:Int)))=true then
 some false
 else
 gn (kl (ρ:=Bool) (fun(q:Int)(_:Unit)=>
 (idx l q).bind fun d=>
 (idx m q).bind fun j=>
 if (!decide (d=j))=true then
 some (.ret false)
 else
 some (.next ())) 0 (l.length:Int) ()) (fun _=>
 some true) (fun r=>some r))=some (decide (l=m)):=by
 by_cases o:l.length=m.length
 .rw[az (by simp[o]),j8 o];by_cases h:l=m
  .rw[ae h,decide_eq_true h]
  .rw[az h,decide_eq_false h]
 .rw[ae (by simp;omega),decide_eq_false (fun e=>o (by rw[e]))]
theorem jE(l m:Fp):slices_Equal_int l m=some (decide (l=m)):=VC l m
theorem Zm(l m:Fp):Gi l m=some (decide (l=m)):=VC l m
theorem Zn(l m:Fp):IV l m=some (decide (l=m)):=VC l m
end Go.Sf.Sc
namespace Go.Sf.Sc
open Go Go.Sf
mutual
def ER:d7->Nat
 |⟨_,kids,_,_⟩=>1+Pb kids
def Pb:List d7->Nat
 |[]=>0|k::l=>ER k+Pb l
end
mutual
def uq:d7->Nat
 |⟨k,kids,_,_⟩=>(if k=5 then 1 else 0)+m8 kids
def m8:List d7->Nat
 |[]=>0|k::l=>max (uq k) (m8 l)
end
theorem Rx(c:d7):ER c=1+Pb c.hT:=by cases c;rfl
variable{k:Int}
theorem j7{l:List d7}(d:0<=k)(e:k<l.length):l.drop k.toNat=AA l k::l.drop (k+1).toNat:=by
 rw [show(k+1).toNat=k.toNat+1 by omega,List.drop_eq_getElem_cons (by omega)];unfold AA;rw[List.getD_eq_getElem?_getD,List.getElem?_eq_getElem (by omega)];rfl
theorem Vd:∀(N:Nat)(c:d7),SizeOf.sizeOf c<=N->(AK c).Sm->∀tl:Int,0<=tl->tl<=1000->∃r,(∀n,N<=n->CZ n c tl=some r)/\-1<=r/\r<=tl-1/\(0<=r->DV c/\(ER c:Int)+r<=tl)
 |0,c,h,_,_,_,_=>by have:=D8 c;omega|N+1,c,h,X,tl,m0,m1=>by
  obtain ⟨O,P,D⟩:=ZL X;obtain⟨Q,z,R⟩:=P3 c.ec;obtain⟨S,F,T⟩:=VE O;have step:∀n,N+1<=n->∃m,n=m+1/\N<=m:=fun n d=>⟨n-1,by omega,by omega⟩;cases Q
  .refine⟨-1,fun n d=>?_,by omega,by omega,fun h=>by omega⟩;obtain⟨n,rfl,_⟩:=step n d;rw[CZ,z];rfl
  cases S
  .refine⟨-1,fun n d=>?_,by omega,by omega,fun h=>by omega⟩;obtain⟨n,rfl,_⟩:=step n d;rw[CZ,z,bs,F];rfl
  have loop:∀(m:Nat)(k left:Int),0<=k->k+m=c.hT.length->-1<=left->left<=1000->∃e w,(∀n,N<=n->LJ (ρ:=Int) (fun(q:Int×Int)=>
    if ((decide (q.2<(c.hT.length:Int)))&&(decide (0<=q.1)))=true then
    (idx c.hT q.2).bind fun A=>
    (CZ n A q.1).bind fun B=>
    some (.next (B,Af (q.2+1)))
    else
    some (.brk (q.1,q.2))) (left,k) (.inl (e,w)))/\-1<=e/\e<=left/\(0<=e->(∀j,k<=j->j<c.hT.length->DV (AA c.hT j))/\(Pb (c.hT.drop k.toNat):Int)+e<=left):=by
   intro m
   induction m with
   |zero=>
    intro k left y K E l1;refine⟨left,k,fun n d=>.brk ?_,E,by omega,fun _=>⟨fun j C x=>by omega,?_⟩⟩
    .rw[az (by simp;omega)]
    .rw[List.drop_of_length_le (by omega),Pb];omega
   |succ m W=>
    intro k left y K E l1;by_cases L:0<=left
    .have o:=AJ (l:=c.hT) y (by omega);have:=E1 o;obtain⟨r,U,V,Y,I⟩:=Vd N _ (by omega) (D _ o) left L l1;obtain⟨e,w,a1,G,J,v⟩:=W (k+1) r (by omega) (by omega) V (by omega);refine⟨e,w,fun n d=>.next (s':=(r,k+1)) ?_ (a1 n d),G,by omega,fun u=>⟨fun j C x=>?_,?_⟩⟩
     .rw[ae (by simp;omega),AD y (by omega),bs,U n d,bs,As (by omega) (by omega)]
     .by_cases M:j=k
      .subst M;exact(I (by omega)).1
      .exact(v u).1 j (by omega) x
     .have z:=(I (by omega)).2;have F:=(v u).2;rw[j7 y (by omega),Pb];omega
    .refine⟨left,k,fun n d=>.brk ?_,E,by omega,fun h=>by omega⟩;rw[az (by simp;omega)]
  obtain ⟨e,w,a1,G,J,v⟩:=loop c.hT.length 0 (tl-1) (by omega) (by omega) (by omega) (by omega);refine⟨e,fun n d=>?_,G,J,fun u=>⟨.mk c (R rfl) (T rfl) (fun k D=>?_),?_⟩⟩
  .obtain⟨n,rfl,H⟩:=step n d;rw[CZ,z,bs,F];simp only[bs,Bool.not_true,Bool.false_eq_true,if_false];rw[As (n:=tl-1) (by omega) (by omega),(a1 n H).eq,Bh]
  .obtain⟨j,C,x,rfl⟩:=BW D;exact(v u).1 j C x
  .have:=(v u).2;rw[show(0:Int).toNat=0 from rfl,List.drop_zero]at this;rw[Rx];omega
variable{c:d7}
theorem cT(d:(AK c).Sm):∃b,Ik c=some b/\(b=true->DV c/\ER c<=40):=by
 obtain ⟨r,j,_,_,m⟩:=Vd (SizeOf.sizeOf c) c (bk _) d 40 (by omega) (by omega);have e:OH c 40=some r:=EG (SizeOf.sizeOf c) j;unfold Ik;rw[e];exact⟨_,rfl,fun h=>by have:=m (by simpa using h);exact⟨this.1,by have:=this.2;simp at h;omega⟩⟩
theorem TP:∀{l:List d7}{k:d7},k∈l->ER k<=Pb l
 |x::l,k,h=>by
  rw [Pb];rcases List.mem_cons.1 h with rfl|h
  .omega
  .have:=TP h;omega
end Go.Sf.Sc
namespace Go.Sf.Sc
open Go Go.Sf
class PL(α:Type)where
 at_:α->Int->Int
 ok:α->Nat->Prop
instance:PL Fp:=⟨AA,fun l n=>l.length=n⟩
instance:PL (Option Fp):=⟨fun o i=>match o with|none=>-1|some l=>AA l i,fun o n=>match o with|none=>True|some l=>l.length=n⟩
structure LR(f:AI):Prop where
 pn:PL.ok f.gt.d3 f.p.d3.length
 pe:PL.ok f.gt.d5 f.p.d5.length
 ends:∀e∈f.p.d5,0≤e.ns/\e.ns<f.p.d3.length/\0≤e.To/\e.To<f.p.d3.length
 kinds:∀n∈f.p.d3,0<=n/\n<f.is.length/\∀t∈f.g.d3,0<=t/\t<(AA f.is n).length
 small:f.p.d3.length<=1000/\f.p.d5.length<=1000/\f.g.d3.length<=1000/\f.g.d5.length<=1000
def Jl(f:AI)(i k:Int):Bool:=
 (decide (PL.at_ f.gt.d5 i<0)||decide (PL.at_ f.gt.d5 i=k))&&decide (AA f.g.d5 k=⟨(AA f.p.d5 i).ne,AA f.ei (AA f.p.d5 i).ns,AA f.ei (AA f.p.d5 i).To⟩)
variable{α:Type}
theorem cq{l:List α}(h:l≠[]):TX l=some ():=by grind[TX]
variable{l:Fp}{i:Int}
theorem UN(e:0<=i)(d:i<l.length):((TX l).bind fun _=>(idx l i).bind fun x=>some x)=some (AA l i):=by
 rw [cq (by intro h;subst h;simp at d;omega),bs,AD e d,bs]
variable{n:Nat}
theorem Xe:∀{l},PL.ok l n->0<=i->i<n->J9 l i=some (PL.at_ l i):=by
 intro l h d e
 first
  |(cases l with
    |none=>rfl|some l=>exact UN d (by have:l.length=n:=h;omega))
  |exact UN d (by have:l.length=n:=h;omega)
variable{f:AI}{k:Int}
theorem dK(hf:LR f)(d:0<=i)(e:i<f.p.d5.length)(h:0<=k)(j:k<f.g.d5.length)(m:(AA f.p.d5 i).ns<f.ei.length)(o:(AA f.p.d5 i).To<f.ei.length):DW f i k=some (Jl f i k):=by
 have he:=hf.ends _ (AJ d e);unfold DW Jl;rw[AD d e,bs,Xe hf.pe d e,bs,AD h j,bs,AD he.1 m,bs,AD he.2.2.1 o,bs]
 grind
def Mu(f:AI):Bool:=!o4 (fun i=>decide (max (AA f.p.d5 i).ns (AA f.p.d5 i).To=(f.ei.length:Int)-1)&&!o4 (fun k=>Jl f i k) 0 f.g.d5.length) 0 f.p.d5.length
variable{b:Int}
theorem ju{f:Int->Bool->Option (Bp Bool Bool)}(p:Int->Bool)(h:∀i,0<=i->i<b->f i false=some (if p i=true then .brk true else .next false)):kl f 0 b false=some (.inl (o4 p 0 b)):=by
 have key:∀(m:Nat)(i:Int),0<=i->i+m=b->Aae f m i false=some (.inl (o4 p i b)):=by
  intro m
  induction m with
  |zero=>
   intro i d hi;have:o4 p i b=false:=by rw[Bc];intro j q r;omega
   rw [this];rfl
  |succ m v=>
   intro i d hi;rw[FU,h i d (by omega)];by_cases o:p i=true
   .have:o4 p i b=true:=by rw[Dy];exact⟨i,Int.le_refl _,by omega,o⟩
    rw [ae o,this]
   .have e:o4 p i b=o4 p (i+1) b:=by
     rw [Bool.eq_iff_iff,Dy,Dy]
     grind
    grind
 unfold kl;by_cases u:0<=b
 .grind
 .have:o4 p 0 b=false:=by rw[Bc];intro j q r;omega
  rw [this,show(b-0).toNat=0 by omega];rfl
theorem bF(hf:LR f)(q:0<f.ei.length)(j:f.ei.length<=1000):B5 f=some (Mu f):=by
 unfold B5 Mu;rw[BL (fun i=>decide (max (AA f.p.d5 i).ns (AA f.p.d5 i).To=(f.ei.length:Int)-1)&&!o4 (fun k=>Jl f i k) 0 f.g.d5.length) false]
 .generalize o4 (fun i=>decide (max (AA f.p.d5 i).ns (AA f.p.d5 i).To=(f.ei.length:Int)-1)&&!o4 (fun k=>Jl f i k) 0 f.g.d5.length) 0 f.p.d5.length=b;cases b<;>rfl
 .intro i d e _;rw[AD d e,bs,As (n:=(f.ei.length:Int)-1) (by omega) (by omega)];by_cases h:max (AA f.p.d5 i).ns (AA f.p.d5 i).To=(f.ei.length:Int)-1
  .rw[az (by simp[h]),ju (fun k=>Jl f i k) (fun k m o=>by
    rw [dK hf d e m o (by omega) (by omega),bs,Hx])]
   generalize o4 (fun k=>Jl f i k) 0 f.g.d5.length=b;rw[decide_eq_true h];cases b<;>rfl
  grind
def Ao(n:Nat):Fp:=(List.range n).map Int.ofNat
theorem SY(n:Nat):Ao (n+1)=Ao n++[(n:Int)]:=by grind[Ao,List.range_succ]
def RY(f:AI)(k:Int):Bool:=(decide (PL.at_ f.gt.d3 f.ei.length<0)||decide (PL.at_ f.gt.d3 f.ei.length=k))&&AA (AA f.is (AA f.p.d3 f.ei.length)) (AA f.g.d3 k)&&!(f.ej&&f.ei.any fun x=>decide (k=x))
def RX(f:AI)(k:Int):Bool:=Jl f f.em.length k&&!(f.ej&&f.em.any fun x=>decide (k=x))
def EB:Nat->AI->List d6
 |0,f=>[⟨f.ei,f.em⟩]|n+1,f=>(Ao f.g.d5.length).flatMap fun k=>if RX f k=true then EB n {f with em:=f.em++[k]}else[]
def It:Nat->AI->List d6
 |0,f=>EB f.p.d5.length f|n+1,f=>(Ao f.g.d3.length).flatMap fun k=>if(RY f k&&Mu {f with ei:=f.ei++[k]})=true then It n {f with ei:=f.ei++[k]}else[]
theorem WR(a b:List α)(m:Nat):((a.take m)++b).take m=(a++b).take m:=by
 by_cases h:a.length<=m
 .rw[List.take_of_length_le h]
 grind
end Go.Sf.Sc
namespace Go.Sf.Sc
open Go Go.Sf
def RH(f:AI)(o:List d6):AI:={f with out:=o}
variable{f:AI}
theorem LR.out(h:LR f)(o:List d6):LR (RH f o):=⟨h.pn,h.pe,h.ends,h.kinds,h.small⟩
theorem Oc:∀(n:Nat)(f:AI)(o:List d6),EB n (RH f o)=EB n f
 |0,_,_=>rfl|n+1,f,o=>by
  rw [EB,EB];refine congrArg (fun F=>(Ao f.g.d5.length).flatMap F) (funext fun k=>?_);have:=Oc n {f with em:=f.em++[k]} o;show(if RX f k=true then EB n (RH {f with em:=f.em++[k]} o)else[])=_;rw[this]
theorem W8:∀(n:Nat)(f:AI)(o:List d6),It n (RH f o)=It n f
 |0,f,o=>Oc _ f o|n+1,f,o=>by
  rw [It,It];refine congrArg (fun F=>(Ao f.g.d3.length).flatMap F) (funext fun k=>?_);have:=W8 n {f with ei:=f.ei++[k]} o;show(if(RY f k&&Mu {f with ei:=f.ei++[k]})=true then It n (RH {f with ei:=f.ei++[k]} o)else[])=_;rw[this]
def A2(f:AI)(l:List d6):AI:=RH f ((f.out++l).take f.tl.toNat)
structure U4(f:AI):Prop where
 m0:0<=f.tl
 m1:f.tl<=10000
 out:(f.out.length:Int)<=f.tl
theorem Jr(h:U4 f):A2 f []=f:=by
 unfold A2;rw[List.append_nil,List.take_of_length_le (by have:=h.out;have:=h.m0;omega)];rfl
theorem Vq(h:(f.out.length:Int)=f.tl)(l:List d6):A2 f l=f:=by
 unfold A2;rw[List.take_append_of_le_length (by omega),List.take_of_length_le (by omega)];rfl
theorem Vs(h:U4 f)(l:List d6):U4 (A2 f l):=by
 refine ⟨h.m0,h.m1,?_⟩;have:=h.m0;show(((f.out++l).take f.tl.toNat).length:Int)<=f.tl
 grind
theorem Vr(f:AI)(a b:List d6):A2 (A2 f a) b=A2 f (a++b):=by
 show RH f ((((f.out++a).take f.tl.toNat)++b).take f.tl.toNat)=_;rw[WR,ci];rfl
theorem UF:∀(n:Nat)(f:AI),LR f->U4 f->f.ei.length=f.p.d3.length->f.em.length+n=f.p.d5.length->∀m,n+1<=m->Aw m f=some (A2 f (EB n f))
 |n,f,hf,u,M,he,m,y=>by
  obtain ⟨m,rfl⟩:∃k,m=k+1:=⟨m-1,by omega⟩;have N:=hf.small;have O:=u.m0;have P:=u.m1;have Q:=u.out;rw[Aw];by_cases e:(f.out.length:Int)=f.tl
  .grind[Vq]
  rw [az (by simpa using e),az (by simp;omega)]
  match n,he,y with
  |0,he,y=>
   rw [az (by simp;omega)];unfold slices_Clone_int;rw[BE (by unfold Ad;omega),bs,BE (by unfold Ad;omega),bs,Ae (by simp;unfold Ad;omega),bs,bs];unfold A2;rw[List.take_of_length_le (by simp[EB];omega)];rfl
  |n+1,he,y=>
   rw [ae (by simp;omega)];have F:∀k,RX f k=true->LR {f with em:=f.em++[k]}:=fun k _=>⟨hf.pn,hf.pe,hf.ends,hf.kinds,hf.small⟩;rw[Bj (a:=0) (s:=f) (fun i=>A2 f ((Ao i.toNat).flatMap fun k=>if RX f k=true then EB n {f with em:=f.em++[k]}else[])) (by omega) (Jr u)]
   .grind[Int.toNat_natCast,EB]
   .intro i C D;have E:Ao (i+1).toNat=Ao i.toNat++[i]:=by
     rw [show(i+1).toNat=i.toNat+1 by omega,SY];rw[show((i.toNat:Nat):Int)=i by omega]
    have G:∀l,A2 f ((Ao (i+1).toNat).flatMap l)=A2 (A2 f ((Ao i.toNat).flatMap l)) (l i):=by
     intro l;rw[Vr,E,List.flatMap_append];simp
    rw [G];generalize (Ao i.toNat).flatMap (fun k=>if RX f k=true then EB n {f with em:=f.em++[k]}else[])=L;have o:=Vs u L;have v:LR (A2 f L):=hf.out _;have z:=hf.ends _ (AJ (l:=f.p.d5) (i:=(f.em.length:Int)) (by omega) (by omega));rw[dK v (i:=(f.em.length:Int)) (k:=i) (by omega) (by show _<(f.p.d5.length:Int);omega) C (by exact D) (by show(AA f.p.d5 f.em.length).ns<(f.ei.length:Int);omega) (by show(AA f.p.d5 f.em.length).To<(f.ei.length:Int);omega),bs];have H:slices_Contains_int (A2 f L).em i=some (f.em.any fun x=>decide (i=x)):=Kd f.em i;rw[H];have q:Jl (A2 f L) f.em.length i=Jl f f.em.length i:=rfl;have key:((Ag (A2 f L).em [i]).bind fun h=>
      (Aw m (AI.mk (A2 f L).p (A2 f L).g (A2 f L).is (A2 f L).gt (A2 f L).ej (A2 f L).tl (A2 f L).ei h (A2 f L).out)).bind fun d=>
      (slc d.em 0 (f.em.length:Int)).bind fun j=>
      some (AI.mk d.p d.g d.is d.gt d.ej d.tl d.ei j d.out))=some (A2 (A2 f L) (EB n {f with em:=f.em++[i]})):=by
     have I:Ag (A2 f L).em [i]=some (f.em++[i]):=Ae (by show f.em.length+1<=Ad;unfold Ad;omega);have B:=UF n {A2 f L with em:=f.em++[i]} ⟨hf.pn,hf.pe,hf.ends,hf.kinds,hf.small⟩ ⟨o.m0,o.m1,o.out⟩ M (by show(f.em++[i]).length+n=f.p.d5.length;simp;omega) m (by omega);have J:EB n {A2 f L with em:=f.em++[i]}=EB n {f with em:=f.em++[i]}:=Oc n {f with em:=f.em++[i]} _;rw[J]at B;rw[I,bs];show(Aw m {A2 f L with em:=f.em++[i]}).bind _=_;rw[B,bs];have K:slc (A2 {A2 f L with em:=f.em++[i]} (EB n {f with em:=f.em++[i]})).em 0 (f.em.length:Int)=some f.em:=by
      show slc (f.em++[i]) 0 (f.em.length:Int)=_;rw[LP (by omega) (by rw[cE];omega),Int.toNat_natCast,List.take_left]
     rw [K];rfl
    rw [key,q];have w:RX f i=(Jl f f.em.length i&&!(f.ej&&f.em.any fun x=>decide (i=x))):=rfl;have r:(A2 f L).ej=f.ej:=rfl;rw[w,r];generalize R:EB n {f with em:=f.em++[i]}=A;cases Jl f f.em.length i
    .simp only[Bool.false_and,Bool.false_eq_true,if_false,Jr o];rfl
    .cases f.ej
     .rfl
     .cases f.em.any fun x=>decide (i=x)
      .rfl
      .simp only[Bool.and_self,Bool.not_true,Bool.and_false,Bool.false_eq_true,if_false,Jr o];rfl
end Go.Sf.Sc
namespace Go.Sf.Sc
open Go Go.Sf
theorem UG:∀(n:Nat)(f:AI),LR f->U4 f->f.em=[]->f.ei.length+n=f.p.d3.length->∀m,n+f.p.d5.length+1<=m->Aw m f=some (A2 f (It n f))
 |0,f,hf,r,he,R,m,S=>by
  grind [It,UF]
 |n+1,f,hf,r,he,R,m,S=>by
  obtain ⟨m,rfl⟩:∃k,m=k+1:=⟨m-1,by omega⟩;have T:=hf.small;have U:=r.m0;have V:=r.m1;have W:=r.out;rw[Aw];by_cases j:(f.out.length:Int)=f.tl
  .grind[Vq]
  rw [az (by simpa using j),ae (by simp;omega)];rw[Bj (a:=0) (s:=f) (fun i=>A2 f ((Ao i.toNat).flatMap fun k=>if(RY f k&&Mu {f with ei:=f.ei++[k]})=true then It n {f with ei:=f.ei++[k]}else[])) (by omega) (Jr r)]
  .grind[Int.toNat_natCast,It]
  .intro i B C;have F:Ao (i+1).toNat=Ao i.toNat++[i]:=by
    rw [show(i+1).toNat=i.toNat+1 by omega,SY];rw[show((i.toNat:Nat):Int)=i by omega]
   have G:∀l,A2 f ((Ao (i+1).toNat).flatMap l)=A2 (A2 f ((Ao i.toNat).flatMap l)) (l i):=by
    intro l;rw[Vr,F,List.flatMap_append];simp
   rw [G];generalize (Ao i.toNat).flatMap (fun k=>if(RY f k&&Mu {f with ei:=f.ei++[k]})=true then It n {f with ei:=f.ei++[k]}else[])=L;have o:=Vs r L;have v:(f.ei.length:Int)<(f.p.d3.length:Int):=by omega
   have q:=hf.kinds _ (AJ (l:=f.p.d3) (i:=(f.ei.length:Int)) (by omega) v);have w:=q.2.2 _ (AJ B C);have key:((Ag (A2 f L).ei [i]).bind fun e=>
     (B5 (AI.mk (A2 f L).p (A2 f L).g (A2 f L).is (A2 f L).gt (A2 f L).ej (A2 f L).tl e (A2 f L).em (A2 f L).out)).bind fun u=>
     if u=true then
     (Aw m (AI.mk (A2 f L).p (A2 f L).g (A2 f L).is (A2 f L).gt (A2 f L).ej (A2 f L).tl e (A2 f L).em (A2 f L).out)).bind fun d=>
     (slc d.ei 0 (f.ei.length:Int)).bind fun h=>
     some (AI.mk d.p d.g d.is d.gt d.ej d.tl h d.em d.out)
     else
     (slc e 0 (f.ei.length:Int)).bind fun h=>
     some (AI.mk (A2 f L).p (A2 f L).g (A2 f L).is (A2 f L).gt (A2 f L).ej (A2 f L).tl h (A2 f L).em (A2 f L).out))=some (A2 (A2 f L) (if Mu {f with ei:=f.ei++[i]}=true then It n {f with ei:=f.ei++[i]}else[])):=by
    have H:Ag (A2 f L).ei [i]=some (f.ei++[i]):=Ae (by show f.ei.length+1<=Ad;unfold Ad;omega);have D:slc (f.ei++[i]) 0 (f.ei.length:Int)=some f.ei:=by
     rw [LP (by omega) (by rw[cE];omega),Int.toNat_natCast,List.take_left]
    have I:B5 {A2 f L with ei:=f.ei++[i]}=some (Mu {f with ei:=f.ei++[i]}):=bF (f:={A2 f L with ei:=f.ei++[i]}) ⟨hf.pn,hf.pe,hf.ends,hf.kinds,hf.small⟩ (by show 0<(f.ei++[i]).length;simp) (by show(f.ei++[i]).length<=1000;rw[cE];simp;omega);have E:=UG n {A2 f L with ei:=f.ei++[i]} ⟨hf.pn,hf.pe,hf.ends,hf.kinds,hf.small⟩ ⟨o.m0,o.m1,o.out⟩ he (by show(f.ei++[i]).length+n=f.p.d3.length;rw[cE];simp;omega) m (by show n+f.p.d5.length+1<=m;omega);have J:It n {A2 f L with ei:=f.ei++[i]}=It n {f with ei:=f.ei++[i]}:=W8 n {f with ei:=f.ei++[i]} _;rw[J]at E;rw[H,bs];show(B5 {A2 f L with ei:=f.ei++[i]}).bind _=_;rw[I,bs];cases Mu {f with ei:=f.ei++[i]}
    .rw[az (by decide),az (by decide),D,Jr o];rfl
    .rw[ae rfl,ae rfl];show(Aw m {A2 f L with ei:=f.ei++[i]}).bind _=_;rw[E,bs];have K:slc (A2 {A2 f L with ei:=f.ei++[i]} (It n {f with ei:=f.ei++[i]})).ei 0 (f.ei.length:Int)=some f.ei:=D;rw[K];rfl
   have M:J9 (A2 f L).gt.d3 (f.ei.length:Int)=some (PL.at_ f.gt.d3 f.ei.length):=Xe (n:=f.p.d3.length) hf.pn (by omega) (by omega);have N:idx (A2 f L).p.d3 (f.ei.length:Int)=some (AA f.p.d3 f.ei.length):=AD (by omega) v;have hi:idx (A2 f L).is (AA f.p.d3 f.ei.length)=some (AA f.is (AA f.p.d3 f.ei.length)):=AD q.1 q.2.1;have O:idx (AA f.is (AA f.p.d3 f.ei.length)) (AA f.g.d3 i)=some (AA (AA f.is (AA f.p.d3 f.ei.length)) (AA f.g.d3 i)):=AD w.1 w.2;have P:slices_Contains_int (A2 f L).ei i=some (f.ei.any fun x=>decide (i=x)):=Kd f.ei i;have y:(A2 f L).ej=f.ej:=rfl;have z:RY f i=((decide (PL.at_ f.gt.d3 f.ei.length<0)||decide (PL.at_ f.gt.d3 f.ei.length=i))&&AA (AA f.is (AA f.p.d3 f.ei.length)) (AA f.g.d3 i)&&!(f.ej&&f.ei.any fun x=>decide (i=x))):=rfl;rw[AD B C,bs,M,bs,N,bs,hi,bs,O,bs,P,key,y,z];generalize AA (AA f.is (AA f.p.d3 f.ei.length)) (AA f.g.d3 i)=c2;have Q:(decide (0<=PL.at_ f.gt.d3 f.ei.length)&&!decide (PL.at_ f.gt.d3 f.ei.length=i))=!(decide (PL.at_ f.gt.d3 f.ei.length<0)||decide (PL.at_ f.gt.d3 f.ei.length=i)):=by
    rw [Bool.not_or];congr 1;rw[<-decide_not];exact decide_eq_decide.2 (by omega)
   rw [Q];generalize (decide (PL.at_ f.gt.d3 f.ei.length<0)||decide (PL.at_ f.gt.d3 f.ei.length=i))=c1;generalize Mu {f with ei:=f.ei++[i]}=c5;generalize It n {f with ei:=f.ei++[i]}=A;cases c1
   .simp only[Bool.false_and,Bool.false_eq_true,if_false,Jr o];rfl
   .cases c2
    .simp only[Bool.and_false,Bool.false_and,Bool.false_eq_true,if_false,Jr o];rfl
    .cases f.ej
     .rfl
     .cases f.ei.any fun x=>decide (i=x)
      .rfl
      .simp only[Bool.and_self,Bool.not_true,Bool.and_false,Bool.false_and,Bool.false_eq_true,if_false,Jr o];rfl
variable{f:AI}
theorem na(hf:LR f)(d:U4 f)(he:f.em=[])(e:f.ei=[]):EW f=some (A2 f (It f.p.d3.length f)):=
 EG (f.p.d3.length+f.p.d5.length+1) fun m h=>UG _ f hf d he (by rw[e];simp) m h
end Go.Sf.Sc
namespace Go.Sf.Sc
open Go Go.Sf
theorem A3(n:Nat):(Ao n).length=n:=by simp[Ao]
variable{n:Nat}{i:Int}
theorem EU:i∈Ao n↔0<=i/\i<n:=by
 unfold Ao;rw[List.mem_map];constructor
 .grind
 .rintro⟨d,e⟩;exact⟨i.toNat,List.mem_range.2 (by omega),by show((i.toNat:Nat):Int)=i;omega⟩
variable{α:Type}
theorem HI[Inhabited α](F:Int->α)(d:0<=i)(e:i<n):AA ((Ao n).map F) i=F i:=by
 unfold AA Ao
 grind
theorem Fa(d:0<=i):Ao (i+1).toNat=Ao i.toNat++[i]:=by
 rw [show(i+1).toNat=i.toNat+1 by omega,SY,show((i.toNat:Nat):Int)=i by omega]
def MQ(t:AC)(a:Int):a6:=(Ao t.d3.length).map fun k=>Ih t k a
def I3(t:AC):List a6:=(Ao t.d3.length).map (MQ t)
variable{t:AC}{a:Int}
theorem kW(hf:At t)(h:Fu t)(hv:(Ax t).2=0)(a0:0<=a)(a1:a<t.d3.length):Gf t a=some ((Ao t.d3.length).filter fun i=>Ih t i a,0):=by
 have e:=h.ei;unfold Gf;have d:Jb t a=true:=by simp[Jb,a0,a1]
 rw [VO hf,bs,az (by simp[hv,d])];rw[Bj (fun i=>(Ao i.toNat).filter fun i=>Ih t i a) (by omega) (by rfl),bs,Int.toNat_natCast]
 grind [fy,Fa,Ao,Ih,List.length_filter_le,A3,Ae,Ad]
variable{l:Fp}
theorem ls(r:∀x∈l,0<=x/\x<n):sr (fun(u:Int)(s2:a6)=>
  (idx l u).bind fun d=>
  (idx s2 d).bind fun _=>
  some (BH s2 d true)) 0 (l.length:Int) (List.replicate n false)=some ((Ao n).map fun k=>l.any fun x=>decide (x=k)):=by
 rw [Bj (fun j=>(Ao n).map fun k=>(l.take j.toNat).any fun x=>decide (x=k)) (by omega) (by
  refine List.ext_getElem (by simp[A3]) (fun j m y=>by simp))]
 .rw[Int.toNat_natCast,List.take_length]
 .intro j o m;have q:=r _ (AJ o m);rw[AD o m,bs,AD q.1 (by rw[ca,A3];exact q.2),bs,CF o m];congr 1;unfold BH;refine List.ext_getElem (by simp) (fun k z v=>?_);have w:k<n:=by simpa[A3]using v
  rw [List.getElem_set];have e:(Ao n)[k]'(by rw[A3];exact w)=(k:Int):=by simp[Ao]
  simp only[List.getElem_map,e,List.any_append,List.any_cons,List.any_nil,Bool.or_false];by_cases h:(AA l j).toNat=k
  .rw[ae h,decide_eq_true (show AA l j=(k:Int)by omega),Bool.or_true]
  .rw[az h,decide_eq_false (show¬AA l j=(k:Int)by omega),Bool.or_false]
theorem jD(hf:At t)(h:Fu t)(hv:(Ax t).2=0):Ez t=some (I3 t):=by
 have w:=h.ei;unfold Ez;rw[Bj (fun i=>(Ao i.toNat).map (MQ t)) (by omega) (by rfl),bs,Int.toNat_natCast]
 .rfl
 .intro i o r;have v:IQ (t.d3.length:Int) false=some (List.replicate t.d3.length false):=by
   unfold IQ;rw[ae (by omega),Int.toNat_natCast]
  rw [v,bs,kW hf h hv o r,bs];have:=ls (n:=t.d3.length) (l:=(Ao t.d3.length).filter fun k=>Ih t k i) (fun x j=>EU.1 (List.mem_filter.1 j).1);show(sr (fun(q:Int)(s2:a6)=>
   (idx ((Ao t.d3.length).filter fun k=>Ih t k i) q).bind fun d=>
   (idx s2 d).bind fun _=>
   some (BH s2 d true)) 0 (((Ao t.d3.length).filter fun k=>Ih t k i).length:Int) (List.replicate t.d3.length false)).bind _=_
  rw [this,bs,Ae (by rw[ca,A3];simp;unfold Ad;omega),bs,Fa o,List.map_append];congr 2;simp only[List.map_cons,List.map_nil];congr 1;unfold MQ;refine List.map_congr_left (fun k m=>?_);have m:=EU.1 m;rw[Bool.eq_iff_iff,List.any_eq_true];constructor
  .rintro⟨x,j,e⟩;rw[zzX]at e;subst e;exact(List.mem_filter.1 j).2
  .intro u;exact⟨k,List.mem_filter.2 ⟨EU.2 m,u⟩,by simp⟩
end Go.Sf.Sc
namespace Go.Sf.Sc
open Go Go.Sf
def F6:Nat->AI->List d6
 |0,f=>EB f.p.d5.length f|n+1,f=>(Ao f.g.d3.length).flatMap fun k=>if RY f k=true then F6 n {f with ei:=f.ei++[k]}else[]
def aD(f:AI)(i:Int):Prop:=0<=i/\i<f.p.d5.length/\0<=(AA f.p.d5 i).ns/\(AA f.p.d5 i).ns<f.ei.length/\0<=(AA f.p.d5 i).To/\(AA f.p.d5 i).To<f.ei.length/\∀k:Int,0<=k->k<f.g.d5.length->Jl f i k=false
theorem Tm(f:AI)(i k:Int):Jl f i k=((decide (PL.at_ f.gt.d5 i<0)||decide (PL.at_ f.gt.d5 i=k))&&decide (AA f.g.d5 k=⟨(AA f.p.d5 i).ne,AA f.ei (AA f.p.d5 i).ns,AA f.ei (AA f.p.d5 i).To⟩)):=rfl
variable{α:Type}{i:Int}
theorem XC[Inhabited α](l:List α)(x:α)(d:0<=i)(e:i<l.length):AA (l++[x]) i=AA l i:=by
 unfold AA
 grind
theorem cQ:∀(n:Nat)(f:AI)(i:Int),aD f i->(f.em.length:Int)<=i->i<f.em.length+n->EB n f=[]
 |0,f,i,_,e,h=>by omega|n+1,f,i,hd,e,h=>by
  rw [EB];refine List.flatMap_eq_nil_iff.2 (fun k d=>?_);have d:=EU.1 d;by_cases he:(f.em.length:Int)=i
  .have:RX f k=false:=by
    unfold RX;rw[he,hd.2.2.2.2.2.2 k d.1 d.2];rfl
   grind
  .split
   .exact cQ n {f with em:=f.em++[k]} i hd (by show((f.em++[k]).length:Int)<=i;rw[cE];simp;omega) (by show i<((f.em++[k]).length:Int)+n;rw[cE];simp;omega)
   .rfl
theorem XL:∀(n:Nat)(f:AI)(i:Int),f.em=[]->aD f i->F6 n f=[]
 |0,f,i,he,hd=>by
  rw [F6];exact cQ _ f i hd (by rw[he];simpa using hd.1) (by rw[he];simpa using hd.2.1)
 |n+1,f,i,he,hd=>by
  rw [F6];refine List.flatMap_eq_nil_iff.2 (fun k o=>?_);split
  .refine XL n {f with ei:=f.ei++[k]} i he ?_;obtain⟨d,e,h,v,m,w,x⟩:=hd;have u:((f.ei++[k]).length:Int)=f.ei.length+1:=by rw[cE];simp
   refine ⟨d,e,h,?_,m,?_,fun j q r=>?_⟩
   .grind
   .grind
   grind [Tm,AA,XC]
  .rfl
variable{f:AI}
theorem gB(hf:LR f)(h:Mu f=false):∃i,aD f i:=by
 unfold Mu at h;rw[Bool.not_eq_false',Dy]at h;obtain⟨i,d,e,h⟩:=h;rw[up,zzX,Bool.not_eq_true',Bc]at h;have he:=hf.ends _ (AJ d e);exact⟨i,d,e,he.1,by omega,he.2.2.1,by omega,h.2⟩
theorem cI:∀(n:Nat)(f:AI),LR f->f.em=[]->It n f=F6 n f
 |0,_,_,_=>rfl|n+1,f,hf,he=>by
  rw [It,F6];refine congrArg (fun F=>(Ao f.g.d3.length).flatMap F) (funext fun k=>?_);have d:LR {f with ei:=f.ei++[k]}:=⟨hf.pn,hf.pe,hf.ends,hf.kinds,hf.small⟩;cases RY f k
  .rfl
  .cases e:Mu {f with ei:=f.ei++[k]}
   .obtain⟨i,hd⟩:=gB d e
    grind [XL]
   .simp;exact cI n _ d he
end Go.Sf.Sc
namespace Go.Sf.Sc
open Go Go.Sf
variable{a b:Int}
theorem Oz{σ ρ:Type}{f:σ×Int->Option (Bp (σ×Int) ρ)}(g:Int->σ){s:σ}(d:a<=b)(e:s=g a)(h:∀i,a<=i->i<b->f (g i,i)=some (.next (g (i+1),i+1)))(j:f (g b,b)=some (.brk (g b,b))):ES f (s,a)=some (.inl (g b,b)):=by
 subst e;have key:∀(n:Nat)(i:Int),a<=i->i+n=b->LJ f (g i,i) (.inl (g b,b)):=by
  intro n
  induction n with
  |zero=>
   intro i _ hi;have:i=b:=by omega
   subst this;exact .brk j
  |succ n o=>
   intro i m q;exact .next (h i m (by omega)) (o (i+1) (by omega) (by omega))
 exact (key (b-a).toNat a (Int.le_refl _) (by omega)).eq
def HL(s:AY)(ei em:Fp):AI:=⟨s.p,s.g,I3 s.t,s.gt,s.ej,s.tl+1,ei,em,s.AaA⟩
def CH(s:AY)(l:List d6):AY:={s with AaA:=(s.AaA++l).take (s.tl+1).toNat}
structure Ty(s:AY):Prop where
 m0:0<=s.tl
 m1:s.tl<=9999
 out:(s.AaA.length:Int)<=s.tl+1
variable{s:AY}
theorem Nq(h:Ty s):CH s []=s:=by
 unfold CH;rw[List.append_nil,List.take_of_length_le (by have:=h.out;have:=h.m0;omega)]
theorem Ut(h:(s.AaA.length:Int)=s.tl+1)(l:List d6):CH s l=s:=by
 unfold CH;rw[List.take_append_of_le_length (by omega),List.take_of_length_le (by omega)]
theorem Uu(h:Ty s)(l:List d6):Ty (CH s l):=by
 refine ⟨h.m0,h.m1,?_⟩;have:=h.m0;show(((s.AaA++l).take (s.tl+1).toNat).length:Int)<=s.tl+1
 grind
theorem TF(s:AY)(a b:List d6):CH (CH s a) b=CH s (a++b):=by
 show ({s with AaA:=(((s.AaA++a).take (s.tl+1).toNat)++b).take (s.tl+1).toNat}:AY)=_;rw[WR,ci];rfl
variable{l:Fp}
theorem dh(s:AY)(j:l.length<=1000)(n:Int):Ce s l n=some (s.ej&&l.any fun x=>decide (n=x)):=by
 unfold Ce;cases s.ej
 .rw[S2 (fun _=>false) true (a:=0) (b:=0) (Int.le_refl _) (fun i h d=>by omega) (by rw[az (by simp)])];rfl
 .rw[S2 (fun i=>decide (AA l i=n)) true (a:=0) (b:=l.length) (by omega) (fun i h d=>by
   rw [ae (by simp;exact d),AD h d,bs,As (by omega) (by omega),Hx]) (by rw[az (by simp)])]
  have e:o4 (fun i=>decide (AA l i=n)) 0 l.length=l.any fun x=>decide (n=x):=by
   rw [Bool.eq_iff_iff,Dy,List.any_eq_true]
   grind [AJ,BW]
  rw [e,Bool.true_and];cases l.any fun x=>decide (n=x)<;>rfl
theorem WE:∀(n:Nat)(s:AY)(ei l:Fp),LR (HL s [] [])->Ty s->ei.length=s.p.d3.length->l.length+n=s.p.d5.length->∀m,n+1<=m->B9 m s ei l=some (CH s (EB n (HL s ei l)))
 |n,s,ei,l,hf,r,z,he,m,B=>by
  obtain ⟨m,rfl⟩:∃k,m=k+1:=⟨m-1,by omega⟩;have u:=hf.small;have R:s.p.d3.length<=1000:=u.1;have s2:s.p.d5.length<=1000:=u.2.1;have S:s.g.d3.length<=1000:=u.2.2.1;have T:s.g.d5.length<=1000:=u.2.2.2;have U:=r.m0;have V:=r.m1;have W:=r.out;rw[B9];by_cases v:(s.AaA.length:Int)=s.tl+1
  .grind[Ut]
  rw [az (by simp;omega)]
  match n,he,B with
  |0,he,B=>
   rw [ae (by simp;omega),BE (by unfold Ad;omega),bs,BE (by unfold Ad;omega),bs,Ae (by simp;unfold Ad;omega),bs];unfold CH;rw[List.take_of_length_le (by simp[EB];omega)];rfl
  |n+1,he,B=>
   have e:(0:Int)<=l.length:=by omega
   have q:(l.length:Int)<s.p.d5.length:=by omega
   have d:=hf.ends _ (AJ (l:=s.p.d5) e q);have H:(AA s.p.d5 l.length).ns<ei.length:=by rw[z];exact d.2.1
   have I:(AA s.p.d5 l.length).To<ei.length:=by rw[z];exact d.2.2.2
   have w:(l.length:Int)<s.gt.d5.length:=by
    have:s.gt.d5.length=s.p.d5.length:=hf.pe;omega
   rw [az (by simp;omega),AD e q,bs];rw[Oz (fun i=>CH s ((Ao i.toNat).flatMap fun k=>if RX (HL s ei l) k=true then EB n (HL s ei (l++[k]))else[])) (a:=0) (b:=(s.g.d5.length:Int)) (s:=s) (by omega) (Nq r).symm (fun i C D=>by
    have J:∀F,CH s ((Ao (i+1).toNat).flatMap F)=CH (CH s ((Ao i.toNat).flatMap F)) (F i):=by
     intro F;rw[TF,Fa C,List.flatMap_append];simp
    rw [J];generalize (Ao i.toNat).flatMap (fun k=>if RX (HL s ei l) k=true then EB n (HL s ei (l++[k]))else[])=L;have E:=Uu r L;rw[ae (by rw[zzX];exact D)];have K:idx (CH s L).g.d5 i=some (AA s.g.d5 i):=AD C D;have M:idx (CH s L).gt.d5 (l.length:Int)=some (AA s.gt.d5 l.length):=AD e w;have N:Ce (CH s L) l i=some (s.ej&&l.any fun x=>decide (i=x)):=dh (CH s L) (by omega) i;have key:((Ag [] l).bind fun h=>
      (Ag h [i]).bind fun j=>
      (B9 m (CH s L) ei j).bind fun o=>
      some (.next (o,Af (i+1)):Bp (AY×Int) AY))=some (.next (CH (CH s L) (EB n (HL s ei (l++[i]))),i+1)):=by
     have G:=WE n (CH s L) ei (l++[i]) ⟨hf.pn,hf.pe,hf.ends,hf.kinds,hf.small⟩ E z (by show(l++[i]).length+n=s.p.d5.length;rw[cE];simp;omega) m (by omega);have O:EB n (HL (CH s L) ei (l++[i]))=EB n (HL s ei (l++[i])):=Oc n (HL s ei (l++[i])) _;rw[O]at G;rw[BE (by unfold Ad;omega),bs,Ae (by simp;unfold Ad;omega),bs,G,bs,As (by omega) (by omega)]
    rw [K,bs,M,bs,N,key];simp only[bs];rw[AD d.1 H,AD d.2.2.1 I,As (n:=i+1) (by omega) (by omega)];simp only[bs];have y:RX (HL s ei l) i=(((decide (AA s.gt.d5 l.length<0)||decide (AA s.gt.d5 l.length=i))&&decide (AA s.g.d5 i=⟨(AA s.p.d5 l.length).ne,AA ei (AA s.p.d5 l.length).ns,AA ei (AA s.p.d5 l.length).To⟩))&&!(s.ej&&l.any fun x=>decide (i=x))):=rfl;have P:decide (AA s.g.d5 i=⟨(AA s.p.d5 l.length).ne,AA ei (AA s.p.d5 l.length).ns,AA ei (AA s.p.d5 l.length).To⟩)=(decide ((AA s.p.d5 l.length).ne=(AA s.g.d5 i).ne)&&decide ((AA s.g.d5 i).ns=AA ei (AA s.p.d5 l.length).ns)&&decide ((AA s.g.d5 i).To=AA ei (AA s.p.d5 l.length).To)):=by
     rw [Bool.eq_iff_iff];simp[zzX];generalize AA s.g.d5 i=x;obtain⟨x1,X,Y⟩:=x;simp;constructor
     .rintro⟨a,b,c⟩;exact⟨⟨a.symm,b⟩,c⟩
     .rintro⟨⟨a,b⟩,c⟩;exact⟨a.symm,b,c⟩
    have Q:(decide (AA s.gt.d5 l.length<0)||decide (AA s.gt.d5 l.length=i))=!(decide (0<=AA s.gt.d5 l.length)&&!decide (AA s.gt.d5 l.length=i)):=by
     rw [Bool.not_and,Bool.not_not];congr 1;rw[<-decide_not];exact decide_eq_decide.2 (by omega)
    rw [y,P,Q];generalize EB n (HL s ei (l++[i]))=A;generalize decide (0<=AA s.gt.d5 l.length)=c1;generalize decide (AA s.gt.d5 l.length=i)=c2;generalize decide ((AA s.p.d5 l.length).ne=(AA s.g.d5 i).ne)=c3;generalize decide ((AA s.g.d5 i).ns=AA ei (AA s.p.d5 l.length).ns)=c4;generalize decide ((AA s.g.d5 i).To=AA ei (AA s.p.d5 l.length).To)=c5;generalize (s.ej&&l.any fun x=>decide (i=x))=c6;cases c1<;>cases c2<;>cases c3<;>cases c4<;>cases c5<;>cases c6<;>first|rfl|(simp[Nq E];try rfl)) (by rw[az (by simp[CH])]),Bh,Int.toNat_natCast,EB]
   rfl
end Go.Sf.Sc
namespace Go.Sf.Sc
open Go Go.Sf
def RL(s:AY)(l:Fp)(i k:Int):Bool:=decide (AA s.g.d5 k=⟨(AA s.p.d5 i).ne,AA l (AA s.p.d5 i).ns,AA l (AA s.p.d5 i).To⟩)
def QU(s:AY)(l:Fp)(i:Int):Bool:=(decide ((AA s.p.d5 i).ns<l.length)&&decide ((AA s.p.d5 i).To<l.length))&&!(Ao s.g.d5.length).any (RL s l i)
variable{s:AY}{l:Fp}
theorem oB(hf:LR (HL s [] [])):Et s l=some (!o4 (QU s l) 0 s.p.d5.length):=by
 unfold Et;rw[BL (QU s l) false]
 .cases o4 (QU s l) 0 s.p.d5.length<;>rfl
 .intro i d e _;have he:=hf.ends _ (AJ (l:=s.p.d5) d e);rw[AD d e,bs];unfold QU;by_cases j:(AA s.p.d5 i).ns<l.length
  .by_cases m:(AA s.p.d5 i).To<l.length
   .rw[az (by simp;omega),Bj (fun k=>(Ao k.toNat).any (RL s l i)) (by omega) (by rfl),bs,Int.toNat_natCast,decide_eq_true j,decide_eq_true m]
    .grind
    .intro k h o;rw[AD h o,bs,Fa h,List.any_append];have q:RL s l i k=(decide ((AA s.p.d5 i).ne=(AA s.g.d5 k).ne)&&decide ((AA s.g.d5 k).ns=AA l (AA s.p.d5 i).ns)&&decide ((AA s.g.d5 k).To=AA l (AA s.p.d5 i).To)):=by
      unfold RL;rw[Bool.eq_iff_iff];simp[zzX];generalize AA s.g.d5 k=x;obtain⟨x1,r,u⟩:=x;simp;constructor
      .rintro⟨a,b,c⟩;exact⟨⟨a.symm,b⟩,c⟩
      .rintro⟨⟨a,b⟩,c⟩;exact⟨a.symm,b,c⟩
     rw [AD he.1 j,AD he.2.2.1 m];simp only[List.any_cons,List.any_nil,Bool.or_false,bs];rw[q];generalize (Ao k.toNat).any (RL s l i)=c1;generalize decide ((AA s.p.d5 i).ne=(AA s.g.d5 k).ne)=c3;generalize decide ((AA s.g.d5 k).ns=AA l (AA s.p.d5 i).ns)=c4;generalize decide ((AA s.g.d5 k).To=AA l (AA s.p.d5 i).To)=c5;cases c1<;>cases c3<;>cases c4<;>cases c5<;>rfl
   grind
  grind
theorem n8(hf:LR (HL s [] []))(h:o4 (QU s l) 0 s.p.d5.length=true):∃i,aD (HL s l []) i:=by
 rw [Dy]at h;obtain⟨i,d,j,h⟩:=h;unfold QU at h;rw[up,up,zzX,zzX,Bool.not_eq_true',List.any_eq_false]at h;have he:=hf.ends _ (AJ (l:=s.p.d5) d j);refine⟨i,d,j,he.1,h.1.1,he.2.2.1,h.1.2,fun k m o=>?_⟩;have:=h.2 k (EU.2 ⟨m,o⟩);have e:RL s l i k=false:=by rw[<-Bool.not_eq_true];exact this
 rw [Tm];show((decide (AA s.gt.d5 i<0)||decide (AA s.gt.d5 i=k))&&RL s l i k)=false;rw[e,Bool.and_false]
end Go.Sf.Sc
namespace Go.Sf.Sc
open Go Go.Sf
theorem W9:∀(n:Nat)(f:AI)(o:List d6),F6 n (RH f o)=F6 n f
 |0,f,o=>Oc _ f o|n+1,f,o=>by
  rw [F6,F6];refine congrArg (fun F=>(Ao f.g.d3.length).flatMap F) (funext fun k=>?_);have:=W9 n {f with ei:=f.ei++[k]} o
  grind [RY,F6,RH]
theorem WG:∀(n:Nat)(s:AY)(l:Fp),Fu s.t->LR (HL s [] [])->Ty s->l.length+n=s.p.d3.length->∀m,n+1<=m->CA m s l=some (CH s (F6 n (HL s l [])))
 |n,s,l,P,hf,r,K,m,z=>by
  obtain ⟨m,rfl⟩:∃k,m=k+1:=⟨m-1,by omega⟩;have M:=hf.small;have Z:s.p.d3.length<=1000:=M.1;have s3:s.g.d3.length<=1000:=M.2.2.1;have h0:=r.m0;have h1:=r.m1;have h2:=r.out;rw[CA];by_cases E:(s.AaA.length:Int)=s.tl+1
  .grind[Ut]
  rw [az (by simp;omega),oB hf];cases hd:o4 (QU s l) 0 s.p.d5.length
  case true=>
   grind [n8,XL,HL,Nq]
  simp only[bs,Bool.not_false,Bool.not_true,Bool.false_eq_true,if_false]
  match n,K,z with
  |0,K,z=>
   rw [ae (by simp;omega),Option.bind_fun_some,F6];exact EG (s.p.d5.length+1) fun m z=>WE s.p.d5.length s l [] hf r (by omega) (by simp) m (by omega)
  |n+1,K,z=>
   have w:(l.length:Int)<s.p.d3.length:=by omega
   have o:(0:Int)<=l.length:=by omega
   have G:(l.length:Int)<s.gt.d3.length:=by
    have:s.gt.d3.length=s.p.d3.length:=hf.pn;omega
   have Q:(I3 s.t).length=s.t.d3.length:=by unfold I3;rw[ca,A3]
   have d:=hf.kinds _ (AJ (l:=s.p.d3) o w);have H:AA s.p.d3 l.length<s.t.d3.length:=by rw[<-Q];exact d.2.1
   have j:AA (I3 s.t) (AA s.p.d3 l.length)=MQ s.t (AA s.p.d3 l.length):=HI (MQ s.t) d.1 H;rw[az (by simp;omega)];rw[Oz (fun i=>CH s ((Ao i.toNat).flatMap fun k=>if RY (HL s l []) k=true then F6 n (HL s (l++[k]) [])else[])) (a:=0) (b:=(s.g.d3.length:Int)) (s:=s) (by omega) (Nq r).symm (fun i B C=>by
    have R:∀F,CH s ((Ao (i+1).toNat).flatMap F)=CH (CH s ((Ao i.toNat).flatMap F)) (F i):=by
     intro F;rw[TF,Fa B,List.flatMap_append];simp
    rw [R];generalize (Ao i.toNat).flatMap (fun k=>if RY (HL s l []) k=true then F6 n (HL s (l++[k]) [])else[])=L;have N:=Uu r L;rw[ae (by rw[zzX];exact C)];have q:=d.2.2 _ (AJ (l:=s.g.d3) B C);have y:AA s.g.d3 i<s.t.d3.length:=by
     have h:=q.2;have e:AA (HL s [] []).is (AA s.p.d3 l.length)=MQ s.t (AA s.p.d3 l.length):=j;rw[e]at h;unfold MQ at h
     rwa [ca,A3]at h
    have I:Gq (CH s L).t (AA s.g.d3 i) (AA s.p.d3 l.length)=some (Ih s.t (AA s.g.d3 i) (AA s.p.d3 l.length)):=Sx P q.1 y d.1;have S:idx (CH s L).g.d3 i=some (AA s.g.d3 i):=AD B C;have T:idx (CH s L).gt.d3 (l.length:Int)=some (AA s.gt.d3 l.length):=AD o G;have U:Ce (CH s L) l i=some (s.ej&&l.any fun x=>decide (i=x)):=dh (CH s L) (by omega) i;have V:idx (CH s L).p.d3 (l.length:Int)=some (AA s.p.d3 l.length):=AD o w;have key:((Ag [] l).bind fun D=>
      (Ag D [i]).bind fun u=>
      (CA m (CH s L) u).bind fun v=>
      some (.next (v,Af (i+1)):Bp (AY×Int) AY))=some (.next (CH (CH s L) (F6 n (HL s (l++[i]) [])),i+1)):=by
     have O:=WG n (CH s L) (l++[i]) P ⟨hf.pn,hf.pe,hf.ends,hf.kinds,hf.small⟩ N (by show(l++[i]).length+n=s.p.d3.length;rw[cE];simp;omega) m (by omega);have W:F6 n (HL (CH s L) (l++[i]) [])=F6 n (HL s (l++[i]) []):=W9 n (HL s (l++[i]) []) _;rw[W]at O;rw[BE (by unfold Ad;omega),bs,Ae (by simp;unfold Ad;omega),bs,O,bs,As (by omega) (by omega)]
    rw [T,bs,U,S,V,key];simp only[bs];rw[I,As (n:=i+1) (by omega) (by omega)];simp only[bs];have J:RY (HL s l []) i=((decide (AA s.gt.d3 l.length<0)||decide (AA s.gt.d3 l.length=i))&&AA (AA (I3 s.t) (AA s.p.d3 l.length)) (AA s.g.d3 i)&&!(s.ej&&l.any fun x=>decide (i=x))):=rfl;have X:AA (AA (I3 s.t) (AA s.p.d3 l.length)) (AA s.g.d3 i)=Ih s.t (AA s.g.d3 i) (AA s.p.d3 l.length):=by
     rw [j];exact HI (fun k=>Ih s.t k (AA s.p.d3 l.length)) q.1 y
    have Y:(decide (AA s.gt.d3 l.length<0)||decide (AA s.gt.d3 l.length=i))=!(decide (0<=AA s.gt.d3 l.length)&&!decide (AA s.gt.d3 l.length=i)):=by
     rw [Bool.not_and,Bool.not_not];congr 1;rw[<-decide_not];exact decide_eq_decide.2 (by omega)
    rw [J,X,Y];generalize F6 n (HL s (l++[i]) [])=A;generalize decide (0<=AA s.gt.d3 l.length)=c1;generalize decide (AA s.gt.d3 l.length=i)=c2;generalize Ih s.t (AA s.g.d3 i) (AA s.p.d3 l.length)=c3;generalize (s.ej&&l.any fun x=>decide (i=x))=c6;cases c1<;>cases c2<;>cases c3<;>cases c6<;>first|rfl|(simp[Nq N];try rfl)) (by rw[az (by simp[CH])]),Bh,Int.toNat_natCast,F6]
   rfl
end Go.Sf.Sc
namespace Go.Sf.Sc
open Go Go.Sf
def FF(t:AC)(p g:d4)(pa:d6)(inj:Bool):AI:=⟨p,g,I3 t,pa,inj,5001,[],[],[]⟩
def NY(t:AC)(p g:d4)(pa:d6)(inj:Bool):List d6:=(F6 p.d3.length (FF t p g pa inj)).take 5001
variable{t:AC}{p g:d4}{pa:d6}{inj:Bool}
theorem ke(j:At t)(hv:(Ax t).2=0)(d:LR (FF t p g pa inj)):Fm t p g pa inj 5001=some (NY t p g pa inj):=by
 unfold Fm;rw[jD j (DG hv) hv,bs];have h:=na (f:=FF t p g pa inj) d ⟨by show(0:Int)<=5001;omega,by show(5001:Int)<=10000;omega,by show((0:Nat):Int)<=5001;omega⟩ rfl rfl;rw[cI _ _ d rfl]at h;have e:AI.mk p g (I3 t) pa inj 5001 [] [] []=FF t p g pa inj:=rfl;rw[e,h];rfl
theorem sA(hv:(Ax t).2=0)(d:LR (FF t p g pa inj)):Nl t p g pa inj 5000=some (NY t p g pa inj):=by
 unfold Nl;have h:IJ ⟨t,p,g,pa,inj,5000,[]⟩ []=some (CH ⟨t,p,g,pa,inj,5000,[]⟩ (F6 p.d3.length (FF t p g pa inj))):=
  EG (p.d3.length+1) fun m e=>WG p.d3.length ⟨t,p,g,pa,inj,5000,[]⟩ [] (DG hv) d ⟨by show(0:Int)<=5000;omega,by show(5000:Int)<=9999;omega,by show((0:Nat):Int)<=5000+1;omega⟩ (by show 0+p.d3.length=p.d3.length;omega) m e
 rw [h];rfl
end Go.Sf.Sc
namespace Go.Sf.Sc
open Go Go.Sf
def TM(n k:Int):Bool:=decide (k< -1)||decide (n<=k)
def PJ(l:Fp)(n:Int):Int:=if l.any (TM n)=true then 6 else 0
theorem dG(l:Fp)(n:Int):FZ l n=some (PJ l n):=by grind[FZ,PJ,LE,TM,Rt]
variable{l:Fp}
theorem YH{c:Int}(n:Int)(h:(l.length:Int)=c):IZ l c n=some (PJ l n):=by
 unfold IZ PJ;rw[az (by simp[h]),BL (fun i=>TM n (AA l i)) 6]
 .have e:o4 (fun i=>TM n (AA l i)) 0 l.length=l.any (TM n):=by
   rw [Bool.eq_iff_iff,Dy,List.any_eq_true]
   grind [AJ,BW]
  rw [e];cases l.any (TM n)<;>rfl
 grind [AD,TM,AA]
end Go.Sf.Sc
namespace Go.Sf.Sc
open Go Go.Sf
theorem X7(t:AC)(g:d4):EP t g=some (Cl t g):=by grind[EP,Cl,Jj,Rt,Jk,ZH]
def Fc(t:AC)(p g:d4):Int:=if(Ax t).2≠0 then(Ax t).2 else if Bk p≠0 then Bk p else if Bk g≠0 then Bk g else if(Cl t p&&Cl t g)=true then 0 else 13
variable{t:AC}
theorem VP(hf:At t)(p g:d4):Di t p g=some (Fc t p g):=by
 unfold Di Fc;rw[Mt hf,bs];refine DX fun _=>?_;have o:kl (ρ:=Int) (fun(m:Int)(_:Unit)=>
   (idx [p,g] m).bind fun j=>
   (CY j).bind fun h=>
   if (!decide (h=0))=true then
   some (.ret h)
   else
   some (.next ())) 0 ([p,g].length:Int) ()=some (if Bk p≠0 then .inr (Bk p)else if Bk g≠0 then .inr (Bk g)else .inl ()):=by
  show Aae _ 2 0 ()=_;rw[FU,show idx [p,g] 0=some p from rfl,bs,KI,bs];by_cases d:Bk p=0
  .rw[az (by simp[d]),az (by simp[d])];show Aae _ 1 (0+1) ()=_;rw[FU,show idx [p,g] (0+1)=some g from rfl,bs,KI,bs];by_cases e:Bk g=0
   .rw[az (by simp[e]),az (by simp[e])];rfl
   .rw[ae (by simp[e]),ae e]
  .rw[ae (by simp[d]),ae d]
 rw [o];by_cases d:Bk p=0
 .by_cases e:Bk g=0
  .simp[d,e,Bh];rw[X7,X7,bs];cases Cl t p<;>cases Cl t g<;>rfl
  .simp[d,e,not_false_eq_true,PV]
 .simp[d,not_false_eq_true,PV]
theorem Td(hf:At t)(p g:d4):H3 t p g=some (Fc t p g):=by
 unfold H3 Fc;rw[OU hf,bs];refine DX fun _=>?_;rw[Lc,bs];refine DX fun d=>?_;rw[Lc,bs];refine DX fun e=>?_
 grind [VS,Cp,Cl]
end Go.Sf.Sc
namespace Go.Sf.Sc
open Go Go.Sf
variable{t:AC}{p g:d4}{pa:d6}{inj:Bool}
theorem XP(h:Fc t p g=0)(r:pa.d3.length=p.d3.length)(u:pa.d5.length=p.d5.length):(Ax t).2=0/\LR (FF t p g pa inj):=by
 unfold Fc at h;by_cases hv:(Ax t).2=0
 .rw[az (by simp[hv])]at h;by_cases o:Bk p=0
  .rw[az (by simp[o])]at h;by_cases q:Bk g=0
   .rw[az (by simp[q])]at h;by_cases d:(Cl t p&&Cl t g)=true
    .rw[up]at d;have op:=Cp o;have m:=Cp q;have tp:=H7 op d.1;have w:=H7 m d.2;have x:(I3 t).length=t.d3.length:=by unfold I3;rw[ca,A3]
     refine ⟨hv,r,u,fun e he=>?_,fun n v=>?_,Nat.le_trans op.ei (by omega),Nat.le_trans op.em (by omega),Nat.le_trans m.ei (by omega),Nat.le_trans m.em (by omega)⟩
     .have:=op.fit e he;exact⟨this.2.1.1,this.2.1.2,this.2.2.1,this.2.2.2⟩
     .have:=tp.1 n v;refine⟨this.1,by show n<((I3 t).length:Int);rw[x];exact this.2,fun k j=>?_⟩;have j:=w.1 k j;refine⟨j.1,?_⟩;show k<((AA (I3 t) n).length:Int)
      grind [I3,HI,MQ,ca,A3]
    grind
   grind
  grind
 grind
def Qx(t:AC)(p g:d4)(pa:d6)(inj:Bool):List d6×Int:=
 if Fc t p g≠0 then([],Fc t p g)else if¬(pa.d3.length=p.d3.length/\pa.d5.length=p.d5.length)then([],20)else
 if PJ pa.d3 g.d3.length≠0 then([],PJ pa.d3 g.d3.length)else if PJ pa.d5 g.d5.length≠0 then([],PJ pa.d5 g.d5.length)else
 if 5000<(NY t p g pa inj).length then([],3)else(NY t p g pa inj,0)
theorem fw(hf:At t)(p g:d4)(pa:d6)(inj:Bool):FB t p g pa inj=some (Qx t p g pa inj):=by
 unfold FB Qx;rw[VP hf,bs];refine Dp fun e=>?_;refine Kc (by simp[Bool.not_eq_true',decide_eq_false_iff_not];omega) fun d=>?_;have d:=Classical.not_not.1 d;rw[dG,bs];refine Dp fun h=>?_;rw[dG,bs];refine Dp fun j=>?_
 grind [XP,Hk,ke,NY]
theorem gF(hf:At t)(p g:d4)(pa:d6)(inj:Bool):J0 t p g pa inj=some (Qx t p g pa inj):=by
 unfold J0 Qx;rw[Td hf,bs];refine Dp fun e=>?_;refine Kc (by simp[Bool.not_eq_true',decide_eq_false_iff_not];omega) fun d=>?_;have d:=Classical.not_not.1 d;rw[YH _ (by omega),bs];refine Dp fun h=>?_;rw[YH _ (by omega),bs];refine Dp fun j=>?_
 grind [XP,sA,NY]
end Go.Sf.Sc
