/- Plain lemmas: what the functions of the program and of the reference compute. -/
import Derived.Test.YtbgedoajacpdbaaGreatDoorP1
import Derived.Test.YtbgedoajacpdbaaGreatDoorEval
set_option linter.all false
set_option maxRecDepth 100000
namespace Go.Sf.Sc
open Go Go.Sf
variable{t:AC}{c:d7}
theorem kJ(hf:At t)(p:ec)(e:DU c):Cf t p c=some (Ll t p c):=by
 by_cases d:(Ax t).2=0
 .exact cj hf d p e
 .unfold Cf Ll;rw[UY hf,bs];refine DW fun h=>?_;exfalso;unfold G2 at h;rw[ae d]at h;exact d h
end Go.Sf.Sc
namespace Go.Sf.Sc
open Go Go.Sf
variable{α:Type}
theorem lU[Inhabited α](b:α->α->Bool){l m:List α}(j:∀x∈l,∀y∈m,(b x y=true↔x=y))(o:l.length=m.length):og (fun i=>!b (AA l i) (AA m i)) 0 l.length=false↔l=m:=by
 rw [Bi];constructor
 .intro h;refine bw o (fun i d e=>?_);have:=h i d e;rw[Bool.not_eq_false']at this;exact(j _ (AK d e) _ (AK d (by omega))).1 this
 .rintro rfl i d e;rw[Bool.not_eq_false'];exact(j _ (AK d e) _ (AK d e)).2 rfl
theorem jm[Inhabited α][DecidableEq α]{l m:List α}(r:l.length=m.length){k:Unit->K1}{j:Bool->K1}:fq (kl (ρ:=Bool) (fun(o:Int)(_:Unit)=>
 (idx l o).bind fun d=>
 (idx m o).bind fun e=>
 if (!decide (d=e))=true then
 some (.ret false)
 else
 some (.next ())) 0 (l.length:Int) ()) k j=if l=m then k ()else j false:=by
 rw [BP (fun i=>!decide (AA l i=AA m i)) false]
 .have:=lU (fun x y:α=>decide (x=y)) (l:=l) (m:=m) (fun _ _ _ _=>decide_eq_true_iff) r;by_cases h:l=m
  .rw[this.2 h,ae h];rfl
  .rw[az h];cases v:og (fun i=>!decide (AA l i=AA m i)) 0 l.length
   .exact absurd (this.1 v) h
   .rfl
 .intro i q u _;rw[AD q u,bs,AD q (by omega),bs,Hs]
theorem U0[Inhabited α][DecidableEq α](l m:List α):(if(!decide ((l.length:Int)=(m.length:Int)))=true then
 some false
 else
 fq (kl (ρ:=Bool) (fun(q:Int)(_:Unit)=>
 (idx l q).bind fun d=>
 (idx m q).bind fun j=>
 if (!decide (d=j))=true then
 some (.ret false)
 else
 some (.next ())) 0 (l.length:Int) ()) (fun _=>
 some true) (fun r=>some r))=some (decide (l=m)):=by
 by_cases o:l.length=m.length
 .rw[az (by simp[o]),jm o];by_cases h:l=m
  .rw[ae h,decide_eq_true h]
  .rw[az h,decide_eq_false h]
 .rw[ae (by simp;omega),decide_eq_false (fun e=>o (by rw[e]))]
theorem il(l m:Fp):slices_Equal_int l m=some (decide (l=m)):=U0 l m
theorem Za(l m:Fp):Gd l m=some (decide (l=m)):=U0 l m
theorem Zb(l m:Fp):KE l m=some (decide (l=m)):=U0 l m
end Go.Sf.Sc
namespace Go.Sf.Sc
open Go Go.Sf
mutual
def EN:d7->Nat
 |⟨_,kids,_,_⟩=>1+PT kids
def PT:List d7->Nat
 |[]=>0|k::l=>EN k+PT l
end
mutual
def ua:d7->Nat
 |⟨k,kids,_,_⟩=>(if k=5 then 1 else 0)+md kids
def md:List d7->Nat
 |[]=>0|k::l=>max (ua k) (md l)
end
theorem Ri(c:d7):EN c=1+PT c.gt:=by cases c;rfl
variable{k:Int}
theorem jk{l:List d7}(d:0<=k)(e:k<l.length):l.drop k.toNat=AA l k::l.drop (k+1).toNat:=by
 rw [show(k+1).toNat=k.toNat+1 by omega,List.drop_eq_getElem_cons (by omega)];unfold AA;rw[List.getD_eq_getElem?_getD,List.getElem?_eq_getElem (by omega)];rfl
theorem VT:∀(N:Nat)(c:d7),SizeOf.sizeOf c<=N->(AJ c).Sm->∀up:Int,0<=up->up<=1000->∃r,(∀n,N<=n->CX n c up=some r)/\-1<=r/\r<=up-1/\(0<=r->DU c/\(EN c:Int)+r<=up)
 |0,c,h,_,_,_,_=>by have:=D4 c;omega|N+1,c,h,X,up,m0,m1=>by
  obtain ⟨O,P,D⟩:=ZA X;obtain⟨Q,z,R⟩:=Pn c.ec;obtain⟨S,F,T⟩:=U2 O;have step:∀n,N+1<=n->∃m,n=m+1/\N<=m:=fun n d=>⟨n-1,by omega,by omega⟩;cases Q
  .refine⟨-1,fun n d=>?_,by omega,by omega,fun h=>by omega⟩;obtain⟨n,rfl,_⟩:=step n d;rw[CX,z];rfl
  cases S
  .refine⟨-1,fun n d=>?_,by omega,by omega,fun h=>by omega⟩;obtain⟨n,rfl,_⟩:=step n d;rw[CX,z,bs,F];rfl
  have loop:∀(m:Nat)(k left:Int),0<=k->k+m=c.gt.length->-1<=left->left<=1000->∃e w,(∀n,N<=n->LC (ρ:=Int) (fun(q:Int×Int)=>
    if ((decide (q.2<(c.gt.length:Int)))&&(decide (0<=q.1)))=true then
    (idx c.gt q.2).bind fun A=>
    (CX n A q.1).bind fun B=>
    some (.next (B,Ae (q.2+1)))
    else
    some (.brk (q.1,q.2))) (left,k) (.inl (e,w)))/\-1<=e/\e<=left/\(0<=e->(∀j,k<=j->j<c.gt.length->DU (AA c.gt j))/\(PT (c.gt.drop k.toNat):Int)+e<=left):=by
   intro m
   induction m with
   |zero=>
    intro k left y K E l1;refine⟨left,k,fun n d=>.brk ?_,E,by omega,fun _=>⟨fun j C x=>by omega,?_⟩⟩
    .rw[az (by simp;omega)]
    .rw[List.drop_of_length_le (by omega),PT];omega
   |succ m W=>
    intro k left y K E l1;by_cases L:0<=left
    .have o:=AK (l:=c.gt) y (by omega);have:=Ey o;obtain⟨r,U,V,Y,I⟩:=VT N _ (by omega) (D _ o) left L l1;obtain⟨e,w,a1,G,J,v⟩:=W (k+1) r (by omega) (by omega) V (by omega);refine⟨e,w,fun n d=>.next (s':=(r,k+1)) ?_ (a1 n d),G,by omega,fun u=>⟨fun j C x=>?_,?_⟩⟩
     .rw[ae (by simp;omega),AD y (by omega),bs,U n d,bs,As (by omega) (by omega)]
     .by_cases M:j=k
      .subst M;exact(I (by omega)).1
      .exact(v u).1 j (by omega) x
     .have z:=(I (by omega)).2;have F:=(v u).2;rw[jk y (by omega),PT];omega
    .refine⟨left,k,fun n d=>.brk ?_,E,by omega,fun h=>by omega⟩;rw[az (by simp;omega)]
  obtain ⟨e,w,a1,G,J,v⟩:=loop c.gt.length 0 (up-1) (by omega) (by omega) (by omega) (by omega);refine⟨e,fun n d=>?_,G,J,fun u=>⟨.mk c (R rfl) (T rfl) (fun k D=>?_),?_⟩⟩
  .obtain⟨n,rfl,H⟩:=step n d;rw[CX,z,bs,F];simp only[bs,Bool.not_true,Bool.false_eq_true,if_false];rw[As (n:=up-1) (by omega) (by omega),(a1 n H).eq,Bh]
  .obtain⟨j,C,x,rfl⟩:=BV D;exact(v u).1 j C x
  .have:=(v u).2;rw[show(0:Int).toNat=0 from rfl,List.drop_zero]at this;rw[Ri];omega
variable{c:d7}
theorem cF(d:(AJ c).Sm):∃b,Ib c=some b/\(b=true->DU c/\EN c<=40):=by
 obtain ⟨r,j,_,_,m⟩:=VT (SizeOf.sizeOf c) c (bk _) d 40 (by omega) (by omega);have e:OC c 40=some r:=EC (SizeOf.sizeOf c) j;unfold Ib;rw[e];exact⟨_,rfl,fun h=>by have:=m (by simpa using h);exact⟨this.1,by have:=this.2;simp at h;omega⟩⟩
theorem TE:∀{l:List d7}{k:d7},k∈l->EN k<=PT l
 |x::l,k,h=>by
  rw [PT];rcases List.mem_cons.1 h with rfl|h
  .omega
  .have:=TE h;omega
end Go.Sf.Sc
namespace Go.Sf.Sc
open Go Go.Sf
class PL(α:Type)where
 at_:α->Int->Int
 ok:α->Nat->Prop
instance:PL Fp:=⟨AA,fun l n=>l.length=n⟩
instance:PL (Option Fp):=⟨fun o i=>match o with|none=>-1|some l=>AA l i,fun o n=>match o with|none=>True|some l=>l.length=n⟩
structure LJ(f:AI):Prop where
 pn:PL.ok f.gp.d3 f.p.d3.length
 pe:PL.ok f.gp.d4 f.p.d4.length
 ends:∀e∈f.p.d4,0≤e.ne/\e.ne<f.p.d3.length/\0≤e.To/\e.To<f.p.d3.length
 kinds:∀n∈f.p.d3,0<=n/\n<f.is.length/\∀t∈f.g.d3,0<=t/\t<(AA f.is n).length
 small:f.p.d3.length<=1000/\f.p.d4.length<=1000/\f.g.d3.length<=1000/\f.g.d4.length<=1000
def Jf(f:AI)(i k:Int):Bool:=
 (decide (PL.at_ f.gp.d4 i<0)||decide (PL.at_ f.gp.d4 i=k))&&decide (AA f.g.d4 k=⟨(AA f.p.d4 i).mo,AA f.ei (AA f.p.d4 i).ne,AA f.ei (AA f.p.d4 i).To⟩)
variable{α:Type}
theorem cZ{l:List α}(h:l≠[]):TL l=some ():=by grind[TL]
variable{l:Fp}{i:Int}
theorem UD(e:0<=i)(d:i<l.length):((TL l).bind fun _=>(idx l i).bind fun x=>some x)=some (AA l i):=by
 rw [cZ (by intro h;subst h;simp at d;omega),bs,AD e d,bs]
variable{n:Nat}
theorem XR:∀{l},PL.ok l n->0<=i->i<n->J3 l i=some (PL.at_ l i):=by
 intro l h d e
 first
  |(cases l with
    |none=>rfl|some l=>exact UD d (by have:l.length=n:=h;omega))
  |exact UD d (by have:l.length=n:=h;omega)
variable{f:AI}{k:Int}
theorem cw(hf:LJ f)(d:0<=i)(e:i<f.p.d4.length)(h:0<=k)(j:k<f.g.d4.length)(m:(AA f.p.d4 i).ne<f.ei.length)(o:(AA f.p.d4 i).To<f.ei.length):DV f i k=some (Jf f i k):=by
 have he:=hf.ends _ (AK d e);unfold DV Jf;rw[AD d e,bs,XR hf.pe d e,bs,AD h j,bs,AD he.1 m,bs,AD he.2.2.1 o,bs]
 grind
def Mp(f:AI):Bool:=!og (fun i=>decide (max (AA f.p.d4 i).ne (AA f.p.d4 i).To=(f.ei.length:Int)-1)&&!og (fun k=>Jf f i k) 0 f.g.d4.length) 0 f.p.d4.length
variable{b:Int}
theorem jZ{f:Int->Bool->Option (Bp Bool Bool)}(p:Int->Bool)(h:∀i,0<=i->i<b->f i false=some (if p i=true then .brk true else .next false)):kl f 0 b false=some (.inl (og p 0 b)):=by
 have key:∀(m:Nat)(i:Int),0<=i->i+m=b->Aae f m i false=some (.inl (og p i b)):=by
  intro m
  induction m with
  |zero=>
   intro i d hi;have:og p i b=false:=by rw[Bi];intro j q r;omega
   rw [this];rfl
  |succ m v=>
   intro i d hi;rw[FP,h i d (by omega)];by_cases o:p i=true
   .have:og p i b=true:=by rw[Dv];exact⟨i,Int.le_refl _,by omega,o⟩
    rw [ae o,this]
   .have e:og p i b=og p (i+1) b:=by
     rw [Bool.eq_iff_iff,Dv,Dv]
     grind
    grind
 unfold kl;by_cases u:0<=b
 .grind
 .have:og p 0 b=false:=by rw[Bi];intro j q r;omega
  rw [this,show(b-0).toNat=0 by omega];rfl
theorem aq(hf:LJ f)(q:0<f.ei.length)(j:f.ei.length<=1000):B2 f=some (Mp f):=by
 unfold B2 Mp;rw[BP (fun i=>decide (max (AA f.p.d4 i).ne (AA f.p.d4 i).To=(f.ei.length:Int)-1)&&!og (fun k=>Jf f i k) 0 f.g.d4.length) false]
 .generalize og (fun i=>decide (max (AA f.p.d4 i).ne (AA f.p.d4 i).To=(f.ei.length:Int)-1)&&!og (fun k=>Jf f i k) 0 f.g.d4.length) 0 f.p.d4.length=b;cases b<;>rfl
 .intro i d e _;rw[AD d e,bs,As (n:=(f.ei.length:Int)-1) (by omega) (by omega)];by_cases h:max (AA f.p.d4 i).ne (AA f.p.d4 i).To=(f.ei.length:Int)-1
  .rw[az (by simp[h]),jZ (fun k=>Jf f i k) (fun k m o=>by
    rw [cw hf d e m o (by omega) (by omega),bs,Hs])]
   generalize og (fun k=>Jf f i k) 0 f.g.d4.length=b;rw[decide_eq_true h];cases b<;>rfl
  grind
def Ao(n:Nat):Fp:=(List.range n).map Int.ofNat
theorem SN(n:Nat):Ao (n+1)=Ao n++[(n:Int)]:=by grind[Ao,List.range_succ]
def Qx(f:AI)(k:Int):Bool:=(decide (PL.at_ f.gp.d3 f.ei.length<0)||decide (PL.at_ f.gp.d3 f.ei.length=k))&&AA (AA f.is (AA f.p.d3 f.ei.length)) (AA f.g.d3 k)&&!(f.ej&&f.ei.any fun x=>decide (k=x))
def Qw(f:AI)(k:Int):Bool:=Jf f f.em.length k&&!(f.ej&&f.em.any fun x=>decide (k=x))
def D7:Nat->AI->List d6
 |0,f=>[⟨f.ei,f.em⟩]|n+1,f=>(Ao f.g.d4.length).flatMap fun k=>if Qw f k=true then D7 n {f with em:=f.em++[k]}else[]
def Ij:Nat->AI->List d6
 |0,f=>D7 f.p.d4.length f|n+1,f=>(Ao f.g.d3.length).flatMap fun k=>if(Qx f k&&Mp {f with ei:=f.ei++[k]})=true then Ij n {f with ei:=f.ei++[k]}else[]
theorem WC(a b:List α)(m:Nat):((a.take m)++b).take m=(a++b).take m:=by
 by_cases h:a.length<=m
 .rw[List.take_of_length_le h]
 grind
end Go.Sf.Sc
namespace Go.Sf.Sc
open Go Go.Sf
def Qg(f:AI)(o:List d6):AI:={f with out:=o}
variable{f:AI}
theorem LJ.out(h:LJ f)(o:List d6):LJ (Qg f o):=⟨h.pn,h.pe,h.ends,h.kinds,h.small⟩
theorem OX:∀(n:Nat)(f:AI)(o:List d6),D7 n (Qg f o)=D7 n f
 |0,_,_=>rfl|n+1,f,o=>by
  rw [D7,D7];refine congrArg (fun F=>(Ao f.g.d4.length).flatMap F) (funext fun k=>?_);have:=OX n {f with em:=f.em++[k]} o;show(if Qw f k=true then D7 n (Qg {f with em:=f.em++[k]} o)else[])=_;rw[this]
theorem Wr:∀(n:Nat)(f:AI)(o:List d6),Ij n (Qg f o)=Ij n f
 |0,f,o=>OX _ f o|n+1,f,o=>by
  rw [Ij,Ij];refine congrArg (fun F=>(Ao f.g.d3.length).flatMap F) (funext fun k=>?_);have:=Wr n {f with ei:=f.ei++[k]} o;show(if(Qx f k&&Mp {f with ei:=f.ei++[k]})=true then Ij n (Qg {f with ei:=f.ei++[k]} o)else[])=_;rw[this]
def A2(f:AI)(l:List d6):AI:=Qg f ((f.out++l).take f.up.toNat)
structure Ut(f:AI):Prop where
 m0:0<=f.up
 m1:f.up<=10000
 out:(f.out.length:Int)<=f.up
theorem Jl(h:Ut f):A2 f []=f:=by
 unfold A2;rw[List.append_nil,List.take_of_length_le (by have:=h.out;have:=h.m0;omega)];rfl
theorem Vf(h:(f.out.length:Int)=f.up)(l:List d6):A2 f l=f:=by
 unfold A2;rw[List.take_append_of_le_length (by omega),List.take_of_length_le (by omega)];rfl
theorem Vh(h:Ut f)(l:List d6):Ut (A2 f l):=by
 refine ⟨h.m0,h.m1,?_⟩;have:=h.m0;show(((f.out++l).take f.up.toNat).length:Int)<=f.up
 grind
theorem Vg(f:AI)(a b:List d6):A2 (A2 f a) b=A2 f (a++b):=by
 show Qg f ((((f.out++a).take f.up.toNat)++b).take f.up.toNat)=_;rw[WC,ci];rfl
theorem T5:∀(n:Nat)(f:AI),LJ f->Ut f->f.ei.length=f.p.d3.length->f.em.length+n=f.p.d4.length->∀m,n+1<=m->Aw m f=some (A2 f (D7 n f))
 |n,f,hf,u,M,he,m,y=>by
  obtain ⟨m,rfl⟩:∃k,m=k+1:=⟨m-1,by omega⟩;have N:=hf.small;have O:=u.m0;have P:=u.m1;have Q:=u.out;rw[Aw];by_cases e:(f.out.length:Int)=f.up
  .grind[Vf]
  rw [az (by simpa using e),az (by simp;omega)]
  match n,he,y with
  |0,he,y=>
   rw [az (by simp;omega)];unfold slices_Clone_int;rw[BO (by unfold Ad;omega),bs,BO (by unfold Ad;omega),bs,Af (by simp;unfold Ad;omega),bs,bs];unfold A2;rw[List.take_of_length_le (by simp[D7];omega)];rfl
  |n+1,he,y=>
   rw [ae (by simp;omega)];have F:∀k,Qw f k=true->LJ {f with em:=f.em++[k]}:=fun k _=>⟨hf.pn,hf.pe,hf.ends,hf.kinds,hf.small⟩;rw[Bk (a:=0) (s:=f) (fun i=>A2 f ((Ao i.toNat).flatMap fun k=>if Qw f k=true then D7 n {f with em:=f.em++[k]}else[])) (by omega) (Jl u)]
   .grind[Int.toNat_natCast,D7]
   .intro i C D;have E:Ao (i+1).toNat=Ao i.toNat++[i]:=by
     rw [show(i+1).toNat=i.toNat+1 by omega,SN];rw[show((i.toNat:Nat):Int)=i by omega]
    have G:∀l,A2 f ((Ao (i+1).toNat).flatMap l)=A2 (A2 f ((Ao i.toNat).flatMap l)) (l i):=by
     intro l;rw[Vg,E,List.flatMap_append];simp
    rw [G];generalize (Ao i.toNat).flatMap (fun k=>if Qw f k=true then D7 n {f with em:=f.em++[k]}else[])=L;have o:=Vh u L;have v:LJ (A2 f L):=hf.out _;have z:=hf.ends _ (AK (l:=f.p.d4) (i:=(f.em.length:Int)) (by omega) (by omega));rw[cw v (i:=(f.em.length:Int)) (k:=i) (by omega) (by show _<(f.p.d4.length:Int);omega) C (by exact D) (by show(AA f.p.d4 f.em.length).ne<(f.ei.length:Int);omega) (by show(AA f.p.d4 f.em.length).To<(f.ei.length:Int);omega),bs];have H:slices_Contains_int (A2 f L).em i=some (f.em.any fun x=>decide (i=x)):=KW f.em i;rw[H];have q:Jf (A2 f L) f.em.length i=Jf f f.em.length i:=rfl;have key:((Ah (A2 f L).em [i]).bind fun h=>
      (Aw m (AI.mk (A2 f L).p (A2 f L).g (A2 f L).is (A2 f L).gp (A2 f L).ej (A2 f L).up (A2 f L).ei h (A2 f L).out)).bind fun d=>
      (slc d.em 0 (f.em.length:Int)).bind fun j=>
      some (AI.mk d.p d.g d.is d.gp d.ej d.up d.ei j d.out))=some (A2 (A2 f L) (D7 n {f with em:=f.em++[i]})):=by
     have I:Ah (A2 f L).em [i]=some (f.em++[i]):=Af (by show f.em.length+1<=Ad;unfold Ad;omega);have B:=T5 n {A2 f L with em:=f.em++[i]} ⟨hf.pn,hf.pe,hf.ends,hf.kinds,hf.small⟩ ⟨o.m0,o.m1,o.out⟩ M (by show(f.em++[i]).length+n=f.p.d4.length;simp;omega) m (by omega);have J:D7 n {A2 f L with em:=f.em++[i]}=D7 n {f with em:=f.em++[i]}:=OX n {f with em:=f.em++[i]} _;rw[J]at B;rw[I,bs];show(Aw m {A2 f L with em:=f.em++[i]}).bind _=_;rw[B,bs];have K:slc (A2 {A2 f L with em:=f.em++[i]} (D7 n {f with em:=f.em++[i]})).em 0 (f.em.length:Int)=some f.em:=by
      show slc (f.em++[i]) 0 (f.em.length:Int)=_;rw[LH (by omega) (by rw[cE];omega),Int.toNat_natCast,List.take_left]
     rw [K];rfl
    rw [key,q];have w:Qw f i=(Jf f f.em.length i&&!(f.ej&&f.em.any fun x=>decide (i=x))):=rfl;have r:(A2 f L).ej=f.ej:=rfl;rw[w,r];generalize R:D7 n {f with em:=f.em++[i]}=A;cases Jf f f.em.length i
    .simp only[Bool.false_and,Bool.false_eq_true,if_false,Jl o];rfl
    .cases f.ej
     .rfl
     .cases f.em.any fun x=>decide (i=x)
      .rfl
      .simp only[Bool.and_self,Bool.not_true,Bool.and_false,Bool.false_eq_true,if_false,Jl o];rfl
end Go.Sf.Sc
namespace Go.Sf.Sc
open Go Go.Sf
theorem T6:∀(n:Nat)(f:AI),LJ f->Ut f->f.em=[]->f.ei.length+n=f.p.d3.length->∀m,n+f.p.d4.length+1<=m->Aw m f=some (A2 f (Ij n f))
 |0,f,hf,r,he,R,m,S=>by
  grind [Ij,T5]
 |n+1,f,hf,r,he,R,m,S=>by
  obtain ⟨m,rfl⟩:∃k,m=k+1:=⟨m-1,by omega⟩;have T:=hf.small;have U:=r.m0;have V:=r.m1;have W:=r.out;rw[Aw];by_cases j:(f.out.length:Int)=f.up
  .grind[Vf]
  rw [az (by simpa using j),ae (by simp;omega)];rw[Bk (a:=0) (s:=f) (fun i=>A2 f ((Ao i.toNat).flatMap fun k=>if(Qx f k&&Mp {f with ei:=f.ei++[k]})=true then Ij n {f with ei:=f.ei++[k]}else[])) (by omega) (Jl r)]
  .grind[Int.toNat_natCast,Ij]
  .intro i B C;have F:Ao (i+1).toNat=Ao i.toNat++[i]:=by
    rw [show(i+1).toNat=i.toNat+1 by omega,SN];rw[show((i.toNat:Nat):Int)=i by omega]
   have G:∀l,A2 f ((Ao (i+1).toNat).flatMap l)=A2 (A2 f ((Ao i.toNat).flatMap l)) (l i):=by
    intro l;rw[Vg,F,List.flatMap_append];simp
   rw [G];generalize (Ao i.toNat).flatMap (fun k=>if(Qx f k&&Mp {f with ei:=f.ei++[k]})=true then Ij n {f with ei:=f.ei++[k]}else[])=L;have o:=Vh r L;have v:(f.ei.length:Int)<(f.p.d3.length:Int):=by omega
   have q:=hf.kinds _ (AK (l:=f.p.d3) (i:=(f.ei.length:Int)) (by omega) v);have w:=q.2.2 _ (AK B C);have key:((Ah (A2 f L).ei [i]).bind fun e=>
     (B2 (AI.mk (A2 f L).p (A2 f L).g (A2 f L).is (A2 f L).gp (A2 f L).ej (A2 f L).up e (A2 f L).em (A2 f L).out)).bind fun u=>
     if u=true then
     (Aw m (AI.mk (A2 f L).p (A2 f L).g (A2 f L).is (A2 f L).gp (A2 f L).ej (A2 f L).up e (A2 f L).em (A2 f L).out)).bind fun d=>
     (slc d.ei 0 (f.ei.length:Int)).bind fun h=>
     some (AI.mk d.p d.g d.is d.gp d.ej d.up h d.em d.out)
     else
     (slc e 0 (f.ei.length:Int)).bind fun h=>
     some (AI.mk (A2 f L).p (A2 f L).g (A2 f L).is (A2 f L).gp (A2 f L).ej (A2 f L).up h (A2 f L).em (A2 f L).out))=some (A2 (A2 f L) (if Mp {f with ei:=f.ei++[i]}=true then Ij n {f with ei:=f.ei++[i]}else[])):=by
    have H:Ah (A2 f L).ei [i]=some (f.ei++[i]):=Af (by show f.ei.length+1<=Ad;unfold Ad;omega);have D:slc (f.ei++[i]) 0 (f.ei.length:Int)=some f.ei:=by
     rw [LH (by omega) (by rw[cE];omega),Int.toNat_natCast,List.take_left]
    have I:B2 {A2 f L with ei:=f.ei++[i]}=some (Mp {f with ei:=f.ei++[i]}):=aq (f:={A2 f L with ei:=f.ei++[i]}) ⟨hf.pn,hf.pe,hf.ends,hf.kinds,hf.small⟩ (by show 0<(f.ei++[i]).length;simp) (by show(f.ei++[i]).length<=1000;rw[cE];simp;omega);have E:=T6 n {A2 f L with ei:=f.ei++[i]} ⟨hf.pn,hf.pe,hf.ends,hf.kinds,hf.small⟩ ⟨o.m0,o.m1,o.out⟩ he (by show(f.ei++[i]).length+n=f.p.d3.length;rw[cE];simp;omega) m (by show n+f.p.d4.length+1<=m;omega);have J:Ij n {A2 f L with ei:=f.ei++[i]}=Ij n {f with ei:=f.ei++[i]}:=Wr n {f with ei:=f.ei++[i]} _;rw[J]at E;rw[H,bs];show(B2 {A2 f L with ei:=f.ei++[i]}).bind _=_;rw[I,bs];cases Mp {f with ei:=f.ei++[i]}
    .rw[az (by decide),az (by decide),D,Jl o];rfl
    .rw[ae rfl,ae rfl];show(Aw m {A2 f L with ei:=f.ei++[i]}).bind _=_;rw[E,bs];have K:slc (A2 {A2 f L with ei:=f.ei++[i]} (Ij n {f with ei:=f.ei++[i]})).ei 0 (f.ei.length:Int)=some f.ei:=D;rw[K];rfl
   have M:J3 (A2 f L).gp.d3 (f.ei.length:Int)=some (PL.at_ f.gp.d3 f.ei.length):=XR (n:=f.p.d3.length) hf.pn (by omega) (by omega);have N:idx (A2 f L).p.d3 (f.ei.length:Int)=some (AA f.p.d3 f.ei.length):=AD (by omega) v;have hi:idx (A2 f L).is (AA f.p.d3 f.ei.length)=some (AA f.is (AA f.p.d3 f.ei.length)):=AD q.1 q.2.1;have O:idx (AA f.is (AA f.p.d3 f.ei.length)) (AA f.g.d3 i)=some (AA (AA f.is (AA f.p.d3 f.ei.length)) (AA f.g.d3 i)):=AD w.1 w.2;have P:slices_Contains_int (A2 f L).ei i=some (f.ei.any fun x=>decide (i=x)):=KW f.ei i;have y:(A2 f L).ej=f.ej:=rfl;have z:Qx f i=((decide (PL.at_ f.gp.d3 f.ei.length<0)||decide (PL.at_ f.gp.d3 f.ei.length=i))&&AA (AA f.is (AA f.p.d3 f.ei.length)) (AA f.g.d3 i)&&!(f.ej&&f.ei.any fun x=>decide (i=x))):=rfl;rw[AD B C,bs,M,bs,N,bs,hi,bs,O,bs,P,key,y,z];generalize AA (AA f.is (AA f.p.d3 f.ei.length)) (AA f.g.d3 i)=c2;have Q:(decide (0<=PL.at_ f.gp.d3 f.ei.length)&&!decide (PL.at_ f.gp.d3 f.ei.length=i))=!(decide (PL.at_ f.gp.d3 f.ei.length<0)||decide (PL.at_ f.gp.d3 f.ei.length=i)):=by
    rw [Bool.not_or];congr 1;rw[<-decide_not];exact decide_eq_decide.2 (by omega)
   rw [Q];generalize (decide (PL.at_ f.gp.d3 f.ei.length<0)||decide (PL.at_ f.gp.d3 f.ei.length=i))=c1;generalize Mp {f with ei:=f.ei++[i]}=c5;generalize Ij n {f with ei:=f.ei++[i]}=A;cases c1
   .simp only[Bool.false_and,Bool.false_eq_true,if_false,Jl o];rfl
   .cases c2
    .simp only[Bool.and_false,Bool.false_and,Bool.false_eq_true,if_false,Jl o];rfl
    .cases f.ej
     .rfl
     .cases f.ei.any fun x=>decide (i=x)
      .rfl
      .simp only[Bool.and_self,Bool.not_true,Bool.and_false,Bool.false_and,Bool.false_eq_true,if_false,Jl o];rfl
variable{f:AI}
theorem nK(hf:LJ f)(d:Ut f)(he:f.em=[])(e:f.ei=[]):ER f=some (A2 f (Ij f.p.d3.length f)):=
 EC (f.p.d3.length+f.p.d4.length+1) fun m h=>T6 _ f hf d he (by rw[e];simp) m h
end Go.Sf.Sc
namespace Go.Sf.Sc
open Go Go.Sf
theorem A3(n:Nat):(Ao n).length=n:=by simp[Ao]
variable{n:Nat}{i:Int}
theorem EQ:i∈Ao n↔0<=i/\i<n:=by
 unfold Ao;rw[List.mem_map];constructor
 .grind
 .rintro⟨d,e⟩;exact⟨i.toNat,List.mem_range.2 (by omega),by show((i.toNat:Nat):Int)=i;omega⟩
variable{α:Type}
theorem HD[Inhabited α](F:Int->α)(d:0<=i)(e:i<n):AA ((Ao n).map F) i=F i:=by
 unfold AA Ao
 grind
theorem FV(d:0<=i):Ao (i+1).toNat=Ao i.toNat++[i]:=by
 rw [show(i+1).toNat=i.toNat+1 by omega,SN,show((i.toNat:Nat):Int)=i by omega]
def ML(t:AC)(a:Int):a6:=(Ao t.d3.length).map fun k=>IY t k a
def Iv(t:AC):List a6:=(Ao t.d3.length).map (ML t)
variable{t:AC}{a:Int}
theorem kG(hf:At t)(h:Fk t)(hv:(Ax t).2=0)(a0:0<=a)(a1:a<t.d3.length):Ga t a=some ((Ao t.d3.length).filter fun i=>IY t i a,0):=by
 have e:=h.ei;unfold Ga;have d:JV t a=true:=by simp[JV,a0,a1]
 rw [VD hf,bs,az (by simp[hv,d])];rw[Bk (fun i=>(Ao i.toNat).filter fun i=>IY t i a) (by omega) (by rfl),bs,Int.toNat_natCast]
 grind [fc,FV,Ao,IY,List.length_filter_le,A3,Af,Ad]
variable{l:Fp}
theorem lV(r:∀x∈l,0<=x/\x<n):sr (fun(u:Int)(s2:a6)=>
  (idx l u).bind fun d=>
  (idx s2 d).bind fun _=>
  some (BG s2 d true)) 0 (l.length:Int) (List.replicate n false)=some ((Ao n).map fun k=>l.any fun x=>decide (x=k)):=by
 rw [Bk (fun j=>(Ao n).map fun k=>(l.take j.toNat).any fun x=>decide (x=k)) (by omega) (by
  refine List.ext_getElem (by simp[A3]) (fun j m y=>by simp))]
 .rw[Int.toNat_natCast,List.take_length]
 .intro j o m;have q:=r _ (AK o m);rw[AD o m,bs,AD q.1 (by rw[ca,A3];exact q.2),bs,CD o m];congr 1;unfold BG;refine List.ext_getElem (by simp) (fun k z v=>?_);have w:k<n:=by simpa[A3]using v
  rw [List.getElem_set];have e:(Ao n)[k]'(by rw[A3];exact w)=(k:Int):=by simp[Ao]
  simp only[List.getElem_map,e,List.any_append,List.any_cons,List.any_nil,Bool.or_false];by_cases h:(AA l j).toNat=k
  .rw[ae h,decide_eq_true (show AA l j=(k:Int)by omega),Bool.or_true]
  .rw[az h,decide_eq_false (show¬AA l j=(k:Int)by omega),Bool.or_false]
theorem ij(hf:At t)(h:Fk t)(hv:(Ax t).2=0):Ew t=some (Iv t):=by
 have w:=h.ei;unfold Ew;rw[Bk (fun i=>(Ao i.toNat).map (ML t)) (by omega) (by rfl),bs,Int.toNat_natCast]
 .rfl
 .intro i o r;have v:IJ (t.d3.length:Int) false=some (List.replicate t.d3.length false):=by
   unfold IJ;rw[ae (by omega),Int.toNat_natCast]
  rw [v,bs,kG hf h hv o r,bs];have:=lV (n:=t.d3.length) (l:=(Ao t.d3.length).filter fun k=>IY t k i) (fun x j=>EQ.1 (List.mem_filter.1 j).1);show(sr (fun(q:Int)(s2:a6)=>
   (idx ((Ao t.d3.length).filter fun k=>IY t k i) q).bind fun d=>
   (idx s2 d).bind fun _=>
   some (BG s2 d true)) 0 (((Ao t.d3.length).filter fun k=>IY t k i).length:Int) (List.replicate t.d3.length false)).bind _=_
  rw [this,bs,Af (by rw[ca,A3];simp;unfold Ad;omega),bs,FV o,List.map_append];congr 2;simp only[List.map_cons,List.map_nil];congr 1;unfold ML;refine List.map_congr_left (fun k m=>?_);have m:=EQ.1 m;rw[Bool.eq_iff_iff,List.any_eq_true];constructor
  .rintro⟨x,j,e⟩;rw[zzX]at e;subst e;exact(List.mem_filter.1 j).2
  .intro u;exact⟨k,List.mem_filter.2 ⟨EQ.2 m,u⟩,by simp⟩
end Go.Sf.Sc
namespace Go.Sf.Sc
open Go Go.Sf
def F3:Nat->AI->List d6
 |0,f=>D7 f.p.d4.length f|n+1,f=>(Ao f.g.d3.length).flatMap fun k=>if Qx f k=true then F3 n {f with ei:=f.ei++[k]}else[]
def Z1(f:AI)(i:Int):Prop:=0<=i/\i<f.p.d4.length/\0<=(AA f.p.d4 i).ne/\(AA f.p.d4 i).ne<f.ei.length/\0<=(AA f.p.d4 i).To/\(AA f.p.d4 i).To<f.ei.length/\∀k:Int,0<=k->k<f.g.d4.length->Jf f i k=false
theorem Tb(f:AI)(i k:Int):Jf f i k=((decide (PL.at_ f.gp.d4 i<0)||decide (PL.at_ f.gp.d4 i=k))&&decide (AA f.g.d4 k=⟨(AA f.p.d4 i).mo,AA f.ei (AA f.p.d4 i).ne,AA f.ei (AA f.p.d4 i).To⟩)):=rfl
variable{α:Type}{i:Int}
theorem Wv[Inhabited α](l:List α)(x:α)(d:0<=i)(e:i<l.length):AA (l++[x]) i=AA l i:=by
 unfold AA
 grind
theorem cA:∀(n:Nat)(f:AI)(i:Int),Z1 f i->(f.em.length:Int)<=i->i<f.em.length+n->D7 n f=[]
 |0,f,i,_,e,h=>by omega|n+1,f,i,hd,e,h=>by
  rw [D7];refine List.flatMap_eq_nil_iff.2 (fun k d=>?_);have d:=EQ.1 d;by_cases he:(f.em.length:Int)=i
  .have:Qw f k=false:=by
    unfold Qw;rw[he,hd.2.2.2.2.2.2 k d.1 d.2];rfl
   grind
  .split
   .exact cA n {f with em:=f.em++[k]} i hd (by show((f.em++[k]).length:Int)<=i;rw[cE];simp;omega) (by show i<((f.em++[k]).length:Int)+n;rw[cE];simp;omega)
   .rfl
theorem W9:∀(n:Nat)(f:AI)(i:Int),f.em=[]->Z1 f i->F3 n f=[]
 |0,f,i,he,hd=>by
  rw [F3];exact cA _ f i hd (by rw[he];simpa using hd.1) (by rw[he];simpa using hd.2.1)
 |n+1,f,i,he,hd=>by
  rw [F3];refine List.flatMap_eq_nil_iff.2 (fun k o=>?_);split
  .refine W9 n {f with ei:=f.ei++[k]} i he ?_;obtain⟨d,e,h,v,m,w,x⟩:=hd;have u:((f.ei++[k]).length:Int)=f.ei.length+1:=by rw[cE];simp
   refine ⟨d,e,h,?_,m,?_,fun j q r=>?_⟩
   .grind
   .grind
   grind [Tb,AA,Wv]
  .rfl
variable{f:AI}
theorem fh(hf:LJ f)(h:Mp f=false):∃i,Z1 f i:=by
 unfold Mp at h;rw[Bool.not_eq_false',Dv]at h;obtain⟨i,d,e,h⟩:=h;rw[tg,zzX,Bool.not_eq_true',Bi]at h;have he:=hf.ends _ (AK d e);exact⟨i,d,e,he.1,by omega,he.2.2.1,by omega,h.2⟩
theorem bv:∀(n:Nat)(f:AI),LJ f->f.em=[]->Ij n f=F3 n f
 |0,_,_,_=>rfl|n+1,f,hf,he=>by
  rw [Ij,F3];refine congrArg (fun F=>(Ao f.g.d3.length).flatMap F) (funext fun k=>?_);have d:LJ {f with ei:=f.ei++[k]}:=⟨hf.pn,hf.pe,hf.ends,hf.kinds,hf.small⟩;cases Qx f k
  .rfl
  .cases e:Mp {f with ei:=f.ei++[k]}
   .obtain⟨i,hd⟩:=fh d e
    grind [W9]
   .simp only[Bool.and_self,if_true];exact bv n _ d he
end Go.Sf.Sc
namespace Go.Sf.Sc
open Go Go.Sf
variable{a b:Int}
theorem Ot{σ ρ:Type}{f:σ×Int->Option (Bp (σ×Int) ρ)}(g:Int->σ){s:σ}(d:a<=b)(e:s=g a)(h:∀i,a<=i->i<b->f (g i,i)=some (.next (g (i+1),i+1)))(j:f (g b,b)=some (.brk (g b,b))):EO f (s,a)=some (.inl (g b,b)):=by
 subst e;have key:∀(n:Nat)(i:Int),a<=i->i+n=b->LC f (g i,i) (.inl (g b,b)):=by
  intro n
  induction n with
  |zero=>
   intro i _ hi;have:i=b:=by omega
   subst this;exact .brk j
  |succ n o=>
   intro i m q;exact .next (h i m (by omega)) (o (i+1) (by omega) (by omega))
 exact (key (b-a).toNat a (Int.le_refl _) (by omega)).eq
def HF(s:AX)(ei em:Fp):AI:=⟨s.p,s.g,Iv s.t,s.gp,s.ej,s.up+1,ei,em,s.AaA⟩
def CF(s:AX)(l:List d6):AX:={s with AaA:=(s.AaA++l).take (s.up+1).toNat}
structure Tm(s:AX):Prop where
 m0:0<=s.up
 m1:s.up<=9999
 out:(s.AaA.length:Int)<=s.up+1
variable{s:AX}
theorem Nk(h:Tm s):CF s []=s:=by
 unfold CF;rw[List.append_nil,List.take_of_length_le (by have:=h.out;have:=h.m0;omega)]
theorem Uj(h:(s.AaA.length:Int)=s.up+1)(l:List d6):CF s l=s:=by
 unfold CF;rw[List.take_append_of_le_length (by omega),List.take_of_length_le (by omega)]
theorem Uk(h:Tm s)(l:List d6):Tm (CF s l):=by
 refine ⟨h.m0,h.m1,?_⟩;have:=h.m0;show(((s.AaA++l).take (s.up+1).toNat).length:Int)<=s.up+1
 grind
theorem S4(s:AX)(a b:List d6):CF (CF s a) b=CF s (a++b):=by
 show ({s with AaA:=(((s.AaA++a).take (s.up+1).toNat)++b).take (s.up+1).toNat}:AX)=_;rw[WC,ci];rfl
variable{l:Fp}
theorem dQ(s:AX)(j:l.length<=1000)(n:Int):Cc s l n=some (s.ej&&l.any fun x=>decide (n=x)):=by
 unfold Cc;cases s.ej
 .rw[Sp (fun _=>false) true (a:=0) (b:=0) (Int.le_refl _) (fun i h d=>by omega) (by rw[az (by simp)])];rfl
 .rw[Sp (fun i=>decide (AA l i=n)) true (a:=0) (b:=l.length) (by omega) (fun i h d=>by
   rw [ae (by simp;exact d),AD h d,bs,As (by omega) (by omega),Hs]) (by rw[az (by simp)])]
  have e:og (fun i=>decide (AA l i=n)) 0 l.length=l.any fun x=>decide (n=x):=by
   rw [Bool.eq_iff_iff,Dv,List.any_eq_true]
   grind [AK,BV]
  rw [e,Bool.true_and];cases l.any fun x=>decide (n=x)<;>rfl
theorem V2:∀(n:Nat)(s:AX)(ei l:Fp),LJ (HF s [] [])->Tm s->ei.length=s.p.d3.length->l.length+n=s.p.d4.length->∀m,n+1<=m->B7 m s ei l=some (CF s (D7 n (HF s ei l)))
 |n,s,ei,l,hf,r,z,he,m,B=>by
  obtain ⟨m,rfl⟩:∃k,m=k+1:=⟨m-1,by omega⟩;have u:=hf.small;have R:s.p.d3.length<=1000:=u.1;have s2:s.p.d4.length<=1000:=u.2.1;have S:s.g.d3.length<=1000:=u.2.2.1;have T:s.g.d4.length<=1000:=u.2.2.2;have U:=r.m0;have V:=r.m1;have W:=r.out;rw[B7];by_cases v:(s.AaA.length:Int)=s.up+1
  .grind[Uj]
  rw [az (by simp;omega)]
  match n,he,B with
  |0,he,B=>
   rw [ae (by simp;omega),BO (by unfold Ad;omega),bs,BO (by unfold Ad;omega),bs,Af (by simp;unfold Ad;omega),bs];unfold CF;rw[List.take_of_length_le (by simp[D7];omega)];rfl
  |n+1,he,B=>
   have e:(0:Int)<=l.length:=by omega
   have q:(l.length:Int)<s.p.d4.length:=by omega
   have d:=hf.ends _ (AK (l:=s.p.d4) e q);have H:(AA s.p.d4 l.length).ne<ei.length:=by rw[z];exact d.2.1
   have I:(AA s.p.d4 l.length).To<ei.length:=by rw[z];exact d.2.2.2
   have w:(l.length:Int)<s.gp.d4.length:=by
    have:s.gp.d4.length=s.p.d4.length:=hf.pe;omega
   rw [az (by simp;omega),AD e q,bs];rw[Ot (fun i=>CF s ((Ao i.toNat).flatMap fun k=>if Qw (HF s ei l) k=true then D7 n (HF s ei (l++[k]))else[])) (a:=0) (b:=(s.g.d4.length:Int)) (s:=s) (by omega) (Nk r).symm (fun i C D=>by
    have J:∀F,CF s ((Ao (i+1).toNat).flatMap F)=CF (CF s ((Ao i.toNat).flatMap F)) (F i):=by
     intro F;rw[S4,FV C,List.flatMap_append];simp
    rw [J];generalize (Ao i.toNat).flatMap (fun k=>if Qw (HF s ei l) k=true then D7 n (HF s ei (l++[k]))else[])=L;have E:=Uk r L;rw[ae (by rw[zzX];exact D)];have K:idx (CF s L).g.d4 i=some (AA s.g.d4 i):=AD C D;have M:idx (CF s L).gp.d4 (l.length:Int)=some (AA s.gp.d4 l.length):=AD e w;have N:Cc (CF s L) l i=some (s.ej&&l.any fun x=>decide (i=x)):=dQ (CF s L) (by omega) i;have key:((Ah [] l).bind fun h=>
      (Ah h [i]).bind fun j=>
      (B7 m (CF s L) ei j).bind fun o=>
      some (.next (o,Ae (i+1)):Bp (AX×Int) AX))=some (.next (CF (CF s L) (D7 n (HF s ei (l++[i]))),i+1)):=by
     have G:=V2 n (CF s L) ei (l++[i]) ⟨hf.pn,hf.pe,hf.ends,hf.kinds,hf.small⟩ E z (by show(l++[i]).length+n=s.p.d4.length;rw[cE];simp;omega) m (by omega);have O:D7 n (HF (CF s L) ei (l++[i]))=D7 n (HF s ei (l++[i])):=OX n (HF s ei (l++[i])) _;rw[O]at G;rw[BO (by unfold Ad;omega),bs,Af (by simp;unfold Ad;omega),bs,G,bs,As (by omega) (by omega)]
    rw [K,bs,M,bs,N,key];simp only[bs];rw[AD d.1 H,AD d.2.2.1 I,As (n:=i+1) (by omega) (by omega)];simp only[bs];have y:Qw (HF s ei l) i=(((decide (AA s.gp.d4 l.length<0)||decide (AA s.gp.d4 l.length=i))&&decide (AA s.g.d4 i=⟨(AA s.p.d4 l.length).mo,AA ei (AA s.p.d4 l.length).ne,AA ei (AA s.p.d4 l.length).To⟩))&&!(s.ej&&l.any fun x=>decide (i=x))):=rfl;have P:decide (AA s.g.d4 i=⟨(AA s.p.d4 l.length).mo,AA ei (AA s.p.d4 l.length).ne,AA ei (AA s.p.d4 l.length).To⟩)=(decide ((AA s.p.d4 l.length).mo=(AA s.g.d4 i).mo)&&decide ((AA s.g.d4 i).ne=AA ei (AA s.p.d4 l.length).ne)&&decide ((AA s.g.d4 i).To=AA ei (AA s.p.d4 l.length).To)):=by
     rw [Bool.eq_iff_iff];simp only[tg,zzX];generalize AA s.g.d4 i=x;obtain⟨x1,X,Y⟩:=x;simp only[Bf.mk.injEq];constructor
     .rintro⟨a,b,c⟩;exact⟨⟨a.symm,b⟩,c⟩
     .rintro⟨⟨a,b⟩,c⟩;exact⟨a.symm,b,c⟩
    have Q:(decide (AA s.gp.d4 l.length<0)||decide (AA s.gp.d4 l.length=i))=!(decide (0<=AA s.gp.d4 l.length)&&!decide (AA s.gp.d4 l.length=i)):=by
     rw [Bool.not_and,Bool.not_not];congr 1;rw[<-decide_not];exact decide_eq_decide.2 (by omega)
    rw [y,P,Q];generalize D7 n (HF s ei (l++[i]))=A;generalize decide (0<=AA s.gp.d4 l.length)=c1;generalize decide (AA s.gp.d4 l.length=i)=c2;generalize decide ((AA s.p.d4 l.length).mo=(AA s.g.d4 i).mo)=c3;generalize decide ((AA s.g.d4 i).ne=AA ei (AA s.p.d4 l.length).ne)=c4;generalize decide ((AA s.g.d4 i).To=AA ei (AA s.p.d4 l.length).To)=c5;generalize (s.ej&&l.any fun x=>decide (i=x))=c6;cases c1<;>cases c2<;>cases c3<;>cases c4<;>cases c5<;>cases c6<;>first|rfl|(simp only[Bool.and_self,Bool.and_true,Bool.true_and,Bool.and_false,Bool.false_and,Bool.not_true,Bool.not_false,Bool.or_true,Bool.or_false,Bool.false_or,Bool.true_or,if_true,Bool.false_eq_true,if_false,Nk E,bs];try rfl)) (by rw[az (by simp[CF])]),Bh,Int.toNat_natCast,D7]
   rfl
end Go.Sf.Sc
namespace Go.Sf.Sc
open Go Go.Sf
def Ql(s:AX)(l:Fp)(i k:Int):Bool:=decide (AA s.g.d4 k=⟨(AA s.p.d4 i).mo,AA l (AA s.p.d4 i).ne,AA l (AA s.p.d4 i).To⟩)
def QB(s:AX)(l:Fp)(i:Int):Bool:=(decide ((AA s.p.d4 i).ne<l.length)&&decide ((AA s.p.d4 i).To<l.length))&&!(Ao s.g.d4.length).any (Ql s l i)
variable{s:AX}{l:Fp}
theorem ng(hf:LJ (HF s [] [])):Ep s l=some (!og (QB s l) 0 s.p.d4.length):=by
 unfold Ep;rw[BP (QB s l) false]
 .cases og (QB s l) 0 s.p.d4.length<;>rfl
 .intro i d e _;have he:=hf.ends _ (AK (l:=s.p.d4) d e);rw[AD d e,bs];unfold QB;by_cases j:(AA s.p.d4 i).ne<l.length
  .by_cases m:(AA s.p.d4 i).To<l.length
   .rw[az (by simp;omega),Bk (fun k=>(Ao k.toNat).any (Ql s l i)) (by omega) (by rfl),bs,Int.toNat_natCast,decide_eq_true j,decide_eq_true m]
    .grind
    .intro k h o;rw[AD h o,bs,FV h,List.any_append];have q:Ql s l i k=(decide ((AA s.p.d4 i).mo=(AA s.g.d4 k).mo)&&decide ((AA s.g.d4 k).ne=AA l (AA s.p.d4 i).ne)&&decide ((AA s.g.d4 k).To=AA l (AA s.p.d4 i).To)):=by
      unfold Ql;rw[Bool.eq_iff_iff];simp only[tg,zzX];generalize AA s.g.d4 k=x;obtain⟨x1,r,u⟩:=x;simp only[Bf.mk.injEq];constructor
      .rintro⟨a,b,c⟩;exact⟨⟨a.symm,b⟩,c⟩
      .rintro⟨⟨a,b⟩,c⟩;exact⟨a.symm,b,c⟩
     rw [AD he.1 j,AD he.2.2.1 m];simp only[List.any_cons,List.any_nil,Bool.or_false,bs];rw[q];generalize (Ao k.toNat).any (Ql s l i)=c1;generalize decide ((AA s.p.d4 i).mo=(AA s.g.d4 k).mo)=c3;generalize decide ((AA s.g.d4 k).ne=AA l (AA s.p.d4 i).ne)=c4;generalize decide ((AA s.g.d4 k).To=AA l (AA s.p.d4 i).To)=c5;cases c1<;>cases c3<;>cases c4<;>cases c5<;>rfl
   grind
  grind
theorem nc(hf:LJ (HF s [] []))(h:og (QB s l) 0 s.p.d4.length=true):∃i,Z1 (HF s l []) i:=by
 rw [Dv]at h;obtain⟨i,d,j,h⟩:=h;unfold QB at h;rw[tg,tg,zzX,zzX,Bool.not_eq_true',List.any_eq_false]at h;have he:=hf.ends _ (AK (l:=s.p.d4) d j);refine⟨i,d,j,he.1,h.1.1,he.2.2.1,h.1.2,fun k m o=>?_⟩;have:=h.2 k (EQ.2 ⟨m,o⟩);have e:Ql s l i k=false:=by rw[<-Bool.not_eq_true];exact this
 rw [Tb];show((decide (AA s.gp.d4 i<0)||decide (AA s.gp.d4 i=k))&&Ql s l i k)=false;rw[e,Bool.and_false]
end Go.Sf.Sc
namespace Go.Sf.Sc
open Go Go.Sf
theorem Ws:∀(n:Nat)(f:AI)(o:List d6),F3 n (Qg f o)=F3 n f
 |0,f,o=>OX _ f o|n+1,f,o=>by
  rw [F3,F3];refine congrArg (fun F=>(Ao f.g.d3.length).flatMap F) (funext fun k=>?_);have:=Ws n {f with ei:=f.ei++[k]} o
  grind [Qx,F3,Qg]
theorem V3:∀(n:Nat)(s:AX)(l:Fp),Fk s.t->LJ (HF s [] [])->Tm s->l.length+n=s.p.d3.length->∀m,n+1<=m->B8 m s l=some (CF s (F3 n (HF s l [])))
 |n,s,l,P,hf,r,K,m,z=>by
  obtain ⟨m,rfl⟩:∃k,m=k+1:=⟨m-1,by omega⟩;have M:=hf.small;have Z:s.p.d3.length<=1000:=M.1;have s3:s.g.d3.length<=1000:=M.2.2.1;have h0:=r.m0;have h1:=r.m1;have h2:=r.out;rw[B8];by_cases E:(s.AaA.length:Int)=s.up+1
  .grind[Uj]
  rw [az (by simp;omega),ng hf];cases hd:og (QB s l) 0 s.p.d4.length
  case true=>
   grind [nc,W9,HF,Nk]
  simp only[bs,Bool.not_false,Bool.not_true,Bool.false_eq_true,if_false]
  match n,K,z with
  |0,K,z=>
   rw [ae (by simp;omega),Option.bind_fun_some,F3];exact EC (s.p.d4.length+1) fun m z=>V2 s.p.d4.length s l [] hf r (by omega) (by simp) m (by omega)
  |n+1,K,z=>
   have w:(l.length:Int)<s.p.d3.length:=by omega
   have o:(0:Int)<=l.length:=by omega
   have G:(l.length:Int)<s.gp.d3.length:=by
    have:s.gp.d3.length=s.p.d3.length:=hf.pn;omega
   have Q:(Iv s.t).length=s.t.d3.length:=by unfold Iv;rw[ca,A3]
   have d:=hf.kinds _ (AK (l:=s.p.d3) o w);have H:AA s.p.d3 l.length<s.t.d3.length:=by rw[<-Q];exact d.2.1
   have j:AA (Iv s.t) (AA s.p.d3 l.length)=ML s.t (AA s.p.d3 l.length):=HD (ML s.t) d.1 H;rw[az (by simp;omega)];rw[Ot (fun i=>CF s ((Ao i.toNat).flatMap fun k=>if Qx (HF s l []) k=true then F3 n (HF s (l++[k]) [])else[])) (a:=0) (b:=(s.g.d3.length:Int)) (s:=s) (by omega) (Nk r).symm (fun i B C=>by
    have R:∀F,CF s ((Ao (i+1).toNat).flatMap F)=CF (CF s ((Ao i.toNat).flatMap F)) (F i):=by
     intro F;rw[S4,FV B,List.flatMap_append];simp
    rw [R];generalize (Ao i.toNat).flatMap (fun k=>if Qx (HF s l []) k=true then F3 n (HF s (l++[k]) [])else[])=L;have N:=Uk r L;rw[ae (by rw[zzX];exact C)];have q:=d.2.2 _ (AK (l:=s.g.d3) B C);have y:AA s.g.d3 i<s.t.d3.length:=by
     have h:=q.2;have e:AA (HF s [] []).is (AA s.p.d3 l.length)=ML s.t (AA s.p.d3 l.length):=j;rw[e]at h;unfold ML at h
     rwa [ca,A3]at h
    have I:Gl (CF s L).t (AA s.g.d3 i) (AA s.p.d3 l.length)=some (IY s.t (AA s.g.d3 i) (AA s.p.d3 l.length)):=Sk P q.1 y d.1;have S:idx (CF s L).g.d3 i=some (AA s.g.d3 i):=AD B C;have T:idx (CF s L).gp.d3 (l.length:Int)=some (AA s.gp.d3 l.length):=AD o G;have U:Cc (CF s L) l i=some (s.ej&&l.any fun x=>decide (i=x)):=dQ (CF s L) (by omega) i;have V:idx (CF s L).p.d3 (l.length:Int)=some (AA s.p.d3 l.length):=AD o w;have key:((Ah [] l).bind fun D=>
      (Ah D [i]).bind fun u=>
      (B8 m (CF s L) u).bind fun v=>
      some (.next (v,Ae (i+1)):Bp (AX×Int) AX))=some (.next (CF (CF s L) (F3 n (HF s (l++[i]) [])),i+1)):=by
     have O:=V3 n (CF s L) (l++[i]) P ⟨hf.pn,hf.pe,hf.ends,hf.kinds,hf.small⟩ N (by show(l++[i]).length+n=s.p.d3.length;rw[cE];simp;omega) m (by omega);have W:F3 n (HF (CF s L) (l++[i]) [])=F3 n (HF s (l++[i]) []):=Ws n (HF s (l++[i]) []) _;rw[W]at O;rw[BO (by unfold Ad;omega),bs,Af (by simp;unfold Ad;omega),bs,O,bs,As (by omega) (by omega)]
    rw [T,bs,U,S,V,key];simp only[bs];rw[I,As (n:=i+1) (by omega) (by omega)];simp only[bs];have J:Qx (HF s l []) i=((decide (AA s.gp.d3 l.length<0)||decide (AA s.gp.d3 l.length=i))&&AA (AA (Iv s.t) (AA s.p.d3 l.length)) (AA s.g.d3 i)&&!(s.ej&&l.any fun x=>decide (i=x))):=rfl;have X:AA (AA (Iv s.t) (AA s.p.d3 l.length)) (AA s.g.d3 i)=IY s.t (AA s.g.d3 i) (AA s.p.d3 l.length):=by
     rw [j];exact HD (fun k=>IY s.t k (AA s.p.d3 l.length)) q.1 y
    have Y:(decide (AA s.gp.d3 l.length<0)||decide (AA s.gp.d3 l.length=i))=!(decide (0<=AA s.gp.d3 l.length)&&!decide (AA s.gp.d3 l.length=i)):=by
     rw [Bool.not_and,Bool.not_not];congr 1;rw[<-decide_not];exact decide_eq_decide.2 (by omega)
    rw [J,X,Y];generalize F3 n (HF s (l++[i]) [])=A;generalize decide (0<=AA s.gp.d3 l.length)=c1;generalize decide (AA s.gp.d3 l.length=i)=c2;generalize IY s.t (AA s.g.d3 i) (AA s.p.d3 l.length)=c3;generalize (s.ej&&l.any fun x=>decide (i=x))=c6;cases c1<;>cases c2<;>cases c3<;>cases c6<;>first|rfl|(simp only[Bool.and_self,Bool.and_true,Bool.true_and,Bool.and_false,Bool.false_and,Bool.not_true,Bool.not_false,Bool.or_true,Bool.or_false,if_true,Bool.false_eq_true,if_false,Nk N,bs];try rfl)) (by rw[az (by simp[CF])]),Bh,Int.toNat_natCast,F3]
   rfl
end Go.Sf.Sc
namespace Go.Sf.Sc
open Go Go.Sf
def FF(t:AC)(p g:d5)(pa:d6)(inj:Bool):AI:=⟨p,g,Iv t,pa,inj,5001,[],[],[]⟩
def NS(t:AC)(p g:d5)(pa:d6)(inj:Bool):List d6:=(F3 p.d3.length (FF t p g pa inj)).take 5001
variable{t:AC}{p g:d5}{pa:d6}{inj:Bool}
theorem kL(j:At t)(hv:(Ax t).2=0)(d:LJ (FF t p g pa inj)):Fe t p g pa inj 5001=some (NS t p g pa inj):=by
 unfold Fe;rw[ij j (DF hv) hv,bs];have h:=nK (f:=FF t p g pa inj) d ⟨by show(0:Int)<=5001;omega,by show(5001:Int)<=10000;omega,by show((0:Nat):Int)<=5001;omega⟩ rfl rfl;rw[bv _ _ d rfl]at h;have e:AI.mk p g (Iv t) pa inj 5001 [] [] []=FF t p g pa inj:=rfl;rw[e,h];rfl
theorem rl(hv:(Ax t).2=0)(d:LJ (FF t p g pa inj)):Ng t p g pa inj 5000=some (NS t p g pa inj):=by
 unfold Ng;have h:ID ⟨t,p,g,pa,inj,5000,[]⟩ []=some (CF ⟨t,p,g,pa,inj,5000,[]⟩ (F3 p.d3.length (FF t p g pa inj))):=
  EC (p.d3.length+1) fun m e=>V3 p.d3.length ⟨t,p,g,pa,inj,5000,[]⟩ [] (DF hv) d ⟨by show(0:Int)<=5000;omega,by show(5000:Int)<=9999;omega,by show((0:Nat):Int)<=5000+1;omega⟩ (by show 0+p.d3.length=p.d3.length;omega) m e
 rw [h];rfl
end Go.Sf.Sc
namespace Go.Sf.Sc
open Go Go.Sf
def TB(n k:Int):Bool:=decide (k< -1)||decide (n<=k)
def PB(l:Fp)(n:Int):Int:=if l.any (TB n)=true then 6 else 0
theorem ct(l:Fp)(n:Int):FU l n=some (PB l n):=by grind[FU,PB,K7,TB,Re]
variable{l:Fp}
theorem X4{c:Int}(n:Int)(h:(l.length:Int)=c):IS l c n=some (PB l n):=by
 unfold IS PB;rw[az (by simp[h]),BP (fun i=>TB n (AA l i)) 6]
 .have e:og (fun i=>TB n (AA l i)) 0 l.length=l.any (TB n):=by
   rw [Bool.eq_iff_iff,Dv,List.any_eq_true]
   grind [AK,BV]
  rw [e];cases l.any (TB n)<;>rfl
 grind [AD,TB,AA]
end Go.Sf.Sc
namespace Go.Sf.Sc
open Go Go.Sf
theorem Xt(t:AC)(g:d5):EL t g=some (Cj t g):=by grind[EL,Cj,Jd,Re,Je,Y6]
def FW(t:AC)(p g:d5):Int:=if(Ax t).2≠0 then(Ax t).2 else if Bl p≠0 then Bl p else if Bl g≠0 then Bl g else if(Cj t p&&Cj t g)=true then 0 else 13
variable{t:AC}
theorem VE(hf:At t)(p g:d5):Dg t p g=some (FW t p g):=by
 unfold Dg FW;rw[Mn hf,bs];refine DW fun _=>?_;have o:kl (ρ:=Int) (fun(m:Int)(_:Unit)=>
   (idx [p,g] m).bind fun j=>
   (CW j).bind fun h=>
   if (!decide (h=0))=true then
   some (.ret h)
   else
   some (.next ())) 0 ([p,g].length:Int) ()=some (if Bl p≠0 then .inr (Bl p)else if Bl g≠0 then .inr (Bl g)else .inl ()):=by
  show Aae _ 2 0 ()=_;rw[FP,show idx [p,g] 0=some p from rfl,bs,KC,bs];by_cases d:Bl p=0
  .rw[az (by simp[d]),az (by simp[d])];show Aae _ 1 (0+1) ()=_;rw[FP,show idx [p,g] (0+1)=some g from rfl,bs,KC,bs];by_cases e:Bl g=0
   .rw[az (by simp[e]),az (by simp[e])];rfl
   .rw[ae (by simp[e]),ae e]
  .rw[ae (by simp[d]),ae d]
 rw [o];by_cases d:Bl p=0
 .by_cases e:Bl g=0
  .simp only[d,e,ne_eq,not_true_eq_false,if_false,Bh];rw[Xt,Xt,bs];cases Cj t p<;>cases Cj t g<;>rfl
  .simp only[d,e,ne_eq,not_true_eq_false,not_false_eq_true,if_false,if_true,PM]
 .simp only[d,ne_eq,not_false_eq_true,if_true,PM]
theorem TR(hf:At t)(p g:d5):Hy t p g=some (FW t p g):=by
 unfold Hy FW;rw[OP hf,bs];refine DW fun _=>?_;rw[LT,bs];refine DW fun d=>?_;rw[LT,bs];refine DW fun e=>?_
 grind [VH,Cm,Cj]
end Go.Sf.Sc
namespace Go.Sf.Sc
open Go Go.Sf
variable{t:AC}{p g:d5}{pa:d6}{inj:Bool}
theorem XD(h:FW t p g=0)(r:pa.d3.length=p.d3.length)(u:pa.d4.length=p.d4.length):(Ax t).2=0/\LJ (FF t p g pa inj):=by
 unfold FW at h;by_cases hv:(Ax t).2=0
 .rw[az (by simp[hv])]at h;by_cases o:Bl p=0
  .rw[az (by simp[o])]at h;by_cases q:Bl g=0
   .rw[az (by simp[q])]at h;by_cases d:(Cj t p&&Cj t g)=true
    .rw[tg]at d;have op:=Cm o;have m:=Cm q;have tp:=H1 op d.1;have w:=H1 m d.2;have x:(Iv t).length=t.d3.length:=by unfold Iv;rw[ca,A3]
     refine ⟨hv,r,u,fun e he=>?_,fun n v=>?_,Nat.le_trans op.ei (by omega),Nat.le_trans op.em (by omega),Nat.le_trans m.ei (by omega),Nat.le_trans m.em (by omega)⟩
     .have:=op.fit e he;exact⟨this.2.1.1,this.2.1.2,this.2.2.1,this.2.2.2⟩
     .have:=tp.1 n v;refine⟨this.1,by show n<((Iv t).length:Int);rw[x];exact this.2,fun k j=>?_⟩;have j:=w.1 k j;refine⟨j.1,?_⟩;show k<((AA (Iv t) n).length:Int)
      grind [Iv,HD,ML,ca,A3]
    grind
   grind
  grind
 grind
def QL(t:AC)(p g:d5)(pa:d6)(inj:Bool):List d6×Int:=
 if FW t p g≠0 then([],FW t p g)else if¬(pa.d3.length=p.d3.length/\pa.d4.length=p.d4.length)then([],20)else
 if PB pa.d3 g.d3.length≠0 then([],PB pa.d3 g.d3.length)else if PB pa.d4 g.d4.length≠0 then([],PB pa.d4 g.d4.length)else
 if 5000<(NS t p g pa inj).length then([],3)else(NS t p g pa inj,0)
theorem fa(hf:At t)(p g:d5)(pa:d6)(inj:Bool):E9 t p g pa inj=some (QL t p g pa inj):=by
 unfold E9 QL;rw[VE hf,bs];refine Ee fun e=>?_;refine Lh (by simp only[Bool.or_eq_true,Bool.not_eq_true',decide_eq_false_iff_not];omega) fun d=>?_;have d:=Classical.not_not.1 d;rw[ct,bs];refine Ee fun h=>?_;rw[ct,bs];refine Ee fun j=>?_
 grind [XD,Hf,kL,NS]
theorem fk(hf:At t)(p g:d5)(pa:d6)(inj:Bool):Ju t p g pa inj=some (QL t p g pa inj):=by
 unfold Ju QL;rw[TR hf,bs];refine Ee fun e=>?_;refine Lh (by simp only[Bool.or_eq_true,Bool.not_eq_true',decide_eq_false_iff_not];omega) fun d=>?_;have d:=Classical.not_not.1 d;rw[X4 _ (by omega),bs];refine Ee fun h=>?_;rw[X4 _ (by omega),bs];refine Ee fun j=>?_
 grind [XD,rl,NS]
end Go.Sf.Sc
