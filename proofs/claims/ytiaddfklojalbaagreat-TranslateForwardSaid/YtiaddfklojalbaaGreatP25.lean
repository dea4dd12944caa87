/- Plain lemmas: what the functions of the program and of the reference compute. -/
import Derived.Test.YtiaddfklojalbaaGreatP1
import Derived.Test.YtiaddfklojalbaaGreatEval
set_option linter.all false
set_option maxRecDepth 100000
open Option renaming some->Y
open Bool renaming true->X,false->T
open Bool renaming not_eq_false'->w?,eq_iff_iff->x_,false_and->x!,false_eq_true->x?,and_self->y_,not_true->y!,and_false->y?,or_false->z_,not_eq_true'->z!
open Int renaming le_refl->z?,toNat_natCast->A_
open List renaming take_of_length_le->A',append_nil->A!,take_append_of_le_length->A?,flatMap_append->B_,take_left->B',replicate->B!,ext_getElem->B?,any_append->C_,any_cons->C',any_nil->C!,mem_filter->C?,any_eq_true->D_,flatMap_eq_nil_iff->D'
namespace Go.Sf.Sc
open Go Go.Sf
variable{t:AC}
theorem rr(hf:A0 t)(p:d5){c:c8}(e:GQ c):Dg t p c=Y (Mc t p c):=by
 by_cases d:(BF t).2=0
 .exact lW hf d p e
 .unfold Dg Mc;rw[YA hf,bs];refine Dz λh=>?_;exfalso;unfold IL at h;rw[aE d]at h;exact d h
end Go.Sf.Sc
namespace Go.Sf.Sc
open Go Go.Sf
variable{α:Type}
theorem gc[Inhabited α](b:α->α->Bool){l m:List α}(e:∀x∈l,∀y∈m,(b x y=X↔x=y))(j:l.length=m.length):gh (λi=>!b (AA l i) (AA m i)) 0 l.length=T↔l=m:=by
 rw [Bt];constructor
 .intro h;refine bL j (λi c d=>?_);have:=h i c d;rw[w?]at this;exact(e _ (AI c d) _ (AI c U)).1 this
 .rintro rfl i c d;rw[w?];exact(e _ (AI c d) _ (AI c d)).2 rfl
theorem fj[Inhabited α][DecidableEq α]{l m:List α}(q:l.length=m.length){k:Unit->K1}{e:Bool->K1}:eg (fq (ρ:=Bool) (λ(j:Int)(_:Unit)=>
 (idx l j).bind λc=>
 (idx m j).bind λd=>
 if (!decide (c=d))=X then
 Y (.ret T)
 else
 Y (.next ())) 0 (l.length:Int) ()) k e=if l=m then k ()else e T:=by
 rw [BX (λi=>!decide (AA l i=AA m i)) T]
 .have:=gc (λx y:α=>decide (x=y)) (l:=l) (m:=m) (λ_ _ _ _=>decide_eq_true_iff) q;by_cases h:l=m
  .rw[this.2 h,aE h];rfl
  .rw[aN h];cases u:gh (λi=>!decide (AA l i=AA m i)) 0 l.length
   .exact absurd (this.1 u) h
   .rfl
 .intro i o r _;rw[AD o r,bs,AD o U,bs,Jy]
theorem Ym[Inhabited α][DecidableEq α](l m:List α):(if(!decide ((l.length:Int)=(m.length:Int)))=X then
 Y T
 else
 eg (fq (ρ:=Bool) (λ(k:Int)(_:Unit)=>
 (idx l k).bind λc=>
 (idx m k).bind λd=>
 if (!decide (c=d))=X then
 Y (.ret T)
 else
 Y (.next ())) 0 (l.length:Int) ()) (λ_=>
 Y X) (λo=>Y o))=Y (decide (l=m)):=by
 by_cases j:l.length=m.length
 .rw[aN q!,fj j];by_cases h:l=m
  .rw[aE h,decide_eq_true h]
  .rw[aN h,decide_eq_false h]
 .rw[aE a!,decide_eq_false (λe=>j (by rw[e]))]
theorem qV(l m:Fp):slices_Equal_int l m=Y (decide (l=m)):=Ym l m
theorem sC(l m:Fp):Jc l m=Y (decide (l=m)):=Ym l m
theorem Y3(l m:Fp):Je l m=Y (decide (l=m)):=Ym l m
theorem sQ(a b:ci):Nl a b=Y (decide (a=b)):=by
 unfold Nl;rw[Y3,bs];obtain⟨a1,a2⟩:=a;obtain⟨k,d⟩:=b;by_cases h:a1=k
 .by_cases c:a2.length=d.length
  .rw[aN (by simp[h,c]),fj c];by_cases j:a2=d<;>simp[h,j]
  .rw[aE a!];rw[decide_eq_false (λe=>c (by cases e;rfl))]
 .simp[h]
end Go.Sf.Sc
namespace Go.Sf.Sc
open Go Go.Sf
mutual
def G8:c8->Nat
 |⟨_,kids,_,_⟩=>1+Wj kids
def Wj:List c8->Nat
 |[]=>0|k::l=>G8 k+Wj l
end
mutual
def dep:c8->Nat
 |⟨k,kids,_,_⟩=>(if k=5 then 1 else 0)+uK kids
def uK:List c8->Nat
 |[]=>0|k::l=>max (dep k) (uK l)
end
theorem bV(c:c8):G8 c=1+Wj c.ff:=by cases c;rfl
theorem bU:∀{l:List c8}{k:c8},k∈l->G8 k<=Wj l
 |x::l,k,h=>by
  rw [Wj];rcases List.mem_cons.1 h with rfl|h
  .omega
  .have:=bU h;omega
end Go.Sf.Sc
namespace Go.Sf.Sc
open Go Go.Sf
class PL(α:Type)where
 at_:α->Int->Int
 ok:α->Nat->Prop
instance:PL Fp:=⟨AA,λl n=>l.length=n⟩
instance:PL (Option Fp):=⟨λo i=>match o with|none=>-1|some l=>AA l i,λo n=>match o with|none=>True|some l=>l.length=n⟩
structure L0(f:AL):Prop where
 pn:PL.ok f.ek.bq f.p.bq.length
 pe:PL.ok f.ek.ca f.p.ca.length
 ends:∀e∈f.p.ca,0≤e.fu/\e.fu<f.p.bq.length/\0≤e.To/\e.To<f.p.bq.length
 kinds:∀n∈f.p.bq,0<=n/\n<f.is.length/\∀t∈f.g.bq,0<=t/\t<(AA f.is n).length
 small:f.p.bq.length<=1000/\f.p.ca.length<=1000/\f.g.bq.length<=1000/\f.g.ca.length<=1000
def J9(f:AL)(i k:Int):Bool:=
 (decide (PL.at_ f.ek.ca i<0)||decide (PL.at_ f.ek.ca i=k))&&decide (AA f.g.ca k=⟨(AA f.p.ca i).fd,AA f.c9 (AA f.p.ca i).fu,AA f.c9 (AA f.p.ca i).To⟩)
variable{α:Type}
theorem lQ{l:List α}(h:l≠[]):Wx l=Y ():=by grind[Wx]
variable{l:Fp}{i:Int}
theorem Xn(d:0<=i)(c:i<l.length):((Wx l).bind λ_=>(idx l i).bind λx=>Y x)=Y (AA l i):=by
 rw [lQ (by intro h;subst h;simp at c;omega),bs,AD d c,bs]
variable{n:Nat}
theorem b6:∀{l},PL.ok l n->0<=i->i<n->LS l i=Y (PL.at_ l i):=by
 intro l h c d
 first
  |(cases l with
    |none=>rfl|some l=>exact Xn c (by have:l.length=n:=h;omega))
  |exact Xn c (by have:l.length=n:=h;omega)
variable{f:AL}
theorem ln(hf:L0 f){i k:Int}(c:0<=i)(d:i<f.p.ca.length)(e:0<=k)(h:k<f.g.ca.length)(j:(AA f.p.ca i).fu<f.c9.length)(hT:(AA f.p.ca i).To<f.c9.length):EC f i k=Y (J9 f i k):=by
 have he:=hf.ends _ (AI c d);unfold EC J9;rw[AD c d,bs,b6 hf.pe c d,bs,AD e h,bs,AD he.1 j,bs,AD he.2.2.1 hT,bs]
 grind
def OV(f:AL):Bool:=!gh (λi=>decide (max (AA f.p.ca i).fu (AA f.p.ca i).To=(f.c9.length:Int)-1)&&!gh (λk=>J9 f i k) 0 f.g.ca.length) 0 f.p.ca.length
variable{b:Int}
theorem q9{f:Int->Bool->Option (CF Bool Bool)}(p:Int->Bool)(h:∀i,0<=i->i<b->f i T=Y (if p i=X then .brk X else .next T)):fq f 0 b T=Y (.inl (gh p 0 b)):=by
 have key:∀(m:Nat)(i:Int),0<=i->i+m=b->tl f m i T=Y (.inl (gh p i b)):=by
  intro m
  induction m with
  |zero=>
   intro i c hi;have:gh p i b=T:=by rw[Bt];intro j k o;omega
   rw [this];rfl
  |succ m r=>
   intro i c hi;rw[FJ,h i c U];by_cases d:p i=X
   .have:gh p i b=X:=by rw[D1];exact⟨i,z? _,U,d⟩
    rw [aE d,this]
   .have e:gh p i b=gh p (i+1) b:=by
     rw [x_,D1,D1]
     grind
    grind
 unfold fq;by_cases q:0<=b
 .grind
 .have:gh p 0 b=T:=by rw[Bt];intro j k o;omega
  rw [this,show(b-0).toNat=0 by omega];rfl
theorem jR(hf:L0 f)(o:0<f.c9.length)(h:f.c9.length<=1000):CX f=Y (OV f):=by
 unfold CX OV;rw[BX (λi=>decide (max (AA f.p.ca i).fu (AA f.p.ca i).To=(f.c9.length:Int)-1)&&!gh (λk=>J9 f i k) 0 f.g.ca.length) T]
 .generalize gh (λi=>decide (max (AA f.p.ca i).fu (AA f.p.ca i).To=(f.c9.length:Int)-1)&&!gh (λk=>J9 f i k) 0 f.g.ca.length) 0 f.p.ca.length=b;cases b<;>rfl
 .intro i c d _;rw[AD c d,bs,Au (n:=(f.c9.length:Int)-1) U U];by_cases e:max (AA f.p.ca i).fu (AA f.p.ca i).To=(f.c9.length:Int)-1
  .rw[aN d!,q9 (λk=>J9 f i k) (λk j m=>by
    rw [ln hf c d j m U U,bs,Jy])]
   generalize gh (λk=>J9 f i k) 0 f.g.ca.length=b;rw[decide_eq_true e];cases b<;>rfl
  grind
def AV(n:Nat):Fp:=(List.range n).map Int.ofNat
theorem PQ(n:Nat):AV (n+1)=AV n++[(n:Int)]:=by grind[AV,List.range_succ]
def QL(f:AL)(k:Int):Bool:=(decide (PL.at_ f.ek.bq f.c9.length<0)||decide (PL.at_ f.ek.bq f.c9.length=k))&&AA (AA f.is (AA f.p.bq f.c9.length)) (AA f.g.bq k)&&!(f.ej&&f.c9.any λx=>decide (k=x))
def QK(f:AL)(k:Int):Bool:=J9 f f.d6.length k&&!(f.ej&&f.d6.any λx=>decide (k=x))
def EB:Nat->AL->List cE
 |0,f=>[⟨f.c9,f.d6⟩]|n+1,f=>(AV f.g.ca.length).flatMap λk=>if QK f k=X then EB n {f with d6:=f.d6++[k]}else[]
def Jr:Nat->AL->List cE
 |0,f=>EB f.p.ca.length f|n+1,f=>(AV f.g.bq.length).flatMap λk=>if(QL f k&&OV {f with c9:=f.c9++[k]})=X then Jr n {f with c9:=f.c9++[k]}else[]
theorem aF(a b:List α)(m:Nat):((a.take m)++b).take m=(a++b).take m:=by
 by_cases h:a.length<=m
 .rw[A' h]
 grind
end Go.Sf.Sc
namespace Go.Sf.Sc
open Go Go.Sf
def Tl(f:AL)(o:List cE):AL:={f with out:=o}
variable{f:AL}
theorem L0.out(h:L0 f)(o:List cE):L0 (Tl f o):=⟨h.pn,h.pe,h.ends,h.kinds,h.small⟩
theorem QB:∀(n:Nat)(f:AL)(o:List cE),EB n (Tl f o)=EB n f
 |0,_,_=>rfl|n+1,f,o=>by
  rw [EB,EB];refine congrArg (λF=>(AV f.g.ca.length).flatMap F) (funext λk=>?_);have:=QB n {f with d6:=f.d6++[k]} o;show(if QK f k=X then EB n (Tl {f with d6:=f.d6++[k]} o)else[])=_;rw[this]
theorem bC:∀(n:Nat)(f:AL)(o:List cE),Jr n (Tl f o)=Jr n f
 |0,f,o=>QB _ f o|n+1,f,o=>by
  rw [Jr,Jr];refine congrArg (λF=>(AV f.g.bq.length).flatMap F) (funext λk=>?_);have:=bC n {f with c9:=f.c9++[k]} o;show(if(QL f k&&OV {f with c9:=f.c9++[k]})=X then Jr n (Tl {f with c9:=f.c9++[k]} o)else[])=_;rw[this]
def BI(f:AL)(l:List cE):AL:=Tl f ((f.out++l).take f.o3.toNat)
structure Ya(f:AL):Prop where
 m0:0<=f.o3
 m1:f.o3<=10000
 out:(f.out.length:Int)<=f.o3
theorem K7(h:Ya f):BI f []=f:=by
 unfold BI;rw[A!,A' (by have:=h.out;have:=h.m0;omega)];rfl
theorem Zi(h:(f.out.length:Int)=f.o3)(l:List cE):BI f l=f:=by
 unfold BI;rw[A? U,A' U];rfl
theorem Zk(h:Ya f)(l:List cE):Ya (BI f l):=by
 refine ⟨h.m0,h.m1,?_⟩;have:=h.m0;show(((f.out++l).take f.o3.toNat).length:Int)<=f.o3
 grind
theorem Zj(f:AL)(a b:List cE):BI (BI f a) b=BI f (a++b):=by
 show Tl f ((((f.out++a).take f.o3.toNat)++b).take f.o3.toNat)=_;rw[aF,bk];rfl
theorem Xg:∀(n:Nat)(f:AL),L0 f->Ya f->f.c9.length=f.p.bq.length->f.d6.length+n=f.p.ca.length->∀m,n+1<=m->A8 m f=Y (BI f (EB n f))
 |n,f,hf,r,K,he,m,w=>by
  obtain ⟨m,rfl⟩:∃k,m=k+1:=⟨m-1,U⟩;have M:=hf.small;have N:=r.m0;have O:=r.m1;have P:=r.out;rw[A8];by_cases d:(f.out.length:Int)=f.o3
  .grind[Zi]
  rw [aN c!,aN a!]
  match n,he,w with
  |0,he,w=>
   rw [aN a!];unfold slices_Clone_int;rw[BM a?,bs,BM a?,bs,Ao b_,bs,bs];unfold BI;rw[A' (by simp[EB];omega)];rfl
  |n+1,he,w=>
   rw [aE a!];have F:∀k,QK f k=X->L0 {f with d6:=f.d6++[k]}:=λk _=>⟨hf.pn,hf.pe,hf.ends,hf.kinds,hf.small⟩;rw[Bs (a:=0) (s:=f) (λi=>BI f ((AV i.toNat).flatMap λk=>if QK f k=X then EB n {f with d6:=f.d6++[k]}else[])) U (K7 r)]
   .grind[A_,EB]
   .intro i B C;have D:AV (i+1).toNat=AV i.toNat++[i]:=by
     rw [show(i+1).toNat=i.toNat+1 by omega,PQ];rw[show((i.toNat:Nat):Int)=i by omega]
    have E:∀l,BI f ((AV (i+1).toNat).flatMap l)=BI (BI f ((AV i.toNat).flatMap l)) (l i):=by
     intro l;rw[Zj,D,B_];simp
    rw [E];generalize (AV i.toNat).flatMap (λk=>if QK f k=X then EB n {f with d6:=f.d6++[k]}else[])=L;have j:=Zk r L;have u:L0 (BI f L):=hf.out _;have y:=hf.ends _ (AI (l:=f.p.ca) (i:=(f.d6.length:Int)) U U);rw[ln u (i:=(f.d6.length:Int)) (k:=i) U (by show _<(f.p.ca.length:Int);omega) B (by exact C) (by show(AA f.p.ca f.d6.length).fu<(f.c9.length:Int);omega) (by show(AA f.p.ca f.d6.length).To<(f.c9.length:Int);omega),bs];have G:slices_Contains_int (BI f L).d6 i=Y (f.d6.any λx=>decide (i=x)):=K5 f.d6 i;rw[G];have o:J9 (BI f L) f.d6.length i=J9 f f.d6.length i:=rfl;have key:((Ax (BI f L).d6 [i]).bind λe=>
      (A8 m (AL.mk (BI f L).p (BI f L).g (BI f L).is (BI f L).ek (BI f L).ej (BI f L).o3 (BI f L).c9 e (BI f L).out)).bind λc=>
      (slc c.d6 0 (f.d6.length:Int)).bind λh=>
      Y (AL.mk c.p c.g c.is c.ek c.ej c.o3 c.c9 h c.out))=Y (BI (BI f L) (EB n {f with d6:=f.d6++[i]})):=by
     have H:Ax (BI f L).d6 [i]=Y (f.d6++[i]):=Ao (by show f.d6.length+1<=Ak;unfold Ak;omega);have z:=Xg n {BI f L with d6:=f.d6++[i]} ⟨hf.pn,hf.pe,hf.ends,hf.kinds,hf.small⟩ ⟨j.m0,j.m1,j.out⟩ K (by show(f.d6++[i]).length+n=f.p.ca.length;simp;omega) m U;have I:EB n {BI f L with d6:=f.d6++[i]}=EB n {f with d6:=f.d6++[i]}:=QB n {f with d6:=f.d6++[i]} _;rw[I]at z;rw[H,bs];show(A8 m {BI f L with d6:=f.d6++[i]}).bind _=_;rw[z,bs];have J:slc (BI {BI f L with d6:=f.d6++[i]} (EB n {f with d6:=f.d6++[i]})).d6 0 (f.d6.length:Int)=Y f.d6:=by
      show slc (f.d6++[i]) 0 (f.d6.length:Int)=_;rw[Mv U (by rw[a6];omega),A_,B']
     rw [J];rfl
    rw [key,o];have v:QK f i=(J9 f f.d6.length i&&!(f.ej&&f.d6.any λx=>decide (i=x))):=rfl;have q:(BI f L).ej=f.ej:=rfl;rw[v,q];generalize Q:EB n {f with d6:=f.d6++[i]}=A;cases J9 f f.d6.length i
    .simp only[x!,x?,if_false,K7 j];rfl
    .cases f.ej
     .rfl
     .cases f.d6.any λx=>decide (i=x)
      .rfl
      .simp only[y_,y!,y?,x?,if_false,K7 j];rfl
end Go.Sf.Sc
namespace Go.Sf.Sc
open Go Go.Sf
theorem Xh:∀(n:Nat)(f:AL),L0 f->Ya f->f.d6=[]->f.c9.length+n=f.p.bq.length->∀m,n+f.p.ca.length+1<=m->A8 m f=Y (BI f (Jr n f))
 |0,f,hf,q,he,Q,m,R=>by
  grind [Jr,Xg]
 |n+1,f,hf,q,he,Q,m,R=>by
  obtain ⟨m,rfl⟩:∃k,m=k+1:=⟨m-1,U⟩;have S:=hf.small;have θ:=q.m0;have ε:=q.m1;have κ:=q.out;rw[A8];by_cases h:(f.out.length:Int)=f.o3
  .grind[Zi]
  rw [aN c_,aE a!];rw[Bs (a:=0) (s:=f) (λi=>BI f ((AV i.toNat).flatMap λk=>if(QL f k&&OV {f with c9:=f.c9++[k]})=X then Jr n {f with c9:=f.c9++[k]}else[])) U (K7 q)]
  .grind[A_,Jr]
  .intro i z B;have E:AV (i+1).toNat=AV i.toNat++[i]:=by
    rw [show(i+1).toNat=i.toNat+1 by omega,PQ];rw[show((i.toNat:Nat):Int)=i by omega]
   have F:∀l,BI f ((AV (i+1).toNat).flatMap l)=BI (BI f ((AV i.toNat).flatMap l)) (l i):=by
    intro l;rw[Zj,E,B_];simp
   rw [F];generalize (AV i.toNat).flatMap (λk=>if(QL f k&&OV {f with c9:=f.c9++[k]})=X then Jr n {f with c9:=f.c9++[k]}else[])=L;have j:=Zk q L;have u:(f.c9.length:Int)<(f.p.bq.length:Int):=U
   have o:=hf.kinds _ (AI (l:=f.p.bq) (i:=(f.c9.length:Int)) U u);have v:=o.2.2 _ (AI z B);have key:((Ax (BI f L).c9 [i]).bind λd=>
     (CX (AL.mk (BI f L).p (BI f L).g (BI f L).is (BI f L).ek (BI f L).ej (BI f L).o3 d (BI f L).d6 (BI f L).out)).bind λr=>
     if r=X then
     (A8 m (AL.mk (BI f L).p (BI f L).g (BI f L).is (BI f L).ek (BI f L).ej (BI f L).o3 d (BI f L).d6 (BI f L).out)).bind λc=>
     (slc c.c9 0 (f.c9.length:Int)).bind λe=>
     Y (AL.mk c.p c.g c.is c.ek c.ej c.o3 e c.d6 c.out)
     else
     (slc d 0 (f.c9.length:Int)).bind λe=>
     Y (AL.mk (BI f L).p (BI f L).g (BI f L).is (BI f L).ek (BI f L).ej (BI f L).o3 e (BI f L).d6 (BI f L).out))=Y (BI (BI f L) (if OV {f with c9:=f.c9++[i]}=X then Jr n {f with c9:=f.c9++[i]}else[])):=by
    have G:Ax (BI f L).c9 [i]=Y (f.c9++[i]):=Ao (by show f.c9.length+1<=Ak;unfold Ak;omega);have C:slc (f.c9++[i]) 0 (f.c9.length:Int)=Y f.c9:=by
     rw [Mv U (by rw[a6];omega),A_,B']
    have H:CX {BI f L with c9:=f.c9++[i]}=Y (OV {f with c9:=f.c9++[i]}):=jR (f:={BI f L with c9:=f.c9++[i]}) ⟨hf.pn,hf.pe,hf.ends,hf.kinds,hf.small⟩ (by show 0<(f.c9++[i]).length;simp) (by show(f.c9++[i]).length<=1000;rw[a6];simp;omega);have D:=Xh n {BI f L with c9:=f.c9++[i]} ⟨hf.pn,hf.pe,hf.ends,hf.kinds,hf.small⟩ ⟨j.m0,j.m1,j.out⟩ he (by show(f.c9++[i]).length+n=f.p.bq.length;rw[a6];simp;omega) m (by show n+f.p.ca.length+1<=m;omega);have I:Jr n {BI f L with c9:=f.c9++[i]}=Jr n {f with c9:=f.c9++[i]}:=bC n {f with c9:=f.c9++[i]} _;rw[I]at D;rw[G,bs];show(CX {BI f L with c9:=f.c9++[i]}).bind _=_;rw[H,bs];cases OV {f with c9:=f.c9++[i]}
    .rw[aN a_,aN a_,C,K7 j];rfl
    .rw[aE rfl,aE rfl];show(A8 m {BI f L with c9:=f.c9++[i]}).bind _=_;rw[D,bs];have J:slc (BI {BI f L with c9:=f.c9++[i]} (Jr n {f with c9:=f.c9++[i]})).c9 0 (f.c9.length:Int)=Y f.c9:=C;rw[J];rfl
   have K:LS (BI f L).ek.bq (f.c9.length:Int)=Y (PL.at_ f.ek.bq f.c9.length):=b6 (n:=f.p.bq.length) hf.pn U U;have M:idx (BI f L).p.bq (f.c9.length:Int)=Y (AA f.p.bq f.c9.length):=AD U u;have hi:idx (BI f L).is (AA f.p.bq f.c9.length)=Y (AA f.is (AA f.p.bq f.c9.length)):=AD o.1 o.2.1;have N:idx (AA f.is (AA f.p.bq f.c9.length)) (AA f.g.bq i)=Y (AA (AA f.is (AA f.p.bq f.c9.length)) (AA f.g.bq i)):=AD v.1 v.2;have O:slices_Contains_int (BI f L).c9 i=Y (f.c9.any λx=>decide (i=x)):=K5 f.c9 i;have w:(BI f L).ej=f.ej:=rfl;have y:QL f i=((decide (PL.at_ f.ek.bq f.c9.length<0)||decide (PL.at_ f.ek.bq f.c9.length=i))&&AA (AA f.is (AA f.p.bq f.c9.length)) (AA f.g.bq i)&&!(f.ej&&f.c9.any λx=>decide (i=x))):=rfl;rw[AD z B,bs,K,bs,M,bs,hi,bs,N,bs,O,key,w,y];generalize AA (AA f.is (AA f.p.bq f.c9.length)) (AA f.g.bq i)=c2;have P:(decide (0<=PL.at_ f.ek.bq f.c9.length)&&!decide (PL.at_ f.ek.bq f.c9.length=i))=!(decide (PL.at_ f.ek.bq f.c9.length<0)||decide (PL.at_ f.ek.bq f.c9.length=i)):=by
    rw [Bool.not_or];congr 1;rw[<-decide_not];exact decide_eq_decide.2 U
   rw [P];generalize (decide (PL.at_ f.ek.bq f.c9.length<0)||decide (PL.at_ f.ek.bq f.c9.length=i))=c1;generalize OV {f with c9:=f.c9++[i]}=c5;generalize Jr n {f with c9:=f.c9++[i]}=A;cases c1
   .simp only[x!,x?,if_false,K7 j];rfl
   .cases c2
    .simp only[y?,x!,x?,if_false,K7 j];rfl
    .cases f.ej
     .rfl
     .cases f.c9.any λx=>decide (i=x)
      .rfl
      .simp only[y_,y!,y?,x!,x?,if_false,K7 j];rfl
variable{f:AL}
theorem lb(hf:L0 f)(c:Ya f)(he:f.d6=[])(d:f.c9=[]):G7 f=Y (BI f (Jr f.p.bq.length f)):=
 Gb (f.p.bq.length+f.p.ca.length+1) λm e=>Xh _ f hf c he (by rw[d];simp) m e
end Go.Sf.Sc
namespace Go.Sf.Sc
open Go Go.Sf
theorem Am(n:Nat):(AV n).length=n:=by simp[AV]
variable{n:Nat}{i:Int}
theorem Br:i∈AV n↔0<=i/\i<n:=by
 unfold AV;rw[List.mem_map];constructor
 .grind
 .rintro⟨c,d⟩;exact⟨i.toNat,List.mem_range.2 U,by show((i.toNat:Nat):Int)=i;omega⟩
variable{α:Type}
theorem Eh[Inhabited α](F:Int->α)(c:0<=i)(d:i<n):AA ((AV n).map F) i=F i:=by
 unfold AA AV
 grind
theorem GJ(c:0<=i):AV (i+1).toNat=AV i.toNat++[i]:=by
 rw [show(i+1).toNat=i.toNat+1 by omega,PQ,show((i.toNat:Nat):Int)=i by omega]
def Nx(t:AC)(a:Int):QQ:=(AV t.bq.length).map λk=>isB t k a
def I7(t:AC):List QQ:=(AV t.bq.length).map (Nx t)
variable{t:AC}{a:Int}
theorem rm(hf:A0 t)(h:Eb t)(hv:(BF t).2=0)(a0:0<=a)(a1:a<t.bq.length):I8 t a=Y ((AV t.bq.length).filter λi=>isB t i a,0):=by
 have d:=h.c9;unfold I8;have c:Kq t a=X:=by simp[Kq,a0,a1]
 rw [Y2 hf,bs,aN (by simp[hv,c])];rw[Bs (λi=>(AV i.toNat).filter λi=>isB t i a) U q?,bs,A_]
 grind [oL,GJ,AV,isB,List.length_filter_le,Am,Ao,Ak]
variable{l:Fp}
theorem sa(r:∀x∈l,0<=x/\x<n):kx (λ(u:Int)(o:QQ)=>
  (idx l u).bind λc=>
  (idx o c).bind λ_=>
  Y (BN o c X)) 0 (l.length:Int) (B! n T)=Y ((AV n).map λk=>l.any λx=>decide (x=k)):=by
 rw [Bs (λj=>(AV n).map λk=>(l.take j.toNat).any λx=>decide (x=k)) U (by
  refine B? (by simp[Am]) (λj h y=>V))]
 .rw[A_,List.take_length]
 .intro j m h;have q:=r _ (AI m h);rw[AD m h,bs,AD q.1 (by rw[bd,Am];exact q.2),bs,Cw m h];congr 1;unfold BN;refine B? V (λk z v=>?_);have w:k<n:=by simpa[Am]using v
  rw [List.getElem_set];have e:(AV n)[k]'(by rw[Am];exact w)=(k:Int):=by simp[AV]
  simp only[List.getElem_map,e,C_,C',C!,z_];by_cases d:(AA l j).toNat=k
  .rw[aE d,decide_eq_true (show AA l j=(k:Int)by omega),Bool.or_true]
  .rw[aN d,decide_eq_false (show¬AA l j=(k:Int)by omega),z_]
theorem jT(hf:A0 t)(h:Eb t)(hv:(BF t).2=0):G0 t=Y (I7 t):=by
 have w:=h.c9;unfold G0;rw[Bs (λi=>(AV i.toNat).map (Nx t)) U q?,bs,A_]
 .rfl
 .intro i o r;have v:FV (t.bq.length:Int) T=Y (B! t.bq.length T):=by
   unfold FV;rw[aE U,A_]
  rw [v,bs,rm hf h hv o r,bs];have:=sa (n:=t.bq.length) (l:=(AV t.bq.length).filter λk=>isB t k i) (λx d=>Br.1 (C?.1 d).1);show(kx (λ(q:Int)(m:QQ)=>
   (idx ((AV t.bq.length).filter λk=>isB t k i) q).bind λc=>
   (idx m c).bind λ_=>
   Y (BN m c X)) 0 (((AV t.bq.length).filter λk=>isB t k i).length:Int) (B! t.bq.length T)).bind _=_
  rw [this,bs,Ao (by rw[bd,Am];simp;unfold Ak;omega),bs,GJ o,List.map_append];congr 2;simp only[List.map_cons,List.map_nil];congr 1;unfold Nx;refine List.map_congr_left (λk j=>?_);have j:=Br.1 j;rw[x_,D_];constructor
  .rintro⟨x,d,e⟩;rw[p0]at e;subst e;exact(C?.1 d).2
  .intro u;exact⟨k,C?.2 ⟨Br.2 j,u⟩,V⟩
end Go.Sf.Sc
namespace Go.Sf.Sc
open Go Go.Sf
def FK:Nat->AL->List cE
 |0,f=>EB f.p.ca.length f|n+1,f=>(AV f.g.bq.length).flatMap λk=>if QL f k=X then FK n {f with c9:=f.c9++[k]}else[]
def iH(f:AL)(i:Int):Prop:=0<=i/\i<f.p.ca.length/\0<=(AA f.p.ca i).fu/\(AA f.p.ca i).fu<f.c9.length/\0<=(AA f.p.ca i).To/\(AA f.p.ca i).To<f.c9.length/\∀k:Int,0<=k->k<f.g.ca.length->J9 f i k=T
theorem XH(f:AL)(i k:Int):J9 f i k=((decide (PL.at_ f.ek.ca i<0)||decide (PL.at_ f.ek.ca i=k))&&decide (AA f.g.ca k=⟨(AA f.p.ca i).fd,AA f.c9 (AA f.p.ca i).fu,AA f.c9 (AA f.p.ca i).To⟩)):=rfl
variable{α:Type}{i:Int}
theorem bK[Inhabited α](l:List α)(x:α)(c:0<=i)(d:i<l.length):AA (l++[x]) i=AA l i:=by
 unfold AA
 grind
theorem kV:∀(n:Nat)(f:AL)(i:Int),iH f i->(f.d6.length:Int)<=i->i<f.d6.length+n->EB n f=[]
 |0,f,i,_,d,e=>by omega|n+1,f,i,hd,d,e=>by
  rw [EB];refine D'.2 (λk c=>?_);have c:=Br.1 c;by_cases he:(f.d6.length:Int)=i
  .have:QK f k=T:=by
    unfold QK;rw[he,hd.2.2.2.2.2.2 k c.1 c.2];rfl
   grind
  .split
   .exact kV n {f with d6:=f.d6++[k]} i hd (by show((f.d6++[k]).length:Int)<=i;rw[a6];simp;omega) (by show i<((f.d6++[k]).length:Int)+n;rw[a6];simp;omega)
   .rfl
theorem bZ:∀(n:Nat)(f:AL)(i:Int),f.d6=[]->iH f i->FK n f=[]
 |0,f,i,he,hd=>by
  rw [FK];exact kV _ f i hd (by rw[he];simpa using hd.1) (by rw[he];simpa using hd.2.1)
 |n+1,f,i,he,hd=>by
  rw [FK];refine D'.2 (λk m=>?_);split
  .refine bZ n {f with c9:=f.c9++[k]} i he ?_;obtain⟨c,d,e,u,h,v,w⟩:=hd;have r:((f.c9++[k]).length:Int)=f.c9.length+1:=by rw[a6];simp
   refine ⟨c,d,e,?_,h,?_,λj o q=>?_⟩
   .grind
   .grind
   grind [XH,AA,bK]
  .rfl
variable{f:AL}
theorem oS(hf:L0 f)(h:OV f=T):∃i,iH f i:=by
 unfold OV at h;rw[w?,D1]at h;obtain⟨i,c,d,h⟩:=h;rw[kp,p0,z!,Bt]at h;have he:=hf.ends _ (AI c d);exact⟨i,c,d,he.1,U,he.2.2.1,U,h.2⟩
theorem bB:∀(n:Nat)(f:AL),L0 f->f.d6=[]->Jr n f=FK n f
 |0,_,_,_=>rfl|n+1,f,hf,he=>by
  rw [Jr,FK];refine congrArg (λF=>(AV f.g.bq.length).flatMap F) (funext λk=>?_);have c:L0 {f with c9:=f.c9++[k]}:=⟨hf.pn,hf.pe,hf.ends,hf.kinds,hf.small⟩;cases QL f k
  .rfl
  .cases d:OV {f with c9:=f.c9++[k]}
   .obtain⟨i,hd⟩:=oS c d
    grind [bZ]
   .simp;exact bB n _ c he
end Go.Sf.Sc
namespace Go.Sf.Sc
open Go Go.Sf
variable{a b:Int}
theorem YY{σ ρ:Type}{f:σ×Int->Option (CF (σ×Int) ρ)}(g:Int->σ){s:σ}(c:a<=b)(d:s=g a)(h:∀i,a<=i->i<b->f (g i,i)=Y (.next (g (i+1),i+1)))(e:f (g b,b)=Y (.brk (g b,b))):GP f (s,a)=Y (.inl (g b,b)):=by
 subst d;have key:∀(n:Nat)(i:Int),a<=i->i+n=b->Ms f (g i,i) (.inl (g b,b)):=by
  intro n
  induction n with
  |zero=>
   intro i _ hi;have:i=b:=U
   subst this;exact .brk e
  |succ n k=>
   intro i j m;exact .next (h i j U) (k (i+1) U U)
 exact (key (b-a).toNat a (z? _) U).eq
def IZ(s:Aq)(c9 d6:Fp):AL:=⟨s.p,s.g,I7 s.t,s.ek,s.ej,s.o3+1,c9,d6,s.Aak⟩
def Cr(s:Aq)(l:List cE):Aq:={s with Aak:=(s.Aak++l).take (s.o3+1).toNat}
structure XO(s:Aq):Prop where
 m0:0<=s.o3
 m1:s.o3<=9999
 out:(s.Aak.length:Int)<=s.o3+1
variable{s:Aq}
theorem PK(h:XO s):Cr s []=s:=by
 unfold Cr;rw[A!,A' (by have:=h.out;have:=h.m0;omega)]
theorem YO(h:(s.Aak.length:Int)=s.o3+1)(l:List cE):Cr s l=s:=by
 unfold Cr;rw[A? U,A' U]
theorem YP(h:XO s)(l:List cE):XO (Cr s l):=by
 refine ⟨h.m0,h.m1,?_⟩;have:=h.m0;show(((s.Aak++l).take (s.o3+1).toNat).length:Int)<=s.o3+1
 grind
theorem WY(s:Aq)(a b:List cE):Cr (Cr s a) b=Cr s (a++b):=by
 show ({s with Aak:=(((s.Aak++a).take (s.o3+1).toNat)++b).take (s.o3+1).toNat}:Aq)=_;rw[aF,bk];rfl
variable{l:Fp}
theorem mH(s:Aq)(h:l.length<=1000)(n:Int):DG s l n=Y (s.ej&&l.any λx=>decide (n=x)):=by
 unfold DG;cases s.ej
 .rw[WD (λ_=>T) X (a:=0) (b:=0) (z? _) (λi d c=>U) (by rw[aN V])];rfl
 .rw[WD (λi=>decide (AA l i=n)) X (a:=0) (b:=l.length) U (λi d c=>by
   rw [aE (by simp;exact c),AD d c,bs,Au U U,Jy]) (by rw[aN V])]
  have e:gh (λi=>decide (AA l i=n)) 0 l.length=l.any λx=>decide (n=x):=by
   rw [x_,D1,D_]
   grind [AI,BT]
  rw [e,Bool.true_and];cases l.any λx=>decide (n=x)<;>rfl
theorem Z5:∀(n:Nat)(s:Aq)(c9 l:Fp),L0 (IZ s [] [])->XO s->c9.length=s.p.bq.length->l.length+n=s.p.ca.length->∀m,n+1<=m->Ch m s c9 l=Y (Cr s (EB n (IZ s c9 l)))
 |n,s,c9,l,hf,r,z,he,m,B=>by
  obtain ⟨m,rfl⟩:∃k,m=k+1:=⟨m-1,U⟩;have u:=hf.small;have R:s.p.bq.length<=1000:=u.1;have S:s.p.ca.length<=1000:=u.2.1;have θ:s.g.bq.length<=1000:=u.2.2.1;have ε:s.g.ca.length<=1000:=u.2.2.2;have κ:=r.m0;have η:=r.m1;have ζ:=r.out;rw[Ch];by_cases v:(s.Aak.length:Int)=s.o3+1
  .grind[YO]
  rw [aN a!]
  match n,he,B with
  |0,he,B=>
   rw [aE a!,BM a?,bs,BM a?,bs,Ao b_,bs];unfold Cr;rw[A' (by simp[EB];omega)];rfl
  |n+1,he,B=>
   have e:(0:Int)<=l.length:=U
   have q:(l.length:Int)<s.p.ca.length:=U
   have d:=hf.ends _ (AI (l:=s.p.ca) e q);have H:(AA s.p.ca l.length).fu<c9.length:=by rw[z];exact d.2.1
   have I:(AA s.p.ca l.length).To<c9.length:=by rw[z];exact d.2.2.2
   have w:(l.length:Int)<s.ek.ca.length:=by
    have:s.ek.ca.length=s.p.ca.length:=hf.pe;omega
   rw [aN a!,AD e q,bs];rw[YY (λi=>Cr s ((AV i.toNat).flatMap λk=>if QK (IZ s c9 l) k=X then EB n (IZ s c9 (l++[k]))else[])) (a:=0) (b:=(s.g.ca.length:Int)) (s:=s) U (PK r).symm (λi C D=>by
    have J:∀F,Cr s ((AV (i+1).toNat).flatMap F)=Cr (Cr s ((AV i.toNat).flatMap F)) (F i):=by
     intro F;rw[WY,GJ C,List.flatMap_append];simp
    rw [J];generalize (AV i.toNat).flatMap (λk=>if QK (IZ s c9 l) k=true then EB n (IZ s c9 (l++[k]))else[])=L;have E:=YP r L;rw[aE (by rw[p0];exact D)];have K:idx (Cr s L).g.ca i=some (AA s.g.ca i):=AD C D;have M:idx (Cr s L).ek.ca (l.length:Int)=some (AA s.ek.ca l.length):=AD e w;have N:DG (Cr s L) l i=some (s.ej&&l.any λx=>decide (i=x)):=mH (Cr s L) U i;have key:((Ax [] l).bind λh=>
      (Ax h [i]).bind λj=>
      (Ch m (Cr s L) c9 j).bind λo=>
      some (.next (o,Ag (i+1)):CF (Aq×Int) Aq))=some (.next (Cr (Cr s L) (EB n (IZ s c9 (l++[i]))),i+1)):=by
     have G:=Z5 n (Cr s L) c9 (l++[i]) ⟨hf.pn,hf.pe,hf.ends,hf.kinds,hf.small⟩ E z (by show(l++[i]).length+n=s.p.ca.length;rw[a6];simp;omega) m U;have O:EB n (IZ (Cr s L) c9 (l++[i]))=EB n (IZ s c9 (l++[i])):=QB n (IZ s c9 (l++[i])) _;rw[O]at G;rw[BM a?,bs,Ao b_,bs,G,bs,Au U U]
    rw [K,bs,M,bs,N,key];simp only[bs];rw[AD d.1 H,AD d.2.2.1 I,Au (n:=i+1) U U];simp only[bs];have y:QK (IZ s c9 l) i=(((decide (AA s.ek.ca l.length<0)||decide (AA s.ek.ca l.length=i))&&decide (AA s.g.ca i=⟨(AA s.p.ca l.length).fd,AA c9 (AA s.p.ca l.length).fu,AA c9 (AA s.p.ca l.length).To⟩))&&!(s.ej&&l.any λx=>decide (i=x))):=rfl;have P:decide (AA s.g.ca i=⟨(AA s.p.ca l.length).fd,AA c9 (AA s.p.ca l.length).fu,AA c9 (AA s.p.ca l.length).To⟩)=(decide ((AA s.p.ca l.length).fd=(AA s.g.ca i).fd)&&decide ((AA s.g.ca i).fu=AA c9 (AA s.p.ca l.length).fu)&&decide ((AA s.g.ca i).To=AA c9 (AA s.p.ca l.length).To)):=by
     rw [Bool.eq_iff_iff];simp[p0];generalize AA s.g.ca i=x;obtain⟨x1,δ,Z⟩:=x;simp;constructor
     .rintro⟨a,b,c⟩;exact⟨⟨a.symm,b⟩,c⟩
     .rintro⟨⟨a,b⟩,c⟩;exact⟨a.symm,b,c⟩
    have Q:(decide (AA s.ek.ca l.length<0)||decide (AA s.ek.ca l.length=i))=!(decide (0<=AA s.ek.ca l.length)&&!decide (AA s.ek.ca l.length=i)):=by
     rw [Bool.not_and,Bool.not_not];congr 1;rw[<-decide_not];exact decide_eq_decide.2 U
    rw [y,P,Q];generalize EB n (IZ s c9 (l++[i]))=A;generalize decide (0<=AA s.ek.ca l.length)=c1;generalize decide (AA s.ek.ca l.length=i)=c2;generalize decide ((AA s.p.ca l.length).fd=(AA s.g.ca i).fd)=c3;generalize decide ((AA s.g.ca i).fu=AA c9 (AA s.p.ca l.length).fu)=c4;generalize decide ((AA s.g.ca i).To=AA c9 (AA s.p.ca l.length).To)=c5;generalize (s.ej&&l.any λx=>decide (i=x))=c6;cases c1<;>cases c2<;>cases c3<;>cases c4<;>cases c5<;>cases c6<;>first|rfl|(simp[PK E];try rfl)) (by rw[aN (by simp[Cr])]),CI,A_,EB]
   rfl
end Go.Sf.Sc
namespace Go.Sf.Sc
open Go Go.Sf
def Tx(s:Aq)(l:Fp)(i k:Int):Bool:=decide (AA s.g.ca k=⟨(AA s.p.ca i).fd,AA l (AA s.p.ca i).fu,AA l (AA s.p.ca i).To⟩)
def TP(s:Aq)(l:Fp)(i:Int):Bool:=(decide ((AA s.p.ca i).fu<l.length)&&decide ((AA s.p.ca i).To<l.length))&&!(AV s.g.ca.length).any (Tx s l i)
variable{s:Aq}{l:Fp}
theorem vI(hf:L0 (IZ s [] [])):Fx s l=Y (!gh (TP s l) 0 s.p.ca.length):=by
 unfold Fx;rw[BX (TP s l) T]
 .cases gh (TP s l) 0 s.p.ca.length<;>rfl
 .intro i d e _;have he:=hf.ends _ (AI (l:=s.p.ca) d e);rw[AD d e,bs];unfold TP;by_cases j:(AA s.p.ca i).fu<l.length
  .by_cases hT:(AA s.p.ca i).To<l.length
   .rw[aN a!,Bs (λk=>(AV k.toNat).any (Tx s l i)) U q?,bs,A_,decide_eq_true j,decide_eq_true hT]
    .grind
    .intro k h m;rw[AD h m,bs,GJ h,C_];have o:Tx s l i k=(decide ((AA s.p.ca i).fd=(AA s.g.ca k).fd)&&decide ((AA s.g.ca k).fu=AA l (AA s.p.ca i).fu)&&decide ((AA s.g.ca k).To=AA l (AA s.p.ca i).To)):=by
      unfold Tx;rw[x_];simp[p0];generalize AA s.g.ca k=x;obtain⟨x1,q,r⟩:=x;simp;constructor
      .rintro⟨a,b,c⟩;exact⟨⟨a.symm,b⟩,c⟩
      .rintro⟨⟨a,b⟩,c⟩;exact⟨a.symm,b,c⟩
     rw [AD he.1 j,AD he.2.2.1 hT];simp only[C',C!,z_,bs];rw[o];generalize (AV k.toNat).any (Tx s l i)=c1;generalize decide ((AA s.p.ca i).fd=(AA s.g.ca k).fd)=c3;generalize decide ((AA s.g.ca k).fu=AA l (AA s.p.ca i).fu)=c4;generalize decide ((AA s.g.ca k).To=AA l (AA s.p.ca i).To)=c5;cases c1<;>cases c3<;>cases c4<;>cases c5<;>rfl
   grind
  grind
theorem vG(hf:L0 (IZ s [] []))(h:gh (TP s l) 0 s.p.ca.length=X):∃i,iH (IZ s l []) i:=by
 rw [D1]at h;obtain⟨i,c,d,h⟩:=h;unfold TP at h;rw[kp,kp,p0,p0,z!,List.any_eq_false]at h;have he:=hf.ends _ (AI (l:=s.p.ca) c d);refine⟨i,c,d,he.1,h.1.1,he.2.2.1,h.1.2,λk j m=>?_⟩;have:=h.2 k (Br.2 ⟨j,m⟩);have e:Tx s l i k=T:=by rw[<-Bool.not_eq_true];exact this
 rw [XH];show((decide (AA s.ek.ca i<0)||decide (AA s.ek.ca i=k))&&Tx s l i k)=T;rw[e,y?]
end Go.Sf.Sc
namespace Go.Sf.Sc
open Go Go.Sf
theorem bE:∀(n:Nat)(f:AL)(o:List cE),FK n (Tl f o)=FK n f
 |0,f,o=>QB _ f o|n+1,f,o=>by
  rw [FK,FK];refine congrArg (λF=>(AV f.g.bq.length).flatMap F) (funext λk=>?_);have:=bE n {f with c9:=f.c9++[k]} o
  grind [QL,FK,Tl]
theorem Z6:∀(n:Nat)(s:Aq)(l:Fp),Eb s.t->L0 (IZ s [] [])->XO s->l.length+n=s.p.bq.length->∀m,n+1<=m->Ci m s l=Y (Cr s (FK n (IZ s l [])))
 |n,s,l,O,hf,q,J,m,y=>by
  obtain ⟨m,rfl⟩:∃k,m=k+1:=⟨m-1,U⟩;have K:=hf.small;have δ:s.p.bq.length<=1000:=K.1;have Z:s.g.bq.length<=1000:=K.2.2.1;have h0:=q.m0;have h1:=q.m1;have h2:=q.out;rw[Ci];by_cases D:(s.Aak.length:Int)=s.o3+1
  .grind[YO]
  rw [aN a!,vI hf];cases hd:gh (TP s l) 0 s.p.ca.length
  case true=>
   grind [vG,bZ,IZ,PK]
  simp only[bs,Bool.not_false,y!,x?,if_false]
  match n,J,y with
  |0,J,y=>
   rw [aE a!,Option.bind_fun_some,FK];exact Gb (s.p.ca.length+1) λm y=>Z5 s.p.ca.length s l [] hf q U V m U
  |n+1,J,y=>
   have v:(l.length:Int)<s.p.bq.length:=U
   have j:(0:Int)<=l.length:=U
   have E:(l.length:Int)<s.ek.bq.length:=by
    have:s.ek.bq.length=s.p.bq.length:=hf.pn;omega
   have P:(I7 s.t).length=s.t.bq.length:=by unfold I7;rw[bd,Am]
   have c:=hf.kinds _ (AI (l:=s.p.bq) j v);have G:AA s.p.bq l.length<s.t.bq.length:=by rw[<-P];exact c.2.1
   have d:AA (I7 s.t) (AA s.p.bq l.length)=Nx s.t (AA s.p.bq l.length):=Eh (Nx s.t) c.1 G;rw[aN a!];rw[YY (λi=>Cr s ((AV i.toNat).flatMap λk=>if QL (IZ s l []) k=X then FK n (IZ s (l++[k]) [])else[])) (a:=0) (b:=(s.g.bq.length:Int)) (s:=s) U (PK q).symm (λi z B=>by
    have Q:∀F,Cr s ((AV (i+1).toNat).flatMap F)=Cr (Cr s ((AV i.toNat).flatMap F)) (F i):=by
     intro F;rw[WY,GJ z,List.flatMap_append];simp
    rw [Q];generalize (AV i.toNat).flatMap (λk=>if QL (IZ s l []) k=true then FK n (IZ s (l++[k]) [])else[])=L;have M:=YP q L;rw[aE (by rw[p0];exact B)];have o:=c.2.2 _ (AI (l:=s.g.bq) z B);have w:AA s.g.bq i<s.t.bq.length:=by
     have h:=o.2;have e:AA (IZ s [] []).is (AA s.p.bq l.length)=Nx s.t (AA s.p.bq l.length):=d;rw[e]at h;unfold Nx at h
     rwa [bd,Am]at h
    have H:H4 (Cr s L).t (AA s.g.bq i) (AA s.p.bq l.length)=some (isB s.t (AA s.g.bq i) (AA s.p.bq l.length)):=Y5 O o.1 w c.1;have R:idx (Cr s L).g.bq i=some (AA s.g.bq i):=AD z B;have S:idx (Cr s L).ek.bq (l.length:Int)=some (AA s.ek.bq l.length):=AD j E;have θ:DG (Cr s L) l i=some (s.ej&&l.any λx=>decide (i=x)):=mH (Cr s L) U i;have ε:idx (Cr s L).p.bq (l.length:Int)=some (AA s.p.bq l.length):=AD j v;have key:((Ax [] l).bind λC=>
      (Ax C [i]).bind λr=>
      (Ci m (Cr s L) r).bind λu=>
      some (.next (u,Ag (i+1)):CF (Aq×Int) Aq))=some (.next (Cr (Cr s L) (FK n (IZ s (l++[i]) [])),i+1)):=by
     have N:=Z6 n (Cr s L) (l++[i]) O ⟨hf.pn,hf.pe,hf.ends,hf.kinds,hf.small⟩ M (by show(l++[i]).length+n=s.p.bq.length;rw[a6];simp;omega) m U;have κ:FK n (IZ (Cr s L) (l++[i]) [])=FK n (IZ s (l++[i]) []):=bE n (IZ s (l++[i]) []) _;rw[κ]at N;rw[BM a?,bs,Ao b_,bs,N,bs,Au U U]
    rw [S,bs,θ,R,ε,key];simp only[bs];rw[H,Au (n:=i+1) U U];simp only[bs];have I:QL (IZ s l []) i=((decide (AA s.ek.bq l.length<0)||decide (AA s.ek.bq l.length=i))&&AA (AA (I7 s.t) (AA s.p.bq l.length)) (AA s.g.bq i)&&!(s.ej&&l.any λx=>decide (i=x))):=rfl;have η:AA (AA (I7 s.t) (AA s.p.bq l.length)) (AA s.g.bq i)=isB s.t (AA s.g.bq i) (AA s.p.bq l.length):=by
     rw [d];exact Eh (λk=>isB s.t k (AA s.p.bq l.length)) o.1 w
    have ζ:(decide (AA s.ek.bq l.length<0)||decide (AA s.ek.bq l.length=i))=!(decide (0<=AA s.ek.bq l.length)&&!decide (AA s.ek.bq l.length=i)):=by
     rw [Bool.not_and,Bool.not_not];congr 1;rw[<-decide_not];exact decide_eq_decide.2 U
    rw [I,η,ζ];generalize FK n (IZ s (l++[i]) [])=A;generalize decide (0<=AA s.ek.bq l.length)=c1;generalize decide (AA s.ek.bq l.length=i)=c2;generalize isB s.t (AA s.g.bq i) (AA s.p.bq l.length)=c3;generalize (s.ej&&l.any λx=>decide (i=x))=c6;cases c1<;>cases c2<;>cases c3<;>cases c6<;>first|rfl|(simp[PK M];try rfl)) (by rw[aN (by simp[Cr])]),CI,A_,FK]
   rfl
end Go.Sf.Sc
namespace Go.Sf.Sc
open Go Go.Sf
def FF(t:AC)(p g:ci)(pa:cE)(inj:Bool):AL:=⟨p,g,I7 t,pa,inj,5001,[],[],[]⟩
def JV(t:AC)(p g:ci)(pa:cE)(inj:Bool):List cE:=(FK p.bq.length (FF t p g pa inj)).take 5001
variable{t:AC}{p g:ci}
theorem rt{pa:cE}{inj:Bool}(d:A0 t)(hv:(BF t).2=0)(c:L0 (FF t p g pa inj)):GF t p g pa inj 5001=Y (JV t p g pa inj):=by
 unfold GF;rw[jT d (DT hv) hv,bs];have h:=lb (f:=FF t p g pa inj) c ⟨by show(0:Int)<=5001;omega,by show(5001:Int)<=10000;omega,by show((0:Nat):Int)<=5001;omega⟩ rfl rfl;rw[bB _ _ c rfl]at h;have e:AL.mk p g (I7 t) pa inj 5001 [] [] []=FF t p g pa inj:=rfl;rw[e,h];rfl
theorem yf{pa:cE}{inj:Bool}(hv:(BF t).2=0)(c:L0 (FF t p g pa inj)):PH t p g pa inj 5000=Y (JV t p g pa inj):=by
 unfold PH;have h:JN ⟨t,p,g,pa,inj,5000,[]⟩ []=Y (Cr ⟨t,p,g,pa,inj,5000,[]⟩ (FK p.bq.length (FF t p g pa inj))):=
  Gb (p.bq.length+1) λm d=>Z6 p.bq.length ⟨t,p,g,pa,inj,5000,[]⟩ [] (DT hv) c ⟨by show(0:Int)<=5000;omega,by show(5000:Int)<=9999;omega,by show((0:Nat):Int)<=5000+1;omega⟩ p? m d
 rw [h];rfl
end Go.Sf.Sc
namespace Go.Sf.Sc
open Go Go.Sf
def uA(n k:Int):Bool:=decide (k< -1)||decide (n<=k)
def V0(l:Fp)(n:Int):Int:=if l.any (uA n)=X then 6 else 0
theorem lj(l:Fp)(n:Int):Hj l n=Y (V0 l n):=by grind[Hj,V0,Mm,uA,SH]
end Go.Sf.Sc
namespace Go.Sf.Sc
open Go Go.Sf
theorem cp(t:AC)(g:ci):GM t g=Y (C1 t g):=by grind[GM,C1,Ky,SH,Kz,Yf]
def EO(t:AC)(p g:ci):Int:=if(BF t).2≠0 then(BF t).2 else if B8 p≠0 then B8 p else if B8 g≠0 then B8 g else if(C1 t p&&C1 t g)=X then 0 else 13
variable{t:AC}
theorem V4(hf:A0 t)(p g:ci):FE t p g=Y (EO t p g):=by
 unfold FE EO;rw[OU hf,bs];refine Dz λ_=>?_;have k:fq (ρ:=Int) (λ(j:Int)(_:Unit)=>
   (idx [p,g] j).bind λh=>
   (Dh h).bind λe=>
   if (!decide (e=0))=X then
   Y (.ret e)
   else
   Y (.next ())) 0 ([p,g].length:Int) ()=Y (if B8 p≠0 then .inr (B8 p)else if B8 g≠0 then .inr (B8 g)else .inl ()):=by
  show tl _ 2 0 ()=_;rw[FJ,show idx [p,g] 0=Y p from rfl,bs,M5,bs];by_cases c:B8 p=0
  .rw[aN v1,aN v1];show tl _ 1 (0+1) ()=_;rw[FJ,show idx [p,g] (0+1)=Y g from rfl,bs,M5,bs];by_cases d:B8 g=0
   .rw[aN (by simp[d]),aN (by simp[d])];rfl
   .rw[aE (by simp[d]),aE d]
  .rw[aE v1,aE c]
 rw [k];by_cases c:B8 p=0
 .by_cases d:B8 g=0
  .simp[c,d,CI];rw[cp,cp,bs];cases C1 t p<;>cases C1 t g<;>rfl
  .simp[c,d,not_false_eq_true,RI]
 .simp[c,not_false_eq_true,RI]
theorem oW(hf:A0 t)(p g:ci):MK t p g=Y (EO t p g):=by
 unfold MK EO;rw[P1 hf,bs];refine Dz λ_=>?_;rw[M6,bs];refine Dz λc=>?_;rw[M6,bs];refine Dz λd=>?_
 grind [Y7,Dw,C1]
end Go.Sf.Sc
namespace Go.Sf.Sc
open Go Go.Sf
variable{t:AC}{p g:ci}
theorem Yn{pa:cE}{inj:Bool}(h:EO t p g=0)(q:pa.bq.length=p.bq.length)(r:pa.ca.length=p.ca.length):(BF t).2=0/\L0 (FF t p g pa inj):=by
 unfold EO at h;by_cases hv:(BF t).2=0
 .rw[aN v_]at h;by_cases m:B8 p=0
  .rw[aN (by simp[m])]at h;by_cases o:B8 g=0
   .rw[aN i9]at h;by_cases c:(C1 t p&&C1 t g)=X
    .rw[kp]at c;have op:=Dw m;have j:=Dw o;have tp:=ET op c.1;have v:=ET j c.2;have w:(I7 t).length=t.bq.length:=by unfold I7;rw[bd,Am]
     refine ⟨hv,q,r,λe he=>?_,λn u=>?_,Nat.le_trans op.c9 U,Nat.le_trans op.d6 U,Nat.le_trans j.c9 U,Nat.le_trans j.d6 U⟩
     .have:=op.fit e he;exact⟨this.2.1.1,this.2.1.2,this.2.2.1,this.2.2.2⟩
     .have:=tp.1 n u;refine⟨this.1,by show n<((I7 t).length:Int);rw[w];exact this.2,λk d=>?_⟩;have d:=v.1 k d;refine⟨d.1,?_⟩;show k<((AA (I7 t) n).length:Int)
      grind [I7,Eh,Nx,bd,Am]
    grind
   grind
  grind
 grind
def Wq(t:AC)(p g:ci)(pa:cE)(inj:Bool):List cE×Int:=
 if EO t p g≠0 then([],EO t p g)else if¬(pa.bq.length=p.bq.length/\pa.ca.length=p.ca.length)then([],20)else
 if V0 pa.bq g.bq.length≠0 then([],V0 pa.bq g.bq.length)else if V0 pa.ca g.ca.length≠0 then([],V0 pa.ca g.ca.length)else
 if 5000<(JV t p g pa inj).length then([],3)else(JV t p g pa inj,0)
theorem oJ(hf:A0 t)(p g:ci)(pa:cE)(inj:Bool):HM t p g pa inj=Y (Wq t p g pa inj):=by
 unfold HM Wq;rw[V4 hf,bs];refine Gf λd=>?_;refine PY (by simp[z!,decide_eq_false_iff_not];omega) λc=>?_;have c:=Classical.not_not.1 c;rw[lj,bs];refine Gf λe=>?_;rw[lj,bs];refine Gf λh=>?_
 grind [Yn,It,rt,JV]
def Kw(p:ci):cE:=⟨B! p.bq.length (-1),B! p.ca.length (-1)⟩
variable{n:Nat}{i:Int}
theorem dk(c:0<=i)(d:i<n):BN (B! i.toNat (-1:Int)++B! (n-i.toNat) 0) i (-1)=B! (i+1).toNat (-1)++B! (n-(i+1).toNat) 0:=by
 unfold BN;rw[List.set_append_right _ _ V,show n-i.toNat=(n-(i+1).toNat)+1 by omega,List.replicate_succ,List.length_replicate,Nat.sub_self,List.set_cons_zero,show(i+1).toNat=i.toNat+1 by omega,List.replicate_succ',bk];rfl
theorem oU(h:p.bq.length<=100)(j:p.ca.length<=100):Nq p=Y (Kw p):=by
 unfold Nq;have m1:FV (p.bq.length:Int) (0:Int)=Y (B! p.bq.length 0):=by unfold FV;rw[aE U,A_]
 have e:FV (p.ca.length:Int) (0:Int)=Y (B! p.ca.length 0):=by unfold FV;rw[aE U,A_]
 rw [m1,bs,e,bs];rw[YY (λi=>(⟨B! i.toNat (-1)++B! (p.bq.length-i.toNat) 0,B! p.ca.length 0⟩:cE)) (a:=0) (b:=p.bq.length) U V,CI]
 .dsimp only;rw[YY (λi=>(⟨B! p.bq.length (-1),B! i.toNat (-1)++B! (p.ca.length-i.toNat) 0⟩:cE)) (a:=0) (b:=p.ca.length) U V,CI]
  .simp[Kw]
  .intro i c d;dsimp only;rw[aE a!,AD c a!,bs,dk c d,Au (n:=i+1) U U]
  .dsimp only;rw[aN V]
 .intro i c d;dsimp only;rw[aE a!,AD c a!,bs,dk c d,Au (n:=i+1) U U]
 .dsimp only;rw[aN V]
end Go.Sf.Sc
