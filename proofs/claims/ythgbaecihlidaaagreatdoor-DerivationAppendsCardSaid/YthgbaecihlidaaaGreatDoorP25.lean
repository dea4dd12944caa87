/- Plain lemmas: what the functions of the program and of the reference compute. -/
import Derived.Test.YthgbaecihlidaaaGreatDoorP1
import Derived.Test.YthgbaecihlidaaaGreatDoorEval
set_option linter.all false
set_option maxRecDepth 100000
namespace Go.Sf.Sc
open Go Go.Sf
variable{t:ej}{c:ea}
theorem mX(hf:A6 t)(p:ed)(e:Da c):C3 t p c=some (HP t p c):=by
 by_cases d:(A1 t).2=0
 .exact eZ hf d p e
 .unfold C3 HP;rw[U6 hf,bs];refine Dp fun h=>?_;exfalso;unfold EG at h;rw[az d]at h;exact d h
end Go.Sf.Sc
namespace Go.Sf.Sc
open Go Go.Sf
variable{α:Type}{l m:List α}
theorem nO[Inhabited α](b:α->α->Bool)(j:∀x∈l,∀y∈m,(b x y=true↔x=y))(o:l.length=m.length):n8 (fun i=>!b (AA l i) (AA m i)) 0 l.length=false↔l=m:=by
 rw [Bk];constructor
 .intro h;refine db o (fun i d e=>?_);have:=h i d e;rw[Bool.not_eq_false']at this;exact(j _ (AF d e) _ (AF d (by omega))).1 this
 .rintro rfl i d e;rw[Bool.not_eq_false'];exact(j _ (AF d e) _ (AF d e)).2 rfl
theorem lw[Inhabited α][DecidableEq α](r:l.length=m.length){k:Unit->K1}{j:Bool->K1}:fl (kq (ρ:=Bool) (fun(o:Int)(_:Unit)=>
 (idx l o).bind fun d=>
 (idx m o).bind fun e=>
 if (!decide (d=e))=true then
 some (.ret false)
 else
 some (.next ())) 0 (l.length:Int) ()) k j=if l=m then k ()else j false:=by
 rw [Br (fun i=>!decide (AA l i=AA m i)) false]
 .have:=nO (fun x y:α=>decide (x=y)) (l:=l) (m:=m) (fun _ _ _ _=>decide_eq_true_iff) r;by_cases h:l=m
  .rw[this.2 h,az h];rfl
  .rw[b6 h];cases u:n8 (fun i=>!decide (AA l i=AA m i)) 0 l.length
   .exact absurd (this.1 u) h
   .rfl
 .intro i q s _;rw[AC q s,bs,AC q (by omega),bs,Kl]
theorem VY[Inhabited α][DecidableEq α](l m:List α):(if(!decide ((l.length:Int)=(m.length:Int)))=true then
 some false
 else
 fl (kq (ρ:=Bool) (fun(q:Int)(_:Unit)=>
 (idx l q).bind fun d=>
 (idx m q).bind fun j=>
 if (!decide (d=j))=true then
 some (.ret false)
 else
 some (.next ())) 0 (l.length:Int) ()) (fun _=>
 some true) (fun r=>some r))=some (decide (l=m)):=by
 by_cases o:l.length=m.length
 .rw[b6 (by simp[o]),lw o];by_cases h:l=m
  .rw[az h,decide_eq_true h]
  .rw[b6 h,decide_eq_false h]
 .rw[az (by simp;omega),decide_eq_false (fun e=>o (by rw[e]))]
theorem lC(l m:Fp):slices_Equal_int l m=some (decide (l=m)):=VY l m
theorem aT(l m:Fp):IP l m=some (decide (l=m)):=VY l m
theorem Vk(l m:Fp):IS l m=some (decide (l=m)):=VY l m
end Go.Sf.Sc
namespace Go.Sf.Sc
open Go Go.Sf
mutual
def EO:ea->Nat
 |⟨_,kids,_,_⟩=>1+Pu kids
def Pu:List ea->Nat
 |[]=>0|k::l=>EO k+Pu l
end
mutual
def u0:ea->Nat
 |⟨k,kids,_,_⟩=>(if k=5 then 1 else 0)+oc kids
def oc:List ea->Nat
 |[]=>0|k::l=>max (u0 k) (oc l)
end
theorem R8(c:ea):EO c=1+Pu c.hT:=by cases c;rfl
variable{k:Int}
theorem lv{l:List ea}(d:0<=k)(e:k<l.length):l.drop k.toNat=AA l k::l.drop (k+1).toNat:=by
 rw [show(k+1).toNat=k.toNat+1 by omega,List.drop_eq_getElem_cons (by omega)];unfold AA;rw[List.getD_eq_getElem?_getD,List.getElem?_eq_getElem (by omega)];rfl
theorem V8:∀(N:Nat)(c:ea),SizeOf.sizeOf c<=N->(AI c).Sm->∀Aab:Int,0<=Aab->Aab<=1000->∃r,(∀n,N<=n->Cd n c Aab=some r)/\-1<=r/\r<=Aab-1/\(0<=r->Da c/\(EO c:Int)+r<=Aab)
 |0,c,h,_,_,_,_=>by have:=Dm c;omega|N+1,c,h,U,Aab,m0,m1=>by
  obtain ⟨K,L,C⟩:=Z1 U;obtain⟨M,y,O⟩:=Qj c.ed;obtain⟨P,E,Q⟩:=Va K;have step:∀n,N+1<=n->∃m,n=m+1/\N<=m:=fun n d=>⟨n-1,by omega,by omega⟩;cases M
  .refine⟨-1,fun n d=>?_,by omega,by omega,fun h=>by omega⟩;obtain⟨n,rfl,_⟩:=step n d;rw[Cd,y];rfl
  cases P
  .refine⟨-1,fun n d=>?_,by omega,by omega,fun h=>by omega⟩;obtain⟨n,rfl,_⟩:=step n d;rw[Cd,y,bs,E];rfl
  have loop:∀(m:Nat)(k left:Int),0<=k->k+m=c.hT.length->-1<=left->left<=1000->∃e v,(∀n,N<=n->Kj (ρ:=Int) (fun(q:Int×Int)=>
    if ((decide (q.2<(c.hT.length:Int)))&&(decide (0<=q.1)))=true then
    (idx c.hT q.2).bind fun z=>
    (Cd n z q.1).bind fun A=>
    some (.next (A,AK (q.2+1)))
    else
    some (.brk (q.1,q.2))) (left,k) (.inl (e,v)))/\-1<=e/\e<=left/\(0<=e->(∀j,k<=j->j<c.hT.length->Da (AA c.hT j))/\(Pu (c.hT.drop k.toNat):Int)+e<=left):=by
   intro m
   induction m with
   |zero=>
    intro k left x H D l1;refine⟨left,k,fun n d=>.brk ?_,D,by omega,fun _=>⟨fun j B w=>by omega,?_⟩⟩
    .rw[b6 (by simp;omega)]
    .rw[List.drop_of_length_le (by omega),Pu];omega
   |succ m T=>
    intro k left x H D l1;by_cases I:0<=left
    .have o:=AF (l:=c.hT) x (by omega);have:=EQ o;obtain⟨r,R,S,V,G⟩:=V8 N _ (by omega) (C _ o) left I l1;obtain⟨e,v,a1,a2,a3,u⟩:=T (k+1) r (by omega) (by omega) S (by omega);refine⟨e,v,fun n d=>.next (s':=(r,k+1)) ?_ (a1 n d),a2,by omega,fun s=>⟨fun j B w=>?_,?_⟩⟩
     .rw[az (by simp;omega),AC x (by omega),bs,R n d,bs,AV (by omega) (by omega)]
     .by_cases J:j=k
      .subst J;exact(G (by omega)).1
      .exact(u s).1 j (by omega) w
     .have y:=(G (by omega)).2;have E:=(u s).2;rw[lv x (by omega),Pu];omega
    .refine⟨left,k,fun n d=>.brk ?_,D,by omega,fun h=>by omega⟩;rw[b6 (by simp;omega)]
  obtain ⟨e,v,a1,a2,a3,u⟩:=loop c.hT.length 0 (Aab-1) (by omega) (by omega) (by omega) (by omega);refine⟨e,fun n d=>?_,a2,a3,fun s=>⟨.mk c (O rfl) (Q rfl) (fun k C=>?_),?_⟩⟩
  .obtain⟨n,rfl,F⟩:=step n d;rw[Cd,y,bs,E];simp only[bs,Bool.not_true,Bool.false_eq_true,if_false];rw[AV (n:=Aab-1) (by omega) (by omega),(a1 n F).eq,B6]
  .obtain⟨j,B,w,rfl⟩:=Bh C;exact(u s).1 j B w
  .have:=(u s).2;rw[show(0:Int).toNat=0 from rfl,List.drop_zero]at this;rw[R8];omega
variable{c:ea}
theorem dr(d:(AI c).Sm):∃b,If c=some b/\(b=true->Da c/\EO c<=40):=by
 obtain ⟨r,j,_,_,o⟩:=V8 (SizeOf.sizeOf c) c (bk _) d 40 (by omega) (by omega);have e:OY c 40=some r:=Ey (SizeOf.sizeOf c) j;unfold If;rw[e];exact⟨_,rfl,fun h=>by have:=o (by simpa using h);exact⟨this.1,by have:=this.2;simp at h;omega⟩⟩
theorem Tl:∀{l:List ea}{k:ea},k∈l->EO k<=Pu l
 |x::l,k,h=>by
  rw [Pu];rcases List.mem_cons.1 h with rfl|h
  .omega
  .have:=Tl h;omega
end Go.Sf.Sc
namespace Go.Sf.Sc
open Go Go.Sf
class PL(α:Type)where
 at_:α->Int->Int
 ok:α->Nat->Prop
instance:PL Fp:=⟨AA,fun l n=>l.length=n⟩
instance:PL (Option Fp):=⟨fun o i=>match o with|none=>-1|some l=>AA l i,fun o n=>match o with|none=>True|some l=>l.length=n⟩
structure Nq(f:AH):Prop where
 pn:PL.ok f.mo.d5 f.p.d5.length
 pe:PL.ok f.mo.d7 f.p.d7.length
 ends:∀e∈f.p.d7,0≤e.nd/\e.nd<f.p.d5.length/\0≤e.To/\e.To<f.p.d5.length
 kinds:∀n∈f.p.d5,0<=n/\n<f.is.length/\∀t∈f.g.d5,0<=t/\t<(AA f.is n).length
 small:f.p.d5.length<=1000/\f.p.d7.length<=1000/\f.g.d5.length<=1000/\f.g.d7.length<=1000
def I0(f:AH)(i k:Int):Bool:=
 (decide (PL.at_ f.mo.d7 i<0)||decide (PL.at_ f.mo.d7 i=k))&&decide (AA f.g.d7 k=⟨(AA f.p.d7 i).mt,AA f.ek (AA f.p.d7 i).nd,AA f.ek (AA f.p.d7 i).To⟩)
variable{α:Type}{l:List α}
theorem eU(h:l≠[]):Tx l=some ():=by grind[Tx]
variable{i:Int}
theorem Ui{l:Fp}(e:0<=i)(d:i<l.length):((Tx l).bind fun _=>(idx l i).bind fun x=>some x)=some (AA l i):=by
 rw [eU (by intro h;subst h;simp at d;omega),bs,AC e d,bs]
variable{n:Nat}
theorem X9:∀{l},PL.ok l n->0<=i->i<n->KE l i=some (PL.at_ l i):=by
 intro l h d e
 first
  |(cases l with
    |none=>rfl|some l=>exact Ui d (by have:l.length=n:=h;omega))
  |exact Ui d (by have:l.length=n:=h;omega)
variable{f:AH}{k:Int}
theorem ey(hf:Nq f)(d:0<=i)(e:i<f.p.d7.length)(h:0<=k)(j:k<f.g.d7.length)(o:(AA f.p.d7 i).nd<f.ek.length)(q:(AA f.p.d7 i).To<f.ek.length):Db f i k=some (I0 f i k):=by
 have he:=hf.ends _ (AF d e);unfold Db I0;rw[AC d e,bs,X9 hf.pe d e,bs,AC h j,bs,AC he.1 o,bs,AC he.2.2.1 q,bs]
 grind
def NB(f:AH):Bool:=!n8 (fun i=>decide (max (AA f.p.d7 i).nd (AA f.p.d7 i).To=(f.ek.length:Int)-1)&&!n8 (fun k=>I0 f i k) 0 f.g.d7.length) 0 f.p.d7.length
variable{b:Int}
theorem lh{f:Int->Bool->Option (Bu Bool Bool)}(p:Int->Bool)(h:∀i,0<=i->i<b->f i false=some (if p i=true then .brk true else .next false)):kq f 0 b false=some (.inl (n8 p 0 b)):=by
 have key:∀(m:Nat)(i:Int),0<=i->i+m=b->Aaa f m i false=some (.inl (n8 p i b)):=by
  intro m
  induction m with
  |zero=>
   intro i d hi;have:n8 p i b=false:=by rw[Bk];intro j q r;omega
   rw [this];rfl
  |succ m u=>
   intro i d hi;rw[EN,h i d (by omega)];by_cases o:p i=true
   .have:n8 p i b=true:=by rw[Cf];exact⟨i,Int.le_refl _,by omega,o⟩
    rw [az o,this]
   .have e:n8 p i b=n8 p (i+1) b:=by
     rw [Bool.eq_iff_iff,Cf,Cf]
     grind
    grind
 unfold kq;by_cases s:0<=b
 .grind
 .have:n8 p 0 b=false:=by rw[Bk];intro j q r;omega
  rw [this,show(b-0).toNat=0 by omega];rfl
theorem cL(hf:Nq f)(r:0<f.ek.length)(j:f.ek.length<=1000):B9 f=some (NB f):=by
 unfold B9 NB;rw[Br (fun i=>decide (max (AA f.p.d7 i).nd (AA f.p.d7 i).To=(f.ek.length:Int)-1)&&!n8 (fun k=>I0 f i k) 0 f.g.d7.length) false]
 .generalize n8 (fun i=>decide (max (AA f.p.d7 i).nd (AA f.p.d7 i).To=(f.ek.length:Int)-1)&&!n8 (fun k=>I0 f i k) 0 f.g.d7.length) 0 f.p.d7.length=b;cases b<;>rfl
 .intro i d e _;rw[AC d e,bs,AV (n:=(f.ek.length:Int)-1) (by omega) (by omega)];by_cases h:max (AA f.p.d7 i).nd (AA f.p.d7 i).To=(f.ek.length:Int)-1
  .rw[b6 (by simp[h]),lh (fun k=>I0 f i k) (fun k o q=>by
    rw [ey hf d e o q (by omega) (by omega),bs,Kl])]
   generalize n8 (fun k=>I0 f i k) 0 f.g.d7.length=b;rw[decide_eq_true h];cases b<;>rfl
  grind
def A7(n:Nat):Fp:=(List.range n).map Int.ofNat
theorem St(n:Nat):A7 (n+1)=A7 n++[(n:Int)]:=by grind[A7,List.range_succ]
def SZ(f:AH)(k:Int):Bool:=(decide (PL.at_ f.mo.d5 f.ek.length<0)||decide (PL.at_ f.mo.d5 f.ek.length=k))&&AA (AA f.is (AA f.p.d5 f.ek.length)) (AA f.g.d5 k)&&!(f.hV&&f.ek.any fun x=>decide (k=x))
def Ro(f:AH)(k:Int):Bool:=I0 f f.em.length k&&!(f.hV&&f.em.any fun x=>decide (k=x))
def FV:Nat->AH->List eb
 |0,f=>[⟨f.ek,f.em⟩]|n+1,f=>(A7 f.g.d7.length).flatMap fun k=>if Ro f k=true then FV n {f with em:=f.em++[k]}else[]
def Ii:Nat->AH->List eb
 |0,f=>FV f.p.d7.length f|n+1,f=>(A7 f.g.d5.length).flatMap fun k=>if(SZ f k&&NB {f with ek:=f.ek++[k]})=true then Ii n {f with ek:=f.ek++[k]}else[]
theorem gH(a b:List α)(m:Nat):((a.take m)++b).take m=(a++b).take m:=by
 by_cases h:a.length<=m
 .rw[List.take_of_length_le h]
 grind
end Go.Sf.Sc
namespace Go.Sf.Sc
open Go Go.Sf
def Tz(f:AH)(o:List eb):AH:={f with out:=o}
variable{f:AH}
theorem Nq.out(h:Nq f)(o:List eb):Nq (Tz f o):=⟨h.pn,h.pe,h.ends,h.kinds,h.small⟩
theorem Ti:∀(n:Nat)(f:AH)(o:List eb),FV n (Tz f o)=FV n f
 |0,_,_=>rfl|n+1,f,o=>by
  rw [FV,FV];refine congrArg (fun F=>(A7 f.g.d7.length).flatMap F) (funext fun k=>?_);have:=Ti n {f with em:=f.em++[k]} o;show(if Ro f k=true then FV n (Tz {f with em:=f.em++[k]} o)else[])=_;rw[this]
theorem Xd:∀(n:Nat)(f:AH)(o:List eb),Ii n (Tz f o)=Ii n f
 |0,f,o=>Ti _ f o|n+1,f,o=>by
  rw [Ii,Ii];refine congrArg (fun F=>(A7 f.g.d5.length).flatMap F) (funext fun k=>?_);have:=Xd n {f with ek:=f.ek++[k]} o;show(if(SZ f k&&NB {f with ek:=f.ek++[k]})=true then Ii n (Tz {f with ek:=f.ek++[k]} o)else[])=_;rw[this]
def BC(f:AH)(l:List eb):AH:=Tz f ((f.out++l).take f.Aab.toNat)
structure VT(f:AH):Prop where
 m0:0<=f.Aab
 m1:f.Aab<=10000
 out:(f.out.length:Int)<=f.Aab
theorem Jx(h:VT f):BC f []=f:=by
 unfold BC;rw[List.append_nil,List.take_of_length_le (by have:=h.out;have:=h.m0;omega)];rfl
theorem WL(h:(f.out.length:Int)=f.Aab)(l:List eb):BC f l=f:=by
 unfold BC;rw[List.take_append_of_le_length (by omega),List.take_of_length_le (by omega)];rfl
theorem WN(h:VT f)(l:List eb):VT (BC f l):=by
 refine ⟨h.m0,h.m1,?_⟩;have:=h.m0;show(((f.out++l).take f.Aab.toNat).length:Int)<=f.Aab
 grind
theorem WM(f:AH)(a b:List eb):BC (BC f a) b=BC f (a++b):=by
 show Tz f ((((f.out++a).take f.Aab.toNat)++b).take f.Aab.toNat)=_;rw[gH,d4];rfl
theorem Ub:∀(n:Nat)(f:AH),Nq f->VT f->f.ek.length=f.p.d5.length->f.em.length+n=f.p.d7.length->∀m,n+1<=m->A4 m f=some (BC f (FV n f))
 |n,f,hf,u,M,he,m,y=>by
  obtain ⟨m,rfl⟩:∃k,m=k+1:=⟨m-1,by omega⟩;have N:=hf.small;have O:=u.m0;have P:=u.m1;have Q:=u.out;rw[A4];by_cases e:(f.out.length:Int)=f.Aab
  .grind[WL]
  rw [b6 (by simpa using e),b6 (by simp;omega)]
  match n,he,y with
  |0,he,y=>
   rw [b6 (by simp;omega)];unfold slices_Clone_int;rw[Bq (by unfold AZ;omega),bs,Bq (by unfold AZ;omega),bs,AY (by simp;unfold AZ;omega),bs,bs];unfold BC;rw[List.take_of_length_le (by simp[FV];omega)];rfl
  |n+1,he,y=>
   rw [az (by simp;omega)];have F:∀k,Ro f k=true->Nq {f with em:=f.em++[k]}:=fun k _=>⟨hf.pn,hf.pe,hf.ends,hf.kinds,hf.small⟩;rw[Bz (a:=0) (s:=f) (fun i=>BC f ((A7 i.toNat).flatMap fun k=>if Ro f k=true then FV n {f with em:=f.em++[k]}else[])) (by omega) (Jx u)]
   .grind[Int.toNat_natCast,FV]
   .intro i C D;have E:A7 (i+1).toNat=A7 i.toNat++[i]:=by
     rw [show(i+1).toNat=i.toNat+1 by omega,St];rw[show((i.toNat:Nat):Int)=i by omega]
    have G:∀l,BC f ((A7 (i+1).toNat).flatMap l)=BC (BC f ((A7 i.toNat).flatMap l)) (l i):=by
     intro l;rw[WM,E,List.flatMap_append];simp
    rw [G];generalize (A7 i.toNat).flatMap (fun k=>if Ro f k=true then FV n {f with em:=f.em++[k]}else[])=L;have o:=WN u L;have v:Nq (BC f L):=hf.out _;have z:=hf.ends _ (AF (l:=f.p.d7) (i:=(f.em.length:Int)) (by omega) (by omega));rw[ey v (i:=(f.em.length:Int)) (k:=i) (by omega) (by show _<(f.p.d7.length:Int);omega) C (by exact D) (by show(AA f.p.d7 f.em.length).nd<(f.ek.length:Int);omega) (by show(AA f.p.d7 f.em.length).To<(f.ek.length:Int);omega),bs];have H:slices_Contains_int (BC f L).em i=some (f.em.any fun x=>decide (i=x)):=Kr f.em i;rw[H];have q:I0 (BC f L) f.em.length i=I0 f f.em.length i:=rfl;have key:((Au (BC f L).em [i]).bind fun h=>
      (A4 m (AH.mk (BC f L).p (BC f L).g (BC f L).is (BC f L).mo (BC f L).hV (BC f L).Aab (BC f L).ek h (BC f L).out)).bind fun d=>
      (slc d.em 0 (f.em.length:Int)).bind fun j=>
      some (AH.mk d.p d.g d.is d.mo d.hV d.Aab d.ek j d.out))=some (BC (BC f L) (FV n {f with em:=f.em++[i]})):=by
     have I:Au (BC f L).em [i]=some (f.em++[i]):=AY (by show f.em.length+1<=AZ;unfold AZ;omega);have B:=Ub n {BC f L with em:=f.em++[i]} ⟨hf.pn,hf.pe,hf.ends,hf.kinds,hf.small⟩ ⟨o.m0,o.m1,o.out⟩ M (by show(f.em++[i]).length+n=f.p.d7.length;simp;omega) m (by omega);have J:FV n {BC f L with em:=f.em++[i]}=FV n {f with em:=f.em++[i]}:=Ti n {f with em:=f.em++[i]} _;rw[J]at B;rw[I,bs];show(A4 m {BC f L with em:=f.em++[i]}).bind _=_;rw[B,bs];have K:slc (BC {BC f L with em:=f.em++[i]} (FV n {f with em:=f.em++[i]})).em 0 (f.em.length:Int)=some f.em:=by
      show slc (f.em++[i]) 0 (f.em.length:Int)=_;rw[Fm (by omega) (by rw[cE];omega),Int.toNat_natCast,List.take_left]
     rw [K];rfl
    rw [key,q];have w:Ro f i=(I0 f f.em.length i&&!(f.hV&&f.em.any fun x=>decide (i=x))):=rfl;have r:(BC f L).hV=f.hV:=rfl;rw[w,r];generalize R:FV n {f with em:=f.em++[i]}=A;cases I0 f f.em.length i
    .simp only[Bool.false_and,Bool.false_eq_true,if_false,Jx o];rfl
    .cases f.hV
     .rfl
     .cases f.em.any fun x=>decide (i=x)
      .rfl
      .simp only[Bool.and_self,Bool.not_true,Bool.and_false,Bool.false_eq_true,if_false,Jx o];rfl
end Go.Sf.Sc
namespace Go.Sf.Sc
open Go Go.Sf
theorem Uc:∀(n:Nat)(f:AH),Nq f->VT f->f.em=[]->f.ek.length+n=f.p.d5.length->∀m,n+f.p.d7.length+1<=m->A4 m f=some (BC f (Ii n f))
 |0,f,hf,r,he,R,m,S=>by
  grind [Ii,Ub]
 |n+1,f,hf,r,he,R,m,S=>by
  obtain ⟨m,rfl⟩:∃k,m=k+1:=⟨m-1,by omega⟩;have T:=hf.small;have U:=r.m0;have V:=r.m1;have W:=r.out;rw[A4];by_cases j:(f.out.length:Int)=f.Aab
  .grind[WL]
  rw [b6 (by simpa using j),az (by simp;omega)];rw[Bz (a:=0) (s:=f) (fun i=>BC f ((A7 i.toNat).flatMap fun k=>if(SZ f k&&NB {f with ek:=f.ek++[k]})=true then Ii n {f with ek:=f.ek++[k]}else[])) (by omega) (Jx r)]
  .grind[Int.toNat_natCast,Ii]
  .intro i B C;have F:A7 (i+1).toNat=A7 i.toNat++[i]:=by
    rw [show(i+1).toNat=i.toNat+1 by omega,St];rw[show((i.toNat:Nat):Int)=i by omega]
   have G:∀l,BC f ((A7 (i+1).toNat).flatMap l)=BC (BC f ((A7 i.toNat).flatMap l)) (l i):=by
    intro l;rw[WM,F,List.flatMap_append];simp
   rw [G];generalize (A7 i.toNat).flatMap (fun k=>if(SZ f k&&NB {f with ek:=f.ek++[k]})=true then Ii n {f with ek:=f.ek++[k]}else[])=L;have o:=WN r L;have v:(f.ek.length:Int)<(f.p.d5.length:Int):=by omega
   have q:=hf.kinds _ (AF (l:=f.p.d5) (i:=(f.ek.length:Int)) (by omega) v);have w:=q.2.2 _ (AF B C);have key:((Au (BC f L).ek [i]).bind fun e=>
     (B9 (AH.mk (BC f L).p (BC f L).g (BC f L).is (BC f L).mo (BC f L).hV (BC f L).Aab e (BC f L).em (BC f L).out)).bind fun u=>
     if u=true then
     (A4 m (AH.mk (BC f L).p (BC f L).g (BC f L).is (BC f L).mo (BC f L).hV (BC f L).Aab e (BC f L).em (BC f L).out)).bind fun d=>
     (slc d.ek 0 (f.ek.length:Int)).bind fun h=>
     some (AH.mk d.p d.g d.is d.mo d.hV d.Aab h d.em d.out)
     else
     (slc e 0 (f.ek.length:Int)).bind fun h=>
     some (AH.mk (BC f L).p (BC f L).g (BC f L).is (BC f L).mo (BC f L).hV (BC f L).Aab h (BC f L).em (BC f L).out))=some (BC (BC f L) (if NB {f with ek:=f.ek++[i]}=true then Ii n {f with ek:=f.ek++[i]}else[])):=by
    have H:Au (BC f L).ek [i]=some (f.ek++[i]):=AY (by show f.ek.length+1<=AZ;unfold AZ;omega);have D:slc (f.ek++[i]) 0 (f.ek.length:Int)=some f.ek:=by
     rw [Fm (by omega) (by rw[cE];omega),Int.toNat_natCast,List.take_left]
    have I:B9 {BC f L with ek:=f.ek++[i]}=some (NB {f with ek:=f.ek++[i]}):=cL (f:={BC f L with ek:=f.ek++[i]}) ⟨hf.pn,hf.pe,hf.ends,hf.kinds,hf.small⟩ (by show 0<(f.ek++[i]).length;simp) (by show(f.ek++[i]).length<=1000;rw[cE];simp;omega);have E:=Uc n {BC f L with ek:=f.ek++[i]} ⟨hf.pn,hf.pe,hf.ends,hf.kinds,hf.small⟩ ⟨o.m0,o.m1,o.out⟩ he (by show(f.ek++[i]).length+n=f.p.d5.length;rw[cE];simp;omega) m (by show n+f.p.d7.length+1<=m;omega);have J:Ii n {BC f L with ek:=f.ek++[i]}=Ii n {f with ek:=f.ek++[i]}:=Xd n {f with ek:=f.ek++[i]} _;rw[J]at E;rw[H,bs];show(B9 {BC f L with ek:=f.ek++[i]}).bind _=_;rw[I,bs];cases NB {f with ek:=f.ek++[i]}
    .rw[b6 (by decide),b6 (by decide),D,Jx o];rfl
    .rw[az rfl,az rfl];show(A4 m {BC f L with ek:=f.ek++[i]}).bind _=_;rw[E,bs];have K:slc (BC {BC f L with ek:=f.ek++[i]} (Ii n {f with ek:=f.ek++[i]})).ek 0 (f.ek.length:Int)=some f.ek:=D;rw[K];rfl
   have M:KE (BC f L).mo.d5 (f.ek.length:Int)=some (PL.at_ f.mo.d5 f.ek.length):=X9 (n:=f.p.d5.length) hf.pn (by omega) (by omega);have N:idx (BC f L).p.d5 (f.ek.length:Int)=some (AA f.p.d5 f.ek.length):=AC (by omega) v;have hi:idx (BC f L).is (AA f.p.d5 f.ek.length)=some (AA f.is (AA f.p.d5 f.ek.length)):=AC q.1 q.2.1;have O:idx (AA f.is (AA f.p.d5 f.ek.length)) (AA f.g.d5 i)=some (AA (AA f.is (AA f.p.d5 f.ek.length)) (AA f.g.d5 i)):=AC w.1 w.2;have P:slices_Contains_int (BC f L).ek i=some (f.ek.any fun x=>decide (i=x)):=Kr f.ek i;have y:(BC f L).hV=f.hV:=rfl;have z:SZ f i=((decide (PL.at_ f.mo.d5 f.ek.length<0)||decide (PL.at_ f.mo.d5 f.ek.length=i))&&AA (AA f.is (AA f.p.d5 f.ek.length)) (AA f.g.d5 i)&&!(f.hV&&f.ek.any fun x=>decide (i=x))):=rfl;rw[AC B C,bs,M,bs,N,bs,hi,bs,O,bs,P,key,y,z];generalize AA (AA f.is (AA f.p.d5 f.ek.length)) (AA f.g.d5 i)=c2;have Q:(decide (0<=PL.at_ f.mo.d5 f.ek.length)&&!decide (PL.at_ f.mo.d5 f.ek.length=i))=!(decide (PL.at_ f.mo.d5 f.ek.length<0)||decide (PL.at_ f.mo.d5 f.ek.length=i)):=by
    rw [Bool.not_or];congr 1;rw[<-decide_not];exact decide_eq_decide.2 (by omega)
   rw [Q];generalize (decide (PL.at_ f.mo.d5 f.ek.length<0)||decide (PL.at_ f.mo.d5 f.ek.length=i))=c1;generalize NB {f with ek:=f.ek++[i]}=c5;generalize Ii n {f with ek:=f.ek++[i]}=A;cases c1
   .simp only[Bool.false_and,Bool.false_eq_true,if_false,Jx o];rfl
   .cases c2
    .simp only[Bool.and_false,Bool.false_and,Bool.false_eq_true,if_false,Jx o];rfl
    .cases f.hV
     .rfl
     .cases f.ek.any fun x=>decide (i=x)
      .rfl
      .simp only[Bool.and_self,Bool.not_true,Bool.and_false,Bool.false_and,Bool.false_eq_true,if_false,Jx o];rfl
variable{f:AH}
theorem eh(hf:Nq f)(d:VT f)(he:f.em=[])(e:f.ek=[]):F8 f=some (BC f (Ii f.p.d5.length f)):=
 Ey (f.p.d5.length+f.p.d7.length+1) fun m h=>Uc _ f hf d he (by rw[e];simp) m h
end Go.Sf.Sc
namespace Go.Sf.Sc
open Go Go.Sf
theorem BD(n:Nat):(A7 n).length=n:=by simp[A7]
variable{n:Nat}{i:Int}
theorem ES:i∈A7 n↔0<=i/\i<n:=by
 unfold A7;rw[List.mem_map];constructor
 .grind
 .rintro⟨d,e⟩;exact⟨i.toNat,List.mem_range.2 (by omega),by show((i.toNat:Nat):Int)=i;omega⟩
variable{α:Type}
theorem IY[Inhabited α](F:Int->α)(d:0<=i)(e:i<n):AA ((A7 n).map F) i=F i:=by
 unfold AA A7
 grind
theorem I7(d:0<=i):A7 (i+1).toNat=A7 i.toNat++[i]:=by
 rw [show(i+1).toNat=i.toNat+1 by omega,St,show((i.toNat:Nat):Int)=i by omega]
def QB(t:ej)(a:Int):ae:=(A7 t.d5.length).map fun k=>Gt t k a
def Lh(t:ej):List ae:=(A7 t.d5.length).map (QB t)
variable{t:ej}{a:Int}
theorem mU(hf:A6 t)(h:E8 t)(hv:(A1 t).2=0)(a0:0<=a)(a1:a<t.d5.length):H3 t a=some ((A7 t.d5.length).filter fun i=>Gt t i a,0):=by
 have e:=h.ek;unfold H3;have d:Je t a=true:=by simp[Je,a0,a1]
 rw [Vj hf,bs,b6 (by simp[hv,d])];rw[Bz (fun i=>(A7 i.toNat).filter fun i=>Gt t i a) (by omega) (by rfl),bs,Int.toNat_natCast]
 grind [io,I7,A7,Gt,List.length_filter_le,BD,AY,AZ]
theorem nP{l:Fp}(u:∀x∈l,0<=x/\x<n):pq (fun(v:Int)(r:ae)=>
  (idx l v).bind fun d=>
  (idx r d).bind fun _=>
  some (BN r d true)) 0 (l.length:Int) (List.replicate n false)=some ((A7 n).map fun k=>l.any fun x=>decide (x=k)):=by
 rw [Bz (fun j=>(A7 n).map fun k=>(l.take j.toNat).any fun x=>decide (x=k)) (by omega) (by
  refine List.ext_getElem (by simp[BD]) (fun j o z=>by simp))]
 .rw[Int.toNat_natCast,List.take_length]
 .intro j q o;have s:=u _ (AF q o);rw[AC q o,bs,AC s.1 (by rw[d3,BD];exact s.2),bs,B3 q o];congr 1;unfold BN;refine List.ext_getElem (by simp) (fun k A w=>?_);have y:k<n:=by simpa[BD]using w
  rw [List.getElem_set];have e:(A7 n)[k]'(by rw[BD];exact y)=(k:Int):=by simp[A7]
  simp only[List.getElem_map,e,List.any_append,List.any_cons,List.any_nil,Bool.or_false];by_cases h:(AA l j).toNat=k
  .rw[az h,decide_eq_true (show AA l j=(k:Int)by omega),Bool.or_true]
  .rw[b6 h,decide_eq_false (show¬AA l j=(k:Int)by omega),Bool.or_false]
theorem cN(hf:A6 t)(h:E8 t)(hv:(A1 t).2=0):F5 t=some (Lh t):=by
 have y:=h.ek;unfold F5;rw[Bz (fun i=>(A7 i.toNat).map (QB t)) (by omega) (by rfl),bs,Int.toNat_natCast]
 .rfl
 .intro i r u;have w:J1 (t.d5.length:Int) false=some (List.replicate t.d5.length false):=by
   unfold J1;rw[az (by omega),Int.toNat_natCast]
  rw [w,bs,mU hf h hv r u,bs];have:=nP (n:=t.d5.length) (l:=(A7 t.d5.length).filter fun k=>Gt t k i) (fun x j=>ES.1 (List.mem_filter.1 j).1);show(pq (fun(s:Int)(q:ae)=>
   (idx ((A7 t.d5.length).filter fun k=>Gt t k i) s).bind fun d=>
   (idx q d).bind fun _=>
   some (BN q d true)) 0 (((A7 t.d5.length).filter fun k=>Gt t k i).length:Int) (List.replicate t.d5.length false)).bind _=_
  rw [this,bs,AY (by rw[d3,BD];simp;unfold AZ;omega),bs,I7 r,List.map_append];congr 2;simp only[List.map_cons,List.map_nil];congr 1;unfold QB;refine List.map_congr_left (fun k o=>?_);have o:=ES.1 o;rw[Bool.eq_iff_iff,List.any_eq_true];constructor
  .rintro⟨x,j,e⟩;rw[zzX]at e;subst e;exact(List.mem_filter.1 j).2
  .intro v;exact⟨k,List.mem_filter.2 ⟨ES.2 o,v⟩,by simp⟩
end Go.Sf.Sc
namespace Go.Sf.Sc
open Go Go.Sf
def Kk:Nat->AH->List eb
 |0,f=>FV f.p.d7.length f|n+1,f=>(A7 f.g.d5.length).flatMap fun k=>if SZ f k=true then Kk n {f with ek:=f.ek++[k]}else[]
def gU(f:AH)(i:Int):Prop:=0<=i/\i<f.p.d7.length/\0<=(AA f.p.d7 i).nd/\(AA f.p.d7 i).nd<f.ek.length/\0<=(AA f.p.d7 i).To/\(AA f.p.d7 i).To<f.ek.length/\∀k:Int,0<=k->k<f.g.d7.length->I0 f i k=false
theorem Y0(f:AH)(i k:Int):I0 f i k=((decide (PL.at_ f.mo.d7 i<0)||decide (PL.at_ f.mo.d7 i=k))&&decide (AA f.g.d7 k=⟨(AA f.p.d7 i).mt,AA f.ek (AA f.p.d7 i).nd,AA f.ek (AA f.p.d7 i).To⟩)):=rfl
variable{α:Type}{i:Int}
theorem Js[Inhabited α](l:List α)(x:α)(d:0<=i)(e:i<l.length):AA (l++[x]) i=AA l i:=by
 unfold AA
 grind
theorem dk:∀(n:Nat)(f:AH)(i:Int),gU f i->(f.em.length:Int)<=i->i<f.em.length+n->FV n f=[]
 |0,f,i,_,e,h=>by omega|n+1,f,i,hd,e,h=>by
  rw [FV];refine List.flatMap_eq_nil_iff.2 (fun k d=>?_);have d:=ES.1 d;by_cases he:(f.em.length:Int)=i
  .have:Ro f k=false:=by
    unfold Ro;rw[he,hd.2.2.2.2.2.2 k d.1 d.2];rfl
   grind
  .split
   .exact dk n {f with em:=f.em++[k]} i hd (by show((f.em++[k]).length:Int)<=i;rw[cE];simp;omega) (by show i<((f.em++[k]).length:Int)+n;rw[cE];simp;omega)
   .rfl
theorem dl:∀(n:Nat)(f:AH)(i:Int),f.em=[]->gU f i->Kk n f=[]
 |0,f,i,he,hd=>by
  rw [Kk];exact dk _ f i hd (by rw[he];simpa using hd.1) (by rw[he];simpa using hd.2.1)
 |n+1,f,i,he,hd=>by
  rw [Kk];refine List.flatMap_eq_nil_iff.2 (fun k q=>?_);split
  .refine dl n {f with ek:=f.ek++[k]} i he ?_;obtain⟨d,e,h,v,o,w,x⟩:=hd;have u:((f.ek++[k]).length:Int)=f.ek.length+1:=by rw[cE];simp
   refine ⟨d,e,h,?_,o,?_,fun j r s=>?_⟩
   .grind
   .grind
   grind [Y0,AA,Js]
  .rfl
variable{f:AH}
theorem iu(hf:Nq f)(h:NB f=false):∃i,gU f i:=by
 unfold NB at h;rw[Bool.not_eq_false',Cf]at h;obtain⟨i,d,e,h⟩:=h;rw[tg,zzX,Bool.not_eq_true',Bk]at h;have he:=hf.ends _ (AF d e);exact⟨i,d,e,he.1,by omega,he.2.2.1,by omega,h.2⟩
theorem Xc:∀(n:Nat)(f:AH),Nq f->f.em=[]->Ii n f=Kk n f
 |0,_,_,_=>rfl|n+1,f,hf,he=>by
  rw [Ii,Kk];refine congrArg (fun F=>(A7 f.g.d5.length).flatMap F) (funext fun k=>?_);have d:Nq {f with ek:=f.ek++[k]}:=⟨hf.pn,hf.pe,hf.ends,hf.kinds,hf.small⟩;cases SZ f k
  .rfl
  .cases e:NB {f with ek:=f.ek++[k]}
   .obtain⟨i,hd⟩:=iu d e
    grind [dl]
   .simp;exact Xc n _ d he
end Go.Sf.Sc
namespace Go.Sf.Sc
open Go Go.Sf
variable{a b:Int}
theorem qp{σ ρ:Type}{f:σ×Int->Option (Bu (σ×Int) ρ)}(g:Int->σ){s:σ}(d:a<=b)(e:s=g a)(h:∀i,a<=i->i<b->f (g i,i)=some (.next (g (i+1),i+1)))(j:f (g b,b)=some (.brk (g b,b))):C7 f (s,a)=some (.inl (g b,b)):=by
 subst e;have key:∀(n:Nat)(i:Int),a<=i->i+n=b->Kj f (g i,i) (.inl (g b,b)):=by
  intro n
  induction n with
  |zero=>
   intro i _ hi;have:i=b:=by omega
   subst this;exact .brk j
  |succ n q=>
   intro i o r;exact .next (h i o (by omega)) (q (i+1) (by omega) (by omega))
 exact (key (b-a).toNat a (Int.le_refl _) (by omega)).eq
end Go.Sf.Sc
namespace Go.Sf.Sc
open Go Go.Sf
end Go.Sf.Sc
namespace Go.Sf.Sc
open Go Go.Sf
end Go.Sf.Sc
namespace Go.Sf.Sc
open Go Go.Sf
def FF(t:ej)(p g:d6)(pa:eb)(inj:Bool):AH:=⟨p,g,Lh t,pa,inj,5001,[],[],[]⟩
def Jw(t:ej)(p g:d6)(pa:eb)(inj:Bool):List eb:=(Kk p.d5.length (FF t p g pa inj)).take 5001
variable{t:ej}{p g:d6}{pa:eb}{inj:Bool}
theorem mY(j:A6 t)(hv:(A1 t).2=0)(d:Nq (FF t p g pa inj)):E4 t p g pa inj 5001=some (Jw t p g pa inj):=by
 unfold E4;rw[cN j (C8 hv) hv,bs];have h:=eh (f:=FF t p g pa inj) d ⟨by show(0:Int)<=5001;omega,by show(5001:Int)<=10000;omega,by show((0:Nat):Int)<=5001;omega⟩ rfl rfl;rw[Xc _ _ d rfl]at h;have e:AH.mk p g (Lh t) pa inj 5001 [] [] []=FF t p g pa inj:=rfl;rw[e,h];rfl
end Go.Sf.Sc
namespace Go.Sf.Sc
open Go Go.Sf
def oT(n k:Int):Bool:=decide (k< -1)||decide (n<=k)
def TF(l:Fp)(n:Int):Int:=if l.any (oT n)=true then 6 else 0
theorem eo(l:Fp)(n:Int):Gk l n=some (TF l n):=by grind[Gk,TF,LV,oT,R6]
end Go.Sf.Sc
namespace Go.Sf.Sc
open Go Go.Sf
theorem Ye(t:ej)(g:d6):FI t g=some (CW t g):=by grind[FI,CW,Jk,R6,Jl,Zv]
def ED(t:ej)(p g:d6):Int:=if(A1 t).2≠0 then(A1 t).2 else if Bn p≠0 then Bn p else if Bn g≠0 then Bn g else if(CW t p&&CW t g)=true then 0 else 13
variable{t:ej}
theorem TH(hf:A6 t)(p g:d6):EJ t p g=some (ED t p g):=by
 unfold EJ ED;rw[Lu hf,bs];refine Dp fun _=>?_;have q:kq (ρ:=Int) (fun(o:Int)(_:Unit)=>
   (idx [p,g] o).bind fun j=>
   (Cm j).bind fun h=>
   if (!decide (h=0))=true then
   some (.ret h)
   else
   some (.next ())) 0 ([p,g].length:Int) ()=some (if Bn p≠0 then .inr (Bn p)else if Bn g≠0 then .inr (Bn g)else .inl ()):=by
  show Aaa _ 2 0 ()=_;rw[EN,show idx [p,g] 0=some p from rfl,bs,KW,bs];by_cases d:Bn p=0
  .rw[b6 (by simp[d]),b6 (by simp[d])];show Aaa _ 1 (0+1) ()=_;rw[EN,show idx [p,g] (0+1)=some g from rfl,bs,KW,bs];by_cases e:Bn g=0
   .rw[b6 (by simp[e]),b6 (by simp[e])];rfl
   .rw[az (by simp[e]),az e]
  .rw[az (by simp[d]),az d]
 rw [q];by_cases d:Bn p=0
 .by_cases e:Bn g=0
  .simp[d,e,B6];rw[Ye,Ye,bs];cases CW t p<;>cases CW t g<;>rfl
  .simp[d,e,not_false_eq_true,N9]
 .simp[d,not_false_eq_true,N9]
theorem jI(hf:A6 t)(p g:d6):K5 t p g=some (ED t p g):=by
 unfold K5 ED;rw[On hf,bs];refine Dp fun _=>?_;rw[KX,bs];refine Dp fun d=>?_;rw[KX,bs];refine Dp fun e=>?_
 grind [Vm,Cp,CW]
end Go.Sf.Sc
namespace Go.Sf.Sc
open Go Go.Sf
variable{t:ej}{p g:d6}{pa:eb}{inj:Bool}
theorem Xx(h:ED t p g=0)(s:pa.d5.length=p.d5.length)(u:pa.d7.length=p.d7.length):(A1 t).2=0/\Nq (FF t p g pa inj):=by
 unfold ED at h;by_cases hv:(A1 t).2=0
 .rw[b6 (by simp[hv])]at h;by_cases q:Bn p=0
  .rw[b6 (by simp[q])]at h;by_cases r:Bn g=0
   .rw[b6 (by simp[r])]at h;by_cases d:(CW t p&&CW t g)=true
    .rw[tg]at d;have op:=Cp q;have o:=Cp r;have tp:=GK op d.1;have w:=GK o d.2;have x:(Lh t).length=t.d5.length:=by unfold Lh;rw[d3,BD]
     refine ⟨hv,s,u,fun e he=>?_,fun n v=>?_,Nat.le_trans op.ek (by omega),Nat.le_trans op.em (by omega),Nat.le_trans o.ek (by omega),Nat.le_trans o.em (by omega)⟩
     .have:=op.fit e he;exact⟨this.2.1.1,this.2.1.2,this.2.2.1,this.2.2.2⟩
     .have:=tp.1 n v;refine⟨this.1,by show n<((Lh t).length:Int);rw[x];exact this.2,fun k j=>?_⟩;have j:=w.1 k j;refine⟨j.1,?_⟩;show k<((AA (Lh t) n).length:Int)
      grind [Lh,IY,QB,d3,BD]
    grind
   grind
  grind
 grind
def Tr(t:ej)(p g:d6)(pa:eb)(inj:Bool):List eb×Int:=
 if ED t p g≠0 then([],ED t p g)else if¬(pa.d5.length=p.d5.length/\pa.d7.length=p.d7.length)then([],20)else
 if TF pa.d5 g.d5.length≠0 then([],TF pa.d5 g.d5.length)else if TF pa.d7 g.d7.length≠0 then([],TF pa.d7 g.d7.length)else
 if 5000<(Jw t p g pa inj).length then([],3)else(Jw t p g pa inj,0)
theorem il(hf:A6 t)(p g:d6)(pa:eb)(inj:Bool):GJ t p g pa inj=some (Tr t p g pa inj):=by
 unfold GJ Tr;rw[TH hf,bs];refine FK fun e=>?_;refine Nu (by simp[Bool.not_eq_true',decide_eq_false_iff_not];omega) fun d=>?_;have d:=Classical.not_not.1 d;rw[eo,bs];refine FK fun h=>?_;rw[eo,bs];refine FK fun j=>?_
 grind [Xx,Hl,mY,Jw]
def RX(p:d6):eb:=⟨List.replicate p.d5.length (-1),List.replicate p.d7.length (-1)⟩
end Go.Sf.Sc
