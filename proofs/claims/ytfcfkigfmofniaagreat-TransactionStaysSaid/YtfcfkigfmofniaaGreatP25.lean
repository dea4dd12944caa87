/- Plain lemmas: what the functions of the program and of the reference compute. -/
import Derived.Test.YtfcfkigfmofniaaGreatP1
import Derived.Test.YtfcfkigfmofniaaGreatEval
set_option linter.all false
set_option maxRecDepth 100000
namespace Go.Sf.Sc
open Go Go.Sf
variable{t:eb}{c:d5}
theorem ot(hf:Ai t)(p:d7)(e:Db c):DA t p c=some (H8 t p c):=by
 by_cases d:(As t).2=0
 .exact iO hf d p e
 .unfold DA H8;rw[Wp hf,bs];refine DM fun h=>?_;exfalso;unfold EK at h;rw[ae d]at h;exact d h
end Go.Sf.Sc
namespace Go.Sf.Sc
open Go Go.Sf
variable{α:Type}
theorem pi[Inhabited α](b:α->α->Bool){l m:List α}(j:∀x∈l,∀y∈m,(b x y=true↔x=y))(o:l.length=m.length):mt (fun i=>!b (AA l i) (AA m i)) 0 l.length=false↔l=m:=by
 rw [Bt];constructor
 .intro h;refine gN o (fun i d e=>?_);have:=h i d e;rw[Bool.not_eq_false']at this;exact(j _ (AF d e) _ (AF d (by omega))).1 this
 .rintro rfl i d e;rw[Bool.not_eq_false'];exact(j _ (AF d e) _ (AF d e)).2 rfl
theorem oK[Inhabited α][DecidableEq α]{l m:List α}(r:l.length=m.length){k:Unit->K1}{j:Bool->K1}:ek (kg (ρ:=Bool) (fun(o:Int)(_:Unit)=>
 (idx l o).bind fun d=>
 (idx m o).bind fun e=>
 if (!decide (d=e))=true then
 some (.ret false)
 else
 some (.next ())) 0 (l.length:Int) ()) k j=if l=m then k ()else j false:=by
 rw [BW (fun i=>!decide (AA l i=AA m i)) false]
 .have:=pi (fun x y:α=>decide (x=y)) (l:=l) (m:=m) (fun _ _ _ _=>decide_eq_true_iff) r;by_cases h:l=m
  .rw[this.2 h,ae h];rfl
  .rw[az h];cases v:mt (fun i=>!decide (AA l i=AA m i)) 0 l.length
   .exact absurd (this.1 v) h
   .rfl
 .intro i q u _;rw[AC q u,bs,AC q (by omega),bs,JA]
theorem XR[Inhabited α][DecidableEq α](l m:List α):(if(!decide ((l.length:Int)=(m.length:Int)))=true then
 some false
 else
 ek (kg (ρ:=Bool) (fun(q:Int)(_:Unit)=>
 (idx l q).bind fun d=>
 (idx m q).bind fun j=>
 if (!decide (d=j))=true then
 some (.ret false)
 else
 some (.next ())) 0 (l.length:Int) ()) (fun _=>
 some true) (fun r=>some r))=some (decide (l=m)):=by
 by_cases o:l.length=m.length
 .rw[az (by simp[o]),oK o];by_cases h:l=m
  .rw[ae h,decide_eq_true h]
  .rw[az h,decide_eq_false h]
 .rw[ae (by simp;omega),decide_eq_false (fun e=>o (by rw[e]))]
theorem nX(l m:Fp):slices_Equal_int l m=some (decide (l=m)):=XR l m
theorem pA(l m:Fp):Ld l m=some (decide (l=m)):=XR l m
theorem pB(l m:Fp):Lf l m=some (decide (l=m)):=XR l m
end Go.Sf.Sc
namespace Go.Sf.Sc
open Go Go.Sf
mutual
def EH:d5->Nat
 |⟨_,kids,_,_⟩=>1+RO kids
def RO:List d5->Nat
 |[]=>0|k::l=>EH k+RO l
end
mutual
def xd:d5->Nat
 |⟨k,kids,_,_⟩=>(if k=5 then 1 else 0)+qz kids
def qz:List d5->Nat
 |[]=>0|k::l=>max (xd k) (qz l)
end
theorem Tt(c:d5):EH c=1+RO c.fu:=by cases c;rfl
variable{k:Int}
theorem oJ{l:List d5}(d:0<=k)(e:k<l.length):l.drop k.toNat=AA l k::l.drop (k+1).toNat:=by
 rw [show(k+1).toNat=k.toNat+1 by omega,List.drop_eq_getElem_cons (by omega)];unfold AA;rw[List.getD_eq_getElem?_getD,List.getElem?_eq_getElem (by omega)];rfl
theorem X4:∀(N:Nat)(c:d5),SizeOf.sizeOf c<=N->(AI c).Sm->∀sx:Int,0<=sx->sx<=1000->∃r,(∀n,N<=n->Cc n c sx=some r)/\-1<=r/\r<=sx-1/\(0<=r->Db c/\(EH c:Int)+r<=sx)
 |0,c,h,_,_,_,_=>by have:=DO c;omega|N+1,c,h,V,sx,m0,m1=>by
  obtain ⟨L,M,D⟩:=cX V;obtain⟨O,z,P⟩:=Rp c.d7;obtain⟨Q,F,R⟩:=XU L;have step:∀n,N+1<=n->∃m,n=m+1/\N<=m:=fun n d=>⟨n-1,by omega,by omega⟩;cases O
  .refine⟨-1,fun n d=>?_,by omega,by omega,fun h=>by omega⟩;obtain⟨n,rfl,_⟩:=step n d;rw[Cc,z];rfl
  cases Q
  .refine⟨-1,fun n d=>?_,by omega,by omega,fun h=>by omega⟩;obtain⟨n,rfl,_⟩:=step n d;rw[Cc,z,bs,F];rfl
  have loop:∀(m:Nat)(k left:Int),0<=k->k+m=c.fu.length->-1<=left->left<=1000->∃e w,(∀n,N<=n->L3 (ρ:=Int) (fun(q:Int×Int)=>
    if ((decide (q.2<(c.fu.length:Int)))&&(decide (0<=q.1)))=true then
    (idx c.fu q.2).bind fun A=>
    (Cc n A q.1).bind fun B=>
    some (.next (B,AG (q.2+1)))
    else
    some (.brk (q.1,q.2))) (left,k) (.inl (e,w)))/\-1<=e/\e<=left/\(0<=e->(∀j,k<=j->j<c.fu.length->Db (AA c.fu j))/\(RO (c.fu.drop k.toNat):Int)+e<=left):=by
   intro m
   induction m with
   |zero=>
    intro k left y I E l1;refine⟨left,k,fun n d=>.brk ?_,E,by omega,fun _=>⟨fun j C x=>by omega,?_⟩⟩
    .rw[az (by simp;omega)]
    .rw[List.drop_of_length_le (by omega),RO];omega
   |succ m U=>
    intro k left y I E l1;by_cases J:0<=left
    .have o:=AF (l:=c.fu) y (by omega);have:=D7 o;obtain⟨r,S,T,W,H⟩:=X4 N _ (by omega) (D _ o) left J l1;obtain⟨e,w,a1,a2,a3,v⟩:=U (k+1) r (by omega) (by omega) T (by omega);refine⟨e,w,fun n d=>.next (s':=(r,k+1)) ?_ (a1 n d),a2,by omega,fun u=>⟨fun j C x=>?_,?_⟩⟩
     .rw[ae (by simp;omega),AC y (by omega),bs,S n d,bs,AV (by omega) (by omega)]
     .by_cases K:j=k
      .subst K;exact(H (by omega)).1
      .exact(v u).1 j (by omega) x
     .have z:=(H (by omega)).2;have F:=(v u).2;rw[oJ y (by omega),RO];omega
    .refine⟨left,k,fun n d=>.brk ?_,E,by omega,fun h=>by omega⟩;rw[az (by simp;omega)]
  obtain ⟨e,w,a1,a2,a3,v⟩:=loop c.fu.length 0 (sx-1) (by omega) (by omega) (by omega) (by omega);refine⟨e,fun n d=>?_,a2,a3,fun u=>⟨.mk c (P rfl) (R rfl) (fun k D=>?_),?_⟩⟩
  .obtain⟨n,rfl,G⟩:=step n d;rw[Cc,z,bs,F];simp only[bs,Bool.not_true,Bool.false_eq_true,if_false];rw[AV (n:=sx-1) (by omega) (by omega),(a1 n G).eq,Ba]
  .obtain⟨j,C,x,rfl⟩:=BR D;exact(v u).1 j C x
  .have:=(v u).2;rw[show(0:Int).toNat=0 from rfl,List.drop_zero]at this;rw[Tt];omega
variable{c:d5}
theorem gX(d:(AI c).Sm):∃b,JU c=some b/\(b=true->Db c/\EH c<=40):=by
 obtain ⟨r,j,_,_,m⟩:=X4 (SizeOf.sizeOf c) c (b6 _) d 40 (by omega) (by omega);have e:QB c 40=some r:=Dy (SizeOf.sizeOf c) j;unfold JU;rw[e];exact⟨_,rfl,fun h=>by have:=m (by simpa using h);exact⟨this.1,by have:=this.2;simp at h;omega⟩⟩
theorem VV:∀{l:List d5}{k:d5},k∈l->EH k<=RO l
 |x::l,k,h=>by
  rw [RO];rcases List.mem_cons.1 h with rfl|h
  .omega
  .have:=VV h;omega
end Go.Sf.Sc
namespace Go.Sf.Sc
open Go Go.Sf
class PL(α:Type)where
 at_:α->Int->Int
 ok:α->Nat->Prop
instance:PL Fp:=⟨AA,fun l n=>l.length=n⟩
instance:PL (Option Fp):=⟨fun o i=>match o with|none=>-1|some l=>AA l i,fun o n=>match o with|none=>True|some l=>l.length=n⟩
structure M1(f:AM):Prop where
 pn:PL.ok f.gl.ca f.p.ca.length
 pe:PL.ok f.gl.ci f.p.ci.length
 ends:∀e∈f.p.ci,0≤e.kp/\e.kp<f.p.ca.length/\0≤e.To/\e.To<f.p.ca.length
 kinds:∀n∈f.p.ca,0<=n/\n<f.is.length/\∀t∈f.g.ca,0<=t/\t<(AA f.is n).length
 small:f.p.ca.length<=1000/\f.p.ci.length<=1000/\f.g.ca.length<=1000/\f.g.ci.length<=1000
def Kk(f:AM)(i k:Int):Bool:=
 (decide (PL.at_ f.gl.ci i<0)||decide (PL.at_ f.gl.ci i=k))&&decide (AA f.g.ci k=⟨(AA f.p.ci i).kl,AA f.ea (AA f.p.ci i).kp,AA f.ea (AA f.p.ci i).To⟩)
variable{α:Type}
theorem iG{l:List α}(h:l≠[]):Xa l=some ():=by grind[Xa]
variable{l:Fp}{i:Int}
theorem WS(e:0<=i)(d:i<l.length):((Xa l).bind fun _=>(idx l i).bind fun x=>some x)=some (AA l i):=by
 rw [iG (by intro h;subst h;simp at d;omega),bs,AC e d,bs]
variable{n:Nat}
theorem Z7:∀{l},PL.ok l n->0<=i->i<n->JN l i=some (PL.at_ l i):=by
 intro l h d e
 first
  |(cases l with
    |none=>rfl|some l=>exact WS d (by have:l.length=n:=h;omega))
  |exact WS d (by have:l.length=n:=h;omega)
variable{f:AM}{k:Int}
theorem iY(hf:M1 f)(d:0<=i)(e:i<f.p.ci.length)(h:0<=k)(j:k<f.g.ci.length)(m:(AA f.p.ci i).kp<f.ea.length)(hT:(AA f.p.ci i).To<f.ea.length):Dc f i k=some (Kk f i k):=by
 have he:=hf.ends _ (AF d e);unfold Dc Kk;rw[AC d e,bs,Z7 hf.pe d e,bs,AC h j,bs,AC he.1 m,bs,AC he.2.2.1 hT,bs]
 grind
def Od(f:AM):Bool:=!mt (fun i=>decide (max (AA f.p.ci i).kp (AA f.p.ci i).To=(f.ea.length:Int)-1)&&!mt (fun k=>Kk f i k) 0 f.g.ci.length) 0 f.p.ci.length
variable{b:Int}
theorem oB{f:Int->Bool->Option (Bf Bool Bool)}(p:Int->Bool)(h:∀i,0<=i->i<b->f i false=some (if p i=true then .brk true else .next false)):kg f 0 b false=some (.inl (mt p 0 b)):=by
 have key:∀(m:Nat)(i:Int),0<=i->i+m=b->x9 f m i false=some (.inl (mt p i b)):=by
  intro m
  induction m with
  |zero=>
   intro i d hi;have:mt p i b=false:=by rw[Bt];intro j q r;omega
   rw [this];rfl
  |succ m v=>
   intro i d hi;rw[EP,h i d (by omega)];by_cases o:p i=true
   .have:mt p i b=true:=by rw[CM];exact⟨i,Int.le_refl _,by omega,o⟩
    rw [ae o,this]
   .have e:mt p i b=mt p (i+1) b:=by
     rw [Bool.eq_iff_iff,CM,CM]
     grind
    grind
 unfold kg;by_cases u:0<=b
 .grind
 .have:mt p 0 b=false:=by rw[Bt];intro j q r;omega
  rw [this,show(b-0).toNat=0 by omega];rfl
theorem fF(hf:M1 f)(q:0<f.ea.length)(j:f.ea.length<=1000):B5 f=some (Od f):=by
 unfold B5 Od;rw[BW (fun i=>decide (max (AA f.p.ci i).kp (AA f.p.ci i).To=(f.ea.length:Int)-1)&&!mt (fun k=>Kk f i k) 0 f.g.ci.length) false]
 .generalize mt (fun i=>decide (max (AA f.p.ci i).kp (AA f.p.ci i).To=(f.ea.length:Int)-1)&&!mt (fun k=>Kk f i k) 0 f.g.ci.length) 0 f.p.ci.length=b;cases b<;>rfl
 .intro i d e _;rw[AC d e,bs,AV (n:=(f.ea.length:Int)-1) (by omega) (by omega)];by_cases h:max (AA f.p.ci i).kp (AA f.p.ci i).To=(f.ea.length:Int)-1
  .rw[az (by simp[h]),oB (fun k=>Kk f i k) (fun k m o=>by
    rw [iY hf d e m o (by omega) (by omega),bs,JA])]
   generalize mt (fun k=>Kk f i k) 0 f.g.ci.length=b;rw[decide_eq_true h];cases b<;>rfl
  grind
def Ag(n:Nat):Fp:=(List.range n).map Int.ofNat
theorem Uc(n:Nat):Ag (n+1)=Ag n++[(n:Int)]:=by grind[Ag,List.range_succ]
def TY(f:AM)(k:Int):Bool:=(decide (PL.at_ f.gl.ca f.ea.length<0)||decide (PL.at_ f.gl.ca f.ea.length=k))&&AA (AA f.is (AA f.p.ca f.ea.length)) (AA f.g.ca k)&&!(f.fq&&f.ea.any fun x=>decide (k=x))
def TX(f:AM)(k:Int):Bool:=Kk f f.ec.length k&&!(f.fq&&f.ec.any fun x=>decide (k=x))
def EG:Nat->AM->List d4
 |0,f=>[⟨f.ea,f.ec⟩]|n+1,f=>(Ag f.g.ci.length).flatMap fun k=>if TX f k=true then EG n {f with ec:=f.ec++[k]}else[]
def JZ:Nat->AM->List d4
 |0,f=>EG f.p.ci.length f|n+1,f=>(Ag f.g.ca.length).flatMap fun k=>if(TY f k&&Od {f with ea:=f.ea++[k]})=true then JZ n {f with ea:=f.ea++[k]}else[]
theorem Yu(a b:List α)(m:Nat):((a.take m)++b).take m=(a++b).take m:=by
 by_cases h:a.length<=m
 .rw[List.take_of_length_le h]
 grind
end Go.Sf.Sc
namespace Go.Sf.Sc
open Go Go.Sf
def Sl(f:AM)(o:List d4):AM:={f with out:=o}
variable{f:AM}
theorem M1.out(h:M1 f)(o:List d4):M1 (Sl f o):=⟨h.pn,h.pe,h.ends,h.kinds,h.small⟩
theorem QU:∀(n:Nat)(f:AM)(o:List d4),EG n (Sl f o)=EG n f
 |0,_,_=>rfl|n+1,f,o=>by
  rw [EG,EG];refine congrArg (fun F=>(Ag f.g.ci.length).flatMap F) (funext fun k=>?_);have:=QU n {f with ec:=f.ec++[k]} o;show(if TX f k=true then EG n (Sl {f with ec:=f.ec++[k]} o)else[])=_;rw[this]
theorem ZX:∀(n:Nat)(f:AM)(o:List d4),JZ n (Sl f o)=JZ n f
 |0,f,o=>QU _ f o|n+1,f,o=>by
  rw [JZ,JZ];refine congrArg (fun F=>(Ag f.g.ca.length).flatMap F) (funext fun k=>?_);have:=ZX n {f with ea:=f.ea++[k]} o;show(if(TY f k&&Od {f with ea:=f.ea++[k]})=true then JZ n (Sl {f with ea:=f.ea++[k]} o)else[])=_;rw[this]
def A4(f:AM)(l:List d4):AM:=Sl f ((f.out++l).take f.sx.toNat)
structure XI(f:AM):Prop where
 m0:0<=f.sx
 m1:f.sx<=10000
 out:(f.out.length:Int)<=f.sx
theorem Ku(h:XI f):A4 f []=f:=by
 unfold A4;rw[List.append_nil,List.take_of_length_le (by have:=h.out;have:=h.m0;omega)];rfl
theorem YG(h:(f.out.length:Int)=f.sx)(l:List d4):A4 f l=f:=by
 unfold A4;rw[List.take_append_of_le_length (by omega),List.take_of_length_le (by omega)];rfl
theorem YI(h:XI f)(l:List d4):XI (A4 f l):=by
 refine ⟨h.m0,h.m1,?_⟩;have:=h.m0;show(((f.out++l).take f.sx.toNat).length:Int)<=f.sx
 grind
theorem YH(f:AM)(a b:List d4):A4 (A4 f a) b=A4 f (a++b):=by
 show Sl f ((((f.out++a).take f.sx.toNat)++b).take f.sx.toNat)=_;rw[Yu,c9];rfl
theorem WI:∀(n:Nat)(f:AM),M1 f->XI f->f.ea.length=f.p.ca.length->f.ec.length+n=f.p.ci.length->∀m,n+1<=m->Aw m f=some (A4 f (EG n f))
 |n,f,hf,u,M,he,m,y=>by
  obtain ⟨m,rfl⟩:∃k,m=k+1:=⟨m-1,by omega⟩;have N:=hf.small;have O:=u.m0;have P:=u.m1;have Q:=u.out;rw[Aw];by_cases e:(f.out.length:Int)=f.sx
  .grind[YG]
  rw [az (by simpa using e),az (by simp;omega)]
  match n,he,y with
  |0,he,y=>
   rw [az (by simp;omega)];unfold slices_Clone_int;rw[Ao (by unfold AU;omega),bs,Ao (by unfold AU;omega),bs,AQ (by simp;unfold AU;omega),bs,bs];unfold A4;rw[List.take_of_length_le (by simp[EG];omega)];rfl
  |n+1,he,y=>
   rw [ae (by simp;omega)];have F:∀k,TX f k=true->M1 {f with ec:=f.ec++[k]}:=fun k _=>⟨hf.pn,hf.pe,hf.ends,hf.kinds,hf.small⟩;rw[BY (a:=0) (s:=f) (fun i=>A4 f ((Ag i.toNat).flatMap fun k=>if TX f k=true then EG n {f with ec:=f.ec++[k]}else[])) (by omega) (Ku u)]
   .grind[Int.toNat_natCast,EG]
   .intro i C D;have E:Ag (i+1).toNat=Ag i.toNat++[i]:=by
     rw [show(i+1).toNat=i.toNat+1 by omega,Uc];rw[show((i.toNat:Nat):Int)=i by omega]
    have G:∀l,A4 f ((Ag (i+1).toNat).flatMap l)=A4 (A4 f ((Ag i.toNat).flatMap l)) (l i):=by
     intro l;rw[YH,E,List.flatMap_append];simp
    rw [G];generalize (Ag i.toNat).flatMap (fun k=>if TX f k=true then EG n {f with ec:=f.ec++[k]}else[])=L;have o:=YI u L;have v:M1 (A4 f L):=hf.out _;have z:=hf.ends _ (AF (l:=f.p.ci) (i:=(f.ec.length:Int)) (by omega) (by omega));rw[iY v (i:=(f.ec.length:Int)) (k:=i) (by omega) (by show _<(f.p.ci.length:Int);omega) C (by exact D) (by show(AA f.p.ci f.ec.length).kp<(f.ea.length:Int);omega) (by show(AA f.p.ci f.ec.length).To<(f.ea.length:Int);omega),bs];have H:slices_Contains_int (A4 f L).ec i=some (f.ec.any fun x=>decide (i=x)):=L7 f.ec i;rw[H];have q:Kk (A4 f L) f.ec.length i=Kk f f.ec.length i:=rfl;have key:((AT (A4 f L).ec [i]).bind fun h=>
      (Aw m (AM.mk (A4 f L).p (A4 f L).g (A4 f L).is (A4 f L).gl (A4 f L).fq (A4 f L).sx (A4 f L).ea h (A4 f L).out)).bind fun d=>
      (y9 d.ec 0 (f.ec.length:Int)).bind fun j=>
      some (AM.mk d.p d.g d.is d.gl d.fq d.sx d.ea j d.out))=some (A4 (A4 f L) (EG n {f with ec:=f.ec++[i]})):=by
     have I:AT (A4 f L).ec [i]=some (f.ec++[i]):=AQ (by show f.ec.length+1<=AU;unfold AU;omega);have B:=WI n {A4 f L with ec:=f.ec++[i]} ⟨hf.pn,hf.pe,hf.ends,hf.kinds,hf.small⟩ ⟨o.m0,o.m1,o.out⟩ M (by show(f.ec++[i]).length+n=f.p.ci.length;simp;omega) m (by omega);have J:EG n {A4 f L with ec:=f.ec++[i]}=EG n {f with ec:=f.ec++[i]}:=QU n {f with ec:=f.ec++[i]} _;rw[J]at B;rw[I,bs];show(Aw m {A4 f L with ec:=f.ec++[i]}).bind _=_;rw[B,bs];have K:y9 (A4 {A4 f L with ec:=f.ec++[i]} (EG n {f with ec:=f.ec++[i]})).ec 0 (f.ec.length:Int)=some f.ec:=by
      show y9 (f.ec++[i]) 0 (f.ec.length:Int)=_;rw[DT (by omega) (by rw[bk];omega),Int.toNat_natCast,List.take_left]
     rw [K];rfl
    rw [key,q];have w:TX f i=(Kk f f.ec.length i&&!(f.fq&&f.ec.any fun x=>decide (i=x))):=rfl;have r:(A4 f L).fq=f.fq:=rfl;rw[w,r];generalize R:EG n {f with ec:=f.ec++[i]}=A;cases Kk f f.ec.length i
    .simp only[Bool.false_and,Bool.false_eq_true,if_false,Ku o];rfl
    .cases f.fq
     .rfl
     .cases f.ec.any fun x=>decide (i=x)
      .rfl
      .simp only[Bool.and_self,Bool.not_true,Bool.and_false,Bool.false_eq_true,if_false,Ku o];rfl
end Go.Sf.Sc
namespace Go.Sf.Sc
open Go Go.Sf
theorem WJ:∀(n:Nat)(f:AM),M1 f->XI f->f.ec=[]->f.ea.length+n=f.p.ca.length->∀m,n+f.p.ci.length+1<=m->Aw m f=some (A4 f (JZ n f))
 |0,f,hf,r,he,R,m,S=>by
  grind [JZ,WI]
 |n+1,f,hf,r,he,R,m,S=>by
  obtain ⟨m,rfl⟩:∃k,m=k+1:=⟨m-1,by omega⟩;have T:=hf.small;have U:=r.m0;have V:=r.m1;have W:=r.out;rw[Aw];by_cases j:(f.out.length:Int)=f.sx
  .grind[YG]
  rw [az (by simpa using j),ae (by simp;omega)];rw[BY (a:=0) (s:=f) (fun i=>A4 f ((Ag i.toNat).flatMap fun k=>if(TY f k&&Od {f with ea:=f.ea++[k]})=true then JZ n {f with ea:=f.ea++[k]}else[])) (by omega) (Ku r)]
  .grind[Int.toNat_natCast,JZ]
  .intro i B C;have F:Ag (i+1).toNat=Ag i.toNat++[i]:=by
    rw [show(i+1).toNat=i.toNat+1 by omega,Uc];rw[show((i.toNat:Nat):Int)=i by omega]
   have G:∀l,A4 f ((Ag (i+1).toNat).flatMap l)=A4 (A4 f ((Ag i.toNat).flatMap l)) (l i):=by
    intro l;rw[YH,F,List.flatMap_append];simp
   rw [G];generalize (Ag i.toNat).flatMap (fun k=>if(TY f k&&Od {f with ea:=f.ea++[k]})=true then JZ n {f with ea:=f.ea++[k]}else[])=L;have o:=YI r L;have v:(f.ea.length:Int)<(f.p.ca.length:Int):=by omega
   have q:=hf.kinds _ (AF (l:=f.p.ca) (i:=(f.ea.length:Int)) (by omega) v);have w:=q.2.2 _ (AF B C);have key:((AT (A4 f L).ea [i]).bind fun e=>
     (B5 (AM.mk (A4 f L).p (A4 f L).g (A4 f L).is (A4 f L).gl (A4 f L).fq (A4 f L).sx e (A4 f L).ec (A4 f L).out)).bind fun u=>
     if u=true then
     (Aw m (AM.mk (A4 f L).p (A4 f L).g (A4 f L).is (A4 f L).gl (A4 f L).fq (A4 f L).sx e (A4 f L).ec (A4 f L).out)).bind fun d=>
     (y9 d.ea 0 (f.ea.length:Int)).bind fun h=>
     some (AM.mk d.p d.g d.is d.gl d.fq d.sx h d.ec d.out)
     else
     (y9 e 0 (f.ea.length:Int)).bind fun h=>
     some (AM.mk (A4 f L).p (A4 f L).g (A4 f L).is (A4 f L).gl (A4 f L).fq (A4 f L).sx h (A4 f L).ec (A4 f L).out))=some (A4 (A4 f L) (if Od {f with ea:=f.ea++[i]}=true then JZ n {f with ea:=f.ea++[i]}else[])):=by
    have H:AT (A4 f L).ea [i]=some (f.ea++[i]):=AQ (by show f.ea.length+1<=AU;unfold AU;omega);have D:y9 (f.ea++[i]) 0 (f.ea.length:Int)=some f.ea:=by
     rw [DT (by omega) (by rw[bk];omega),Int.toNat_natCast,List.take_left]
    have I:B5 {A4 f L with ea:=f.ea++[i]}=some (Od {f with ea:=f.ea++[i]}):=fF (f:={A4 f L with ea:=f.ea++[i]}) ⟨hf.pn,hf.pe,hf.ends,hf.kinds,hf.small⟩ (by show 0<(f.ea++[i]).length;simp) (by show(f.ea++[i]).length<=1000;rw[bk];simp;omega);have E:=WJ n {A4 f L with ea:=f.ea++[i]} ⟨hf.pn,hf.pe,hf.ends,hf.kinds,hf.small⟩ ⟨o.m0,o.m1,o.out⟩ he (by show(f.ea++[i]).length+n=f.p.ca.length;rw[bk];simp;omega) m (by show n+f.p.ci.length+1<=m;omega);have J:JZ n {A4 f L with ea:=f.ea++[i]}=JZ n {f with ea:=f.ea++[i]}:=ZX n {f with ea:=f.ea++[i]} _;rw[J]at E;rw[H,bs];show(B5 {A4 f L with ea:=f.ea++[i]}).bind _=_;rw[I,bs];cases Od {f with ea:=f.ea++[i]}
    .rw[az (by decide),az (by decide),D,Ku o];rfl
    .rw[ae rfl,ae rfl];show(Aw m {A4 f L with ea:=f.ea++[i]}).bind _=_;rw[E,bs];have K:y9 (A4 {A4 f L with ea:=f.ea++[i]} (JZ n {f with ea:=f.ea++[i]})).ea 0 (f.ea.length:Int)=some f.ea:=D;rw[K];rfl
   have M:JN (A4 f L).gl.ca (f.ea.length:Int)=some (PL.at_ f.gl.ca f.ea.length):=Z7 (n:=f.p.ca.length) hf.pn (by omega) (by omega);have N:idx (A4 f L).p.ca (f.ea.length:Int)=some (AA f.p.ca f.ea.length):=AC (by omega) v;have hi:idx (A4 f L).is (AA f.p.ca f.ea.length)=some (AA f.is (AA f.p.ca f.ea.length)):=AC q.1 q.2.1;have O:idx (AA f.is (AA f.p.ca f.ea.length)) (AA f.g.ca i)=some (AA (AA f.is (AA f.p.ca f.ea.length)) (AA f.g.ca i)):=AC w.1 w.2;have P:slices_Contains_int (A4 f L).ea i=some (f.ea.any fun x=>decide (i=x)):=L7 f.ea i;have y:(A4 f L).fq=f.fq:=rfl;have z:TY f i=((decide (PL.at_ f.gl.ca f.ea.length<0)||decide (PL.at_ f.gl.ca f.ea.length=i))&&AA (AA f.is (AA f.p.ca f.ea.length)) (AA f.g.ca i)&&!(f.fq&&f.ea.any fun x=>decide (i=x))):=rfl;rw[AC B C,bs,M,bs,N,bs,hi,bs,O,bs,P,key,y,z];generalize AA (AA f.is (AA f.p.ca f.ea.length)) (AA f.g.ca i)=c2;have Q:(decide (0<=PL.at_ f.gl.ca f.ea.length)&&!decide (PL.at_ f.gl.ca f.ea.length=i))=!(decide (PL.at_ f.gl.ca f.ea.length<0)||decide (PL.at_ f.gl.ca f.ea.length=i)):=by
    rw [Bool.not_or];congr 1;rw[<-decide_not];exact decide_eq_decide.2 (by omega)
   rw [Q];generalize (decide (PL.at_ f.gl.ca f.ea.length<0)||decide (PL.at_ f.gl.ca f.ea.length=i))=c1;generalize Od {f with ea:=f.ea++[i]}=c5;generalize JZ n {f with ea:=f.ea++[i]}=A;cases c1
   .simp only[Bool.false_and,Bool.false_eq_true,if_false,Ku o];rfl
   .cases c2
    .simp only[Bool.and_false,Bool.false_and,Bool.false_eq_true,if_false,Ku o];rfl
    .cases f.fq
     .rfl
     .cases f.ea.any fun x=>decide (i=x)
      .rfl
      .simp only[Bool.and_self,Bool.not_true,Bool.and_false,Bool.false_and,Bool.false_eq_true,if_false,Ku o];rfl
variable{f:AM}
theorem rl(hf:M1 f)(d:XI f)(he:f.ec=[])(e:f.ea=[]):GJ f=some (A4 f (JZ f.p.ca.length f)):=
 Dy (f.p.ca.length+f.p.ci.length+1) fun m h=>WJ _ f hf d he (by rw[e];simp) m h
end Go.Sf.Sc
namespace Go.Sf.Sc
open Go Go.Sf
theorem Ap(n:Nat):(Ag n).length=n:=by simp[Ag]
variable{n:Nat}{i:Int}
theorem DU:i∈Ag n↔0<=i/\i<n:=by
 unfold Ag;rw[List.mem_map];constructor
 .grind
 .rintro⟨d,e⟩;exact⟨i.toNat,List.mem_range.2 (by omega),by show((i.toNat:Nat):Int)=i;omega⟩
variable{α:Type}
theorem G6[Inhabited α](F:Int->α)(d:0<=i)(e:i<n):AA ((Ag n).map F) i=F i:=by
 unfold AA Ag
 grind
theorem Dx(d:0<=i):Ag (i+1).toNat=Ag i.toNat++[i]:=by
 rw [show(i+1).toNat=i.toNat+1 by omega,Uc,show((i.toNat:Nat):Int)=i by omega]
def OA(t:eb)(a:Int):a6:=(Ag t.ca.length).map fun k=>Hl t k a
def Jq(t:eb):List a6:=(Ag t.ca.length).map (OA t)
variable{t:eb}{a:Int}
theorem oj(hf:Ai t)(h:Fa t)(hv:(As t).2=0)(a0:0<=a)(a1:a<t.ca.length):Im t a=some ((Ag t.ca.length).filter fun i=>Hl t i a,0):=by
 have e:=h.ea;unfold Im;have d:Kb t a=true:=by simp[Kb,a0,a1]
 rw [Xf hf,bs,az (by simp[hv,d])];rw[BY (fun i=>(Ag i.toNat).filter fun i=>Hl t i a) (by omega) (by rfl),bs,Int.toNat_natCast]
 grind [lG,Dx,Ag,Hl,List.length_filter_le,Ap,AQ,AU]
variable{l:Fp}
theorem pj(r:∀x∈l,0<=x/\x<n):nd (fun(u:Int)(s2:a6)=>
  (idx l u).bind fun d=>
  (idx s2 d).bind fun _=>
  some (Av s2 d true)) 0 (l.length:Int) (List.replicate n false)=some ((Ag n).map fun k=>l.any fun x=>decide (x=k)):=by
 rw [BY (fun j=>(Ag n).map fun k=>(l.take j.toNat).any fun x=>decide (x=k)) (by omega) (by
  refine List.ext_getElem (by simp[Ap]) (fun j m y=>by simp))]
 .rw[Int.toNat_natCast,List.take_length]
 .intro j o m;have q:=r _ (AF o m);rw[AC o m,bs,AC q.1 (by rw[c8,Ap];exact q.2),bs,Bh o m];congr 1;unfold Av;refine List.ext_getElem (by simp) (fun k z v=>?_);have w:k<n:=by simpa[Ap]using v
  rw [List.getElem_set];have e:(Ag n)[k]'(by rw[Ap];exact w)=(k:Int):=by simp[Ag]
  simp only[List.getElem_map,e,List.any_append,List.any_cons,List.any_nil,Bool.or_false];by_cases h:(AA l j).toNat=k
  .rw[ae h,decide_eq_true (show AA l j=(k:Int)by omega),Bool.or_true]
  .rw[az h,decide_eq_false (show¬AA l j=(k:Int)by omega),Bool.or_false]
theorem nW(hf:Ai t)(h:Fa t)(hv:(As t).2=0):GE t=some (Jq t):=by
 have w:=h.ea;unfold GE;rw[BY (fun i=>(Ag i.toNat).map (OA t)) (by omega) (by rfl),bs,Int.toNat_natCast]
 .rfl
 .intro i o r;have v:F9 (t.ca.length:Int) false=some (List.replicate t.ca.length false):=by
   unfold F9;rw[ae (by omega),Int.toNat_natCast]
  rw [v,bs,oj hf h hv o r,bs];have:=pj (n:=t.ca.length) (l:=(Ag t.ca.length).filter fun k=>Hl t k i) (fun x j=>DU.1 (List.mem_filter.1 j).1);show(nd (fun(q:Int)(s2:a6)=>
   (idx ((Ag t.ca.length).filter fun k=>Hl t k i) q).bind fun d=>
   (idx s2 d).bind fun _=>
   some (Av s2 d true)) 0 (((Ag t.ca.length).filter fun k=>Hl t k i).length:Int) (List.replicate t.ca.length false)).bind _=_
  rw [this,bs,AQ (by rw[c8,Ap];simp;unfold AU;omega),bs,Dx o,List.map_append];congr 2;simp only[List.map_cons,List.map_nil];congr 1;unfold OA;refine List.map_congr_left (fun k m=>?_);have m:=DU.1 m;rw[Bool.eq_iff_iff,List.any_eq_true];constructor
  .rintro⟨x,j,e⟩;rw[yf]at e;subst e;exact(List.mem_filter.1 j).2
  .intro u;exact⟨k,List.mem_filter.2 ⟨DU.2 m,u⟩,by simp⟩
end Go.Sf.Sc
namespace Go.Sf.Sc
open Go Go.Sf
def GR:Nat->AM->List d4
 |0,f=>EG f.p.ci.length f|n+1,f=>(Ag f.g.ca.length).flatMap fun k=>if TY f k=true then GR n {f with ea:=f.ea++[k]}else[]
def dl(f:AM)(i:Int):Prop:=0<=i/\i<f.p.ci.length/\0<=(AA f.p.ci i).kp/\(AA f.p.ci i).kp<f.ea.length/\0<=(AA f.p.ci i).To/\(AA f.p.ci i).To<f.ea.length/\∀k:Int,0<=k->k<f.g.ci.length->Kk f i k=false
theorem Vp(f:AM)(i k:Int):Kk f i k=((decide (PL.at_ f.gl.ci i<0)||decide (PL.at_ f.gl.ci i=k))&&decide (AA f.g.ci k=⟨(AA f.p.ci i).kl,AA f.ea (AA f.p.ci i).kp,AA f.ea (AA f.p.ci i).To⟩)):=rfl
variable{α:Type}{i:Int}
theorem Kq[Inhabited α](l:List α)(x:α)(d:0<=i)(e:i<l.length):AA (l++[x]) i=AA l i:=by
 unfold AA
 grind
theorem gU:∀(n:Nat)(f:AM)(i:Int),dl f i->(f.ec.length:Int)<=i->i<f.ec.length+n->EG n f=[]
 |0,f,i,_,e,h=>by omega|n+1,f,i,hd,e,h=>by
  rw [EG];refine List.flatMap_eq_nil_iff.2 (fun k d=>?_);have d:=DU.1 d;by_cases he:(f.ec.length:Int)=i
  .have:TX f k=false:=by
    unfold TX;rw[he,hd.2.2.2.2.2.2 k d.1 d.2];rfl
   grind
  .split
   .exact gU n {f with ec:=f.ec++[k]} i hd (by show((f.ec++[k]).length:Int)<=i;rw[bk];simp;omega) (by show i<((f.ec++[k]).length:Int)+n;rw[bk];simp;omega)
   .rfl
theorem Zn:∀(n:Nat)(f:AM)(i:Int),f.ec=[]->dl f i->GR n f=[]
 |0,f,i,he,hd=>by
  rw [GR];exact gU _ f i hd (by rw[he];simpa using hd.1) (by rw[he];simpa using hd.2.1)
 |n+1,f,i,he,hd=>by
  rw [GR];refine List.flatMap_eq_nil_iff.2 (fun k o=>?_);split
  .refine Zn n {f with ea:=f.ea++[k]} i he ?_;obtain⟨d,e,h,v,m,w,x⟩:=hd;have u:((f.ea++[k]).length:Int)=f.ea.length+1:=by rw[bk];simp
   refine ⟨d,e,h,?_,m,?_,fun j q r=>?_⟩
   .grind
   .grind
   grind [Vp,AA,Kq]
  .rfl
variable{f:AM}
theorem lK(hf:M1 f)(h:Od f=false):∃i,dl f i:=by
 unfold Od at h;rw[Bool.not_eq_false',CM]at h;obtain⟨i,d,e,h⟩:=h;rw[sr,yf,Bool.not_eq_true',Bt]at h;have he:=hf.ends _ (AF d e);exact⟨i,d,e,he.1,by omega,he.2.2.1,by omega,h.2⟩
theorem gL:∀(n:Nat)(f:AM),M1 f->f.ec=[]->JZ n f=GR n f
 |0,_,_,_=>rfl|n+1,f,hf,he=>by
  rw [JZ,GR];refine congrArg (fun F=>(Ag f.g.ca.length).flatMap F) (funext fun k=>?_);have d:M1 {f with ea:=f.ea++[k]}:=⟨hf.pn,hf.pe,hf.ends,hf.kinds,hf.small⟩;cases TY f k
  .rfl
  .cases e:Od {f with ea:=f.ea++[k]}
   .obtain⟨i,hd⟩:=lK d e
    grind [Zn]
   .simp;exact gL n _ d he
end Go.Sf.Sc
namespace Go.Sf.Sc
open Go Go.Sf
variable{a b:Int}
theorem OK{σ ρ:Type}{f:σ×Int->Option (Bf (σ×Int) ρ)}(g:Int->σ){s:σ}(d:a<=b)(e:s=g a)(h:∀i,a<=i->i<b->f (g i,i)=some (.next (g (i+1),i+1)))(j:f (g b,b)=some (.brk (g b,b))):Ca f (s,a)=some (.inl (g b,b)):=by
 subst e;have key:∀(n:Nat)(i:Int),a<=i->i+n=b->L3 f (g i,i) (.inl (g b,b)):=by
  intro n
  induction n with
  |zero=>
   intro i _ hi;have:i=b:=by omega
   subst this;exact .brk j
  |succ n o=>
   intro i m q;exact .next (h i m (by omega)) (o (i+1) (by omega) (by omega))
 exact (key (b-a).toNat a (Int.le_refl _) (by omega)).eq
def Hy(s:Ae)(ea ec:Fp):AM:=⟨s.p,s.g,Jq s.t,s.gl,s.fq,s.sx+1,ea,ec,s.yV⟩
def CF(s:Ae)(l:List d4):Ae:={s with yV:=(s.yV++l).take (s.sx+1).toNat}
structure V2(s:Ae):Prop where
 m0:0<=s.sx
 m1:s.sx<=9999
 out:(s.yV.length:Int)<=s.sx+1
variable{s:Ae}
theorem Pe(h:V2 s):CF s []=s:=by
 unfold CF;rw[List.append_nil,List.take_of_length_le (by have:=h.out;have:=h.m0;omega)]
theorem W5(h:(s.yV.length:Int)=s.sx+1)(l:List d4):CF s l=s:=by
 unfold CF;rw[List.take_append_of_le_length (by omega),List.take_of_length_le (by omega)]
theorem W6(h:V2 s)(l:List d4):V2 (CF s l):=by
 refine ⟨h.m0,h.m1,?_⟩;have:=h.m0;show(((s.yV++l).take (s.sx+1).toNat).length:Int)<=s.sx+1
 grind
theorem VM(s:Ae)(a b:List d4):CF (CF s a) b=CF s (a++b):=by
 show ({s with yV:=(((s.yV++a).take (s.sx+1).toNat)++b).take (s.sx+1).toNat}:Ae)=_;rw[Yu,c9];rfl
variable{l:Fp}
theorem jG(s:Ae)(j:l.length<=1000)(n:Int):Cl s l n=some (s.fq&&l.any fun x=>decide (n=x)):=by
 unfold Cl;cases s.fq
 .rw[U5 (fun _=>false) true (a:=0) (b:=0) (Int.le_refl _) (fun i h d=>by omega) (by rw[az (by simp)])];rfl
 .rw[U5 (fun i=>decide (AA l i=n)) true (a:=0) (b:=l.length) (by omega) (fun i h d=>by
   rw [ae (by simp;exact d),AC h d,bs,AV (by omega) (by omega),JA]) (by rw[az (by simp)])]
  have e:mt (fun i=>decide (AA l i=n)) 0 l.length=l.any fun x=>decide (n=x):=by
   rw [Bool.eq_iff_iff,CM,List.any_eq_true]
   grind [AF,BR]
  rw [e,Bool.true_and];cases l.any fun x=>decide (n=x)<;>rfl
theorem Yj:∀(n:Nat)(s:Ae)(ea l:Fp),M1 (Hy s [] [])->V2 s->ea.length=s.p.ca.length->l.length+n=s.p.ci.length->∀m,n+1<=m->CA m s ea l=some (CF s (EG n (Hy s ea l)))
 |n,s,ea,l,hf,r,z,he,m,B=>by
  obtain ⟨m,rfl⟩:∃k,m=k+1:=⟨m-1,by omega⟩;have u:=hf.small;have R:s.p.ca.length<=1000:=u.1;have s2:s.p.ci.length<=1000:=u.2.1;have S:s.g.ca.length<=1000:=u.2.2.1;have T:s.g.ci.length<=1000:=u.2.2.2;have U:=r.m0;have V:=r.m1;have W:=r.out;rw[CA];by_cases v:(s.yV.length:Int)=s.sx+1
  .grind[W5]
  rw [az (by simp;omega)]
  match n,he,B with
  |0,he,B=>
   rw [ae (by simp;omega),Ao (by unfold AU;omega),bs,Ao (by unfold AU;omega),bs,AQ (by simp;unfold AU;omega),bs];unfold CF;rw[List.take_of_length_le (by simp[EG];omega)];rfl
  |n+1,he,B=>
   have e:(0:Int)<=l.length:=by omega
   have q:(l.length:Int)<s.p.ci.length:=by omega
   have d:=hf.ends _ (AF (l:=s.p.ci) e q);have H:(AA s.p.ci l.length).kp<ea.length:=by rw[z];exact d.2.1
   have I:(AA s.p.ci l.length).To<ea.length:=by rw[z];exact d.2.2.2
   have w:(l.length:Int)<s.gl.ci.length:=by
    have:s.gl.ci.length=s.p.ci.length:=hf.pe;omega
   rw [az (by simp;omega),AC e q,bs];rw[OK (fun i=>CF s ((Ag i.toNat).flatMap fun k=>if TX (Hy s ea l) k=true then EG n (Hy s ea (l++[k]))else[])) (a:=0) (b:=(s.g.ci.length:Int)) (s:=s) (by omega) (Pe r).symm (fun i C D=>by
    have J:∀F,CF s ((Ag (i+1).toNat).flatMap F)=CF (CF s ((Ag i.toNat).flatMap F)) (F i):=by
     intro F;rw[VM,Dx C,List.flatMap_append];simp
    rw [J];generalize (Ag i.toNat).flatMap (fun k=>if TX (Hy s ea l) k=true then EG n (Hy s ea (l++[k]))else[])=L;have E:=W6 r L;rw[ae (by rw[yf];exact D)];have K:idx (CF s L).g.ci i=some (AA s.g.ci i):=AC C D;have M:idx (CF s L).gl.ci (l.length:Int)=some (AA s.gl.ci l.length):=AC e w;have N:Cl (CF s L) l i=some (s.fq&&l.any fun x=>decide (i=x)):=jG (CF s L) (by omega) i;have key:((AT [] l).bind fun h=>
      (AT h [i]).bind fun j=>
      (CA m (CF s L) ea j).bind fun o=>
      some (.next (o,AG (i+1)):Bf (Ae×Int) Ae))=some (.next (CF (CF s L) (EG n (Hy s ea (l++[i]))),i+1)):=by
     have G:=Yj n (CF s L) ea (l++[i]) ⟨hf.pn,hf.pe,hf.ends,hf.kinds,hf.small⟩ E z (by show(l++[i]).length+n=s.p.ci.length;rw[bk];simp;omega) m (by omega);have O:EG n (Hy (CF s L) ea (l++[i]))=EG n (Hy s ea (l++[i])):=QU n (Hy s ea (l++[i])) _;rw[O]at G;rw[Ao (by unfold AU;omega),bs,AQ (by simp;unfold AU;omega),bs,G,bs,AV (by omega) (by omega)]
    rw [K,bs,M,bs,N,key];simp only[bs];rw[AC d.1 H,AC d.2.2.1 I,AV (n:=i+1) (by omega) (by omega)];simp only[bs];have y:TX (Hy s ea l) i=(((decide (AA s.gl.ci l.length<0)||decide (AA s.gl.ci l.length=i))&&decide (AA s.g.ci i=⟨(AA s.p.ci l.length).kl,AA ea (AA s.p.ci l.length).kp,AA ea (AA s.p.ci l.length).To⟩))&&!(s.fq&&l.any fun x=>decide (i=x))):=rfl;have P:decide (AA s.g.ci i=⟨(AA s.p.ci l.length).kl,AA ea (AA s.p.ci l.length).kp,AA ea (AA s.p.ci l.length).To⟩)=(decide ((AA s.p.ci l.length).kl=(AA s.g.ci i).kl)&&decide ((AA s.g.ci i).kp=AA ea (AA s.p.ci l.length).kp)&&decide ((AA s.g.ci i).To=AA ea (AA s.p.ci l.length).To)):=by
     rw [Bool.eq_iff_iff];simp[yf];generalize AA s.g.ci i=x;obtain⟨x1,X,Y⟩:=x;simp;constructor
     .rintro⟨a,b,c⟩;exact⟨⟨a.symm,b⟩,c⟩
     .rintro⟨⟨a,b⟩,c⟩;exact⟨a.symm,b,c⟩
    have Q:(decide (AA s.gl.ci l.length<0)||decide (AA s.gl.ci l.length=i))=!(decide (0<=AA s.gl.ci l.length)&&!decide (AA s.gl.ci l.length=i)):=by
     rw [Bool.not_and,Bool.not_not];congr 1;rw[<-decide_not];exact decide_eq_decide.2 (by omega)
    rw [y,P,Q];generalize EG n (Hy s ea (l++[i]))=A;generalize decide (0<=AA s.gl.ci l.length)=c1;generalize decide (AA s.gl.ci l.length=i)=c2;generalize decide ((AA s.p.ci l.length).kl=(AA s.g.ci i).kl)=c3;generalize decide ((AA s.g.ci i).kp=AA ea (AA s.p.ci l.length).kp)=c4;generalize decide ((AA s.g.ci i).To=AA ea (AA s.p.ci l.length).To)=c5;generalize (s.fq&&l.any fun x=>decide (i=x))=c6;cases c1<;>cases c2<;>cases c3<;>cases c4<;>cases c5<;>cases c6<;>first|rfl|(simp[Pe E];try rfl)) (by rw[az (by simp[CF])]),Ba,Int.toNat_natCast,EG]
   rfl
end Go.Sf.Sc
namespace Go.Sf.Sc
open Go Go.Sf
def St(s:Ae)(l:Fp)(i k:Int):Bool:=decide (AA s.g.ci k=⟨(AA s.p.ci i).kl,AA l (AA s.p.ci i).kp,AA l (AA s.p.ci i).To⟩)
def SN(s:Ae)(l:Fp)(i:Int):Bool:=(decide ((AA s.p.ci i).kp<l.length)&&decide ((AA s.p.ci i).To<l.length))&&!(Ag s.g.ci.length).any (St s l i)
variable{s:Ae}{l:Fp}
theorem sK(hf:M1 (Hy s [] [])):Ez s l=some (!mt (SN s l) 0 s.p.ci.length):=by
 unfold Ez;rw[BW (SN s l) false]
 .cases mt (SN s l) 0 s.p.ci.length<;>rfl
 .intro i d e _;have he:=hf.ends _ (AF (l:=s.p.ci) d e);rw[AC d e,bs];unfold SN;by_cases j:(AA s.p.ci i).kp<l.length
  .by_cases hT:(AA s.p.ci i).To<l.length
   .rw[az (by simp;omega),BY (fun k=>(Ag k.toNat).any (St s l i)) (by omega) (by rfl),bs,Int.toNat_natCast,decide_eq_true j,decide_eq_true hT]
    .grind
    .intro k h m;rw[AC h m,bs,Dx h,List.any_append];have o:St s l i k=(decide ((AA s.p.ci i).kl=(AA s.g.ci k).kl)&&decide ((AA s.g.ci k).kp=AA l (AA s.p.ci i).kp)&&decide ((AA s.g.ci k).To=AA l (AA s.p.ci i).To)):=by
      unfold St;rw[Bool.eq_iff_iff];simp[yf];generalize AA s.g.ci k=x;obtain⟨x1,q,r⟩:=x;simp;constructor
      .rintro⟨a,b,c⟩;exact⟨⟨a.symm,b⟩,c⟩
      .rintro⟨⟨a,b⟩,c⟩;exact⟨a.symm,b,c⟩
     rw [AC he.1 j,AC he.2.2.1 hT];simp only[List.any_cons,List.any_nil,Bool.or_false,bs];rw[o];generalize (Ag k.toNat).any (St s l i)=c1;generalize decide ((AA s.p.ci i).kl=(AA s.g.ci k).kl)=c3;generalize decide ((AA s.g.ci k).kp=AA l (AA s.p.ci i).kp)=c4;generalize decide ((AA s.g.ci k).To=AA l (AA s.p.ci i).To)=c5;cases c1<;>cases c3<;>cases c4<;>cases c5<;>rfl
   grind
  grind
theorem sH(hf:M1 (Hy s [] []))(h:mt (SN s l) 0 s.p.ci.length=true):∃i,dl (Hy s l []) i:=by
 rw [CM]at h;obtain⟨i,d,j,h⟩:=h;unfold SN at h;rw[sr,sr,yf,yf,Bool.not_eq_true',List.any_eq_false]at h;have he:=hf.ends _ (AF (l:=s.p.ci) d j);refine⟨i,d,j,he.1,h.1.1,he.2.2.1,h.1.2,fun k m o=>?_⟩;have:=h.2 k (DU.2 ⟨m,o⟩);have e:St s l i k=false:=by rw[<-Bool.not_eq_true];exact this
 rw [Vp];show((decide (AA s.gl.ci i<0)||decide (AA s.gl.ci i=k))&&St s l i k)=false;rw[e,Bool.and_false]
end Go.Sf.Sc
namespace Go.Sf.Sc
open Go Go.Sf
theorem ZY:∀(n:Nat)(f:AM)(o:List d4),GR n (Sl f o)=GR n f
 |0,f,o=>QU _ f o|n+1,f,o=>by
  rw [GR,GR];refine congrArg (fun F=>(Ag f.g.ca.length).flatMap F) (funext fun k=>?_);have:=ZY n {f with ea:=f.ea++[k]} o
  grind [TY,GR,Sl]
theorem Yk:∀(n:Nat)(s:Ae)(l:Fp),Fa s.t->M1 (Hy s [] [])->V2 s->l.length+n=s.p.ca.length->∀m,n+1<=m->CB m s l=some (CF s (GR n (Hy s l [])))
 |n,s,l,P,hf,r,K,m,z=>by
  obtain ⟨m,rfl⟩:∃k,m=k+1:=⟨m-1,by omega⟩;have M:=hf.small;have Z:s.p.ca.length<=1000:=M.1;have s3:s.g.ca.length<=1000:=M.2.2.1;have h0:=r.m0;have h1:=r.m1;have h2:=r.out;rw[CB];by_cases E:(s.yV.length:Int)=s.sx+1
  .grind[W5]
  rw [az (by simp;omega),sK hf];cases hd:mt (SN s l) 0 s.p.ci.length
  case true=>
   grind [sH,Zn,Hy,Pe]
  simp only[bs,Bool.not_false,Bool.not_true,Bool.false_eq_true,if_false]
  match n,K,z with
  |0,K,z=>
   rw [ae (by simp;omega),Option.bind_fun_some,GR];exact Dy (s.p.ci.length+1) fun m z=>Yj s.p.ci.length s l [] hf r (by omega) (by simp) m (by omega)
  |n+1,K,z=>
   have w:(l.length:Int)<s.p.ca.length:=by omega
   have o:(0:Int)<=l.length:=by omega
   have G:(l.length:Int)<s.gl.ca.length:=by
    have:s.gl.ca.length=s.p.ca.length:=hf.pn;omega
   have Q:(Jq s.t).length=s.t.ca.length:=by unfold Jq;rw[c8,Ap]
   have d:=hf.kinds _ (AF (l:=s.p.ca) o w);have H:AA s.p.ca l.length<s.t.ca.length:=by rw[<-Q];exact d.2.1
   have j:AA (Jq s.t) (AA s.p.ca l.length)=OA s.t (AA s.p.ca l.length):=G6 (OA s.t) d.1 H;rw[az (by simp;omega)];rw[OK (fun i=>CF s ((Ag i.toNat).flatMap fun k=>if TY (Hy s l []) k=true then GR n (Hy s (l++[k]) [])else[])) (a:=0) (b:=(s.g.ca.length:Int)) (s:=s) (by omega) (Pe r).symm (fun i B C=>by
    have R:∀F,CF s ((Ag (i+1).toNat).flatMap F)=CF (CF s ((Ag i.toNat).flatMap F)) (F i):=by
     intro F;rw[VM,Dx B,List.flatMap_append];simp
    rw [R];generalize (Ag i.toNat).flatMap (fun k=>if TY (Hy s l []) k=true then GR n (Hy s (l++[k]) [])else[])=L;have N:=W6 r L;rw[ae (by rw[yf];exact C)];have q:=d.2.2 _ (AF (l:=s.g.ca) B C);have y:AA s.g.ca i<s.t.ca.length:=by
     have h:=q.2;have e:AA (Hy s [] []).is (AA s.p.ca l.length)=OA s.t (AA s.p.ca l.length):=j;rw[e]at h;unfold OA at h
     rwa [c8,Ap]at h
    have I:E9 (CF s L).t (AA s.g.ca i) (AA s.p.ca l.length)=some (Hl s.t (AA s.g.ca i) (AA s.p.ca l.length)):=Uz P q.1 y d.1;have S:idx (CF s L).g.ca i=some (AA s.g.ca i):=AC B C;have T:idx (CF s L).gl.ca (l.length:Int)=some (AA s.gl.ca l.length):=AC o G;have U:Cl (CF s L) l i=some (s.fq&&l.any fun x=>decide (i=x)):=jG (CF s L) (by omega) i;have V:idx (CF s L).p.ca (l.length:Int)=some (AA s.p.ca l.length):=AC o w;have key:((AT [] l).bind fun D=>
      (AT D [i]).bind fun u=>
      (CB m (CF s L) u).bind fun v=>
      some (.next (v,AG (i+1)):Bf (Ae×Int) Ae))=some (.next (CF (CF s L) (GR n (Hy s (l++[i]) [])),i+1)):=by
     have O:=Yk n (CF s L) (l++[i]) P ⟨hf.pn,hf.pe,hf.ends,hf.kinds,hf.small⟩ N (by show(l++[i]).length+n=s.p.ca.length;rw[bk];simp;omega) m (by omega);have W:GR n (Hy (CF s L) (l++[i]) [])=GR n (Hy s (l++[i]) []):=ZY n (Hy s (l++[i]) []) _;rw[W]at O;rw[Ao (by unfold AU;omega),bs,AQ (by simp;unfold AU;omega),bs,O,bs,AV (by omega) (by omega)]
    rw [T,bs,U,S,V,key];simp only[bs];rw[I,AV (n:=i+1) (by omega) (by omega)];simp only[bs];have J:TY (Hy s l []) i=((decide (AA s.gl.ca l.length<0)||decide (AA s.gl.ca l.length=i))&&AA (AA (Jq s.t) (AA s.p.ca l.length)) (AA s.g.ca i)&&!(s.fq&&l.any fun x=>decide (i=x))):=rfl;have X:AA (AA (Jq s.t) (AA s.p.ca l.length)) (AA s.g.ca i)=Hl s.t (AA s.g.ca i) (AA s.p.ca l.length):=by
     rw [j];exact G6 (fun k=>Hl s.t k (AA s.p.ca l.length)) q.1 y
    have Y:(decide (AA s.gl.ca l.length<0)||decide (AA s.gl.ca l.length=i))=!(decide (0<=AA s.gl.ca l.length)&&!decide (AA s.gl.ca l.length=i)):=by
     rw [Bool.not_and,Bool.not_not];congr 1;rw[<-decide_not];exact decide_eq_decide.2 (by omega)
    rw [J,X,Y];generalize GR n (Hy s (l++[i]) [])=A;generalize decide (0<=AA s.gl.ca l.length)=c1;generalize decide (AA s.gl.ca l.length=i)=c2;generalize Hl s.t (AA s.g.ca i) (AA s.p.ca l.length)=c3;generalize (s.fq&&l.any fun x=>decide (i=x))=c6;cases c1<;>cases c2<;>cases c3<;>cases c6<;>first|rfl|(simp[Pe N];try rfl)) (by rw[az (by simp[CF])]),Ba,Int.toNat_natCast,GR]
   rfl
end Go.Sf.Sc
namespace Go.Sf.Sc
open Go Go.Sf
def FF(t:eb)(p g:d3)(pa:d4)(inj:Bool):AM:=⟨p,g,Jq t,pa,inj,5001,[],[],[]⟩
def J1(t:eb)(p g:d3)(pa:d4)(inj:Bool):List d4:=(GR p.ca.length (FF t p g pa inj)).take 5001
variable{t:eb}{p g:d3}
theorem ou{pa:d4}{inj:Bool}(j:Ai t)(hv:(As t).2=0)(d:M1 (FF t p g pa inj)):HT t p g pa inj 5001=some (J1 t p g pa inj):=by
 unfold HT;rw[nW j (C6 hv) hv,bs];have h:=rl (f:=FF t p g pa inj) d ⟨by show(0:Int)<=5001;omega,by show(5001:Int)<=10000;omega,by show((0:Nat):Int)<=5001;omega⟩ rfl rfl;rw[gL _ _ d rfl]at h;have e:AM.mk p g (Jq t) pa inj 5001 [] [] []=FF t p g pa inj:=rfl;rw[e,h];rfl
theorem nf{pa:d4}{inj:Bool}(hv:(As t).2=0)(d:M1 (FF t p g pa inj)):NF t p g pa inj 5000=some (J1 t p g pa inj):=by
 unfold NF;have h:I1 ⟨t,p,g,pa,inj,5000,[]⟩ []=some (CF ⟨t,p,g,pa,inj,5000,[]⟩ (GR p.ca.length (FF t p g pa inj))):=
  Dy (p.ca.length+1) fun m e=>Yk p.ca.length ⟨t,p,g,pa,inj,5000,[]⟩ [] (C6 hv) d ⟨by show(0:Int)<=5000;omega,by show(5000:Int)<=9999;omega,by show((0:Nat):Int)<=5000+1;omega⟩ (by show 0+p.ca.length=p.ca.length;omega) m e
 rw [h];rfl
end Go.Sf.Sc
namespace Go.Sf.Sc
open Go Go.Sf
def VS(n k:Int):Bool:=decide (k< -1)||decide (n<=k)
def Q8(l:Fp)(n:Int):Int:=if l.any (VS n)=true then 6 else 0
theorem iU(l:Fp)(n:Int):Gy l n=some (Q8 l n):=by grind[Gy,Q8,Mk,VS,Tp]
variable{l:Fp}
theorem ap{c:Int}(n:Int)(h:(l.length:Int)=c):JI l c n=some (Q8 l n):=by
 unfold JI Q8;rw[az (by simp[h]),BW (fun i=>VS n (AA l i)) 6]
 .have e:mt (fun i=>VS n (AA l i)) 0 l.length=l.any (VS n):=by
   rw [Bool.eq_iff_iff,CM,List.any_eq_true]
   grind [AF,BR]
  rw [e];cases l.any (VS n)<;>rfl
 grind [AC,VS,AA]
end Go.Sf.Sc
namespace Go.Sf.Sc
open Go Go.Sf
theorem aY(t:eb)(g:d3):FR t g=some (CP t g):=by grind[FR,CP,Ki,Tp,Kj,cR]
def Ee(t:eb)(p g:d3):Int:=if(As t).2≠0 then(As t).2 else if Bm p≠0 then Bm p else if Bm g≠0 then Bm g else if(CP t p&&CP t g)=true then 0 else 13
variable{t:eb}
theorem Xh(hf:Ai t)(p g:d3):FC t p g=some (Ee t p g):=by
 unfold FC Ee;rw[Oc hf,bs];refine DM fun _=>?_;have o:kg (ρ:=Int) (fun(m:Int)(_:Unit)=>
   (idx [p,g] m).bind fun j=>
   (Co j).bind fun h=>
   if (!decide (h=0))=true then
   some (.ret h)
   else
   some (.next ())) 0 ([p,g].length:Int) ()=some (if Bm p≠0 then .inr (Bm p)else if Bm g≠0 then .inr (Bm g)else .inl ()):=by
  show x9 _ 2 0 ()=_;rw[EP,show idx [p,g] 0=some p from rfl,bs,Lb,bs];by_cases d:Bm p=0
  .rw[az (by simp[d]),az (by simp[d])];show x9 _ 1 (0+1) ()=_;rw[EP,show idx [p,g] (0+1)=some g from rfl,bs,Lb,bs];by_cases e:Bm g=0
   .rw[az (by simp[e]),az (by simp[e])];rfl
   .rw[ae (by simp[e]),ae e]
  .rw[ae (by simp[d]),ae d]
 rw [o];by_cases d:Bm p=0
 .by_cases e:Bm g=0
  .simp[d,e,Ba];rw[aY,aY,bs];cases CP t p<;>cases CP t g<;>rfl
  .simp[d,e,not_false_eq_true,RI]
 .simp[d,not_false_eq_true,RI]
theorem Sp(hf:Ai t)(p g:d3):Gv t p g=some (Ee t p g):=by
 unfold Gv Ee;rw[QN hf,bs];refine DM fun _=>?_;rw[Lc,bs];refine DM fun d=>?_;rw[Lc,bs];refine DM fun e=>?_
 grind [Xl,Cr,CP]
end Go.Sf.Sc
namespace Go.Sf.Sc
open Go Go.Sf
variable{t:eb}{p g:d3}
theorem XS{pa:d4}{inj:Bool}(h:Ee t p g=0)(r:pa.ca.length=p.ca.length)(u:pa.ci.length=p.ci.length):(As t).2=0/\M1 (FF t p g pa inj):=by
 unfold Ee at h;by_cases hv:(As t).2=0
 .rw[az (by simp[hv])]at h;by_cases o:Bm p=0
  .rw[az (by simp[o])]at h;by_cases q:Bm g=0
   .rw[az (by simp[q])]at h;by_cases d:(CP t p&&CP t g)=true
    .rw[sr]at d;have op:=Cr o;have m:=Cr q;have tp:=Hc op d.1;have w:=Hc m d.2;have x:(Jq t).length=t.ca.length:=by unfold Jq;rw[c8,Ap]
     refine ⟨hv,r,u,fun e he=>?_,fun n v=>?_,Nat.le_trans op.ea (by omega),Nat.le_trans op.ec (by omega),Nat.le_trans m.ea (by omega),Nat.le_trans m.ec (by omega)⟩
     .have:=op.fit e he;exact⟨this.2.1.1,this.2.1.2,this.2.2.1,this.2.2.2⟩
     .have:=tp.1 n v;refine⟨this.1,by show n<((Jq t).length:Int);rw[x];exact this.2,fun k j=>?_⟩;have j:=w.1 k j;refine⟨j.1,?_⟩;show k<((AA (Jq t) n).length:Int)
      grind [Jq,G6,OA,c8,Ap]
    grind
   grind
  grind
 grind
def SP(t:eb)(p g:d3)(pa:d4)(inj:Bool):List d4×Int:=
 if Ee t p g≠0 then([],Ee t p g)else if¬(pa.ca.length=p.ca.length/\pa.ci.length=p.ci.length)then([],20)else
 if Q8 pa.ca g.ca.length≠0 then([],Q8 pa.ca g.ca.length)else if Q8 pa.ci g.ci.length≠0 then([],Q8 pa.ci g.ci.length)else
 if 5000<(J1 t p g pa inj).length then([],3)else(J1 t p g pa inj,0)
theorem lD(hf:Ai t)(p g:d3)(pa:d4)(inj:Bool):GW t p g pa inj=some (SP t p g pa inj):=by
 unfold GW SP;rw[Xh hf,bs];refine CN fun e=>?_;refine GK (by simp[Bool.not_eq_true',decide_eq_false_iff_not];omega) fun d=>?_;have d:=Classical.not_not.1 d;rw[iU,bs];refine CN fun h=>?_;rw[iU,bs];refine CN fun j=>?_
 grind [XS,Ls,ou,J1]
theorem lb(hf:Ai t)(p g:d3)(pa:d4)(inj:Bool):K9 t p g pa inj=some (SP t p g pa inj):=by
 unfold K9 SP;rw[Sp hf,bs];refine CN fun e=>?_;refine GK (by simp[Bool.not_eq_true',decide_eq_false_iff_not];omega) fun d=>?_;have d:=Classical.not_not.1 d;rw[ap _ (by omega),bs];refine CN fun h=>?_;rw[ap _ (by omega),bs];refine CN fun j=>?_
 grind [XS,nf,J1]
def Q9(p:d3):d4:=⟨List.replicate p.ca.length (-1),List.replicate p.ci.length (-1)⟩
variable{n:Nat}{i:Int}
theorem bL(d:0<=i)(e:i<n):Av (List.replicate i.toNat (-1:Int)++List.replicate (n-i.toNat) 0) i (-1)=List.replicate (i+1).toNat (-1)++List.replicate (n-(i+1).toNat) 0:=by
 unfold Av;rw[List.set_append_right _ _ (by simp),show n-i.toNat=(n-(i+1).toNat)+1 by omega,List.replicate_succ,List.length_replicate,Nat.sub_self,List.set_cons_zero,show(i+1).toNat=i.toNat+1 by omega,List.replicate_succ',c9];rfl
theorem lm(j:p.ca.length<=100)(m:p.ci.length<=100):N1 p=some (Q9 p):=by
 unfold N1;have m1:F9 (p.ca.length:Int) (0:Int)=some (List.replicate p.ca.length 0):=by unfold F9;rw[ae (by omega),Int.toNat_natCast]
 have h:F9 (p.ci.length:Int) (0:Int)=some (List.replicate p.ci.length 0):=by unfold F9;rw[ae (by omega),Int.toNat_natCast]
 rw [m1,bs,h,bs];rw[OK (fun i=>(⟨List.replicate i.toNat (-1)++List.replicate (p.ca.length-i.toNat) 0,List.replicate p.ci.length 0⟩:d4)) (a:=0) (b:=p.ca.length) (by omega) (by simp),Ba]
 .dsimp only;rw[OK (fun i=>(⟨List.replicate p.ca.length (-1),List.replicate i.toNat (-1)++List.replicate (p.ci.length-i.toNat) 0⟩:d4)) (a:=0) (b:=p.ci.length) (by omega) (by simp),Ba]
  .simp[Q9]
  .intro i d e;dsimp only;rw[ae (by simp;omega),AC d (by simp;omega),bs,bL d e,AV (n:=i+1) (by omega) (by omega)]
  .dsimp only;rw[az (by simp)]
 .intro i d e;dsimp only;rw[ae (by simp;omega),AC d (by simp;omega),bs,bL d e,AV (n:=i+1) (by omega) (by omega)]
 .dsimp only;rw[az (by simp)]
end Go.Sf.Sc
