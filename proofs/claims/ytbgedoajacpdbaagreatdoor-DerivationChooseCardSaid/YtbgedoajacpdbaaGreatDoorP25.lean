/- Plain lemmas: what the functions of the program and of the reference compute. -/
import Derived.Test.YtbgedoajacpdbaaGreatDoorP1
import Derived.Test.YtbgedoajacpdbaaGreatDoorEval
set_option linter.all false
set_option maxRecDepth 100000
namespace Go.Sf.Sc
open Go Go.Sf
variable{t:AC}{c:d7}
theorem kZ(hf:Ap t)(p:ec)(e:DV c):Ce t p c=some (Lz t p c):=by
 by_cases d:(Au t).2=0
 .exact cr hf d p e
 .unfold Ce Lz;rw[Uh hf,bs];refine DY fun h=>?_;exfalso;unfold G8 at h;rw[ae d]at h;exact d h
end Go.Sf.Sc
namespace Go.Sf.Sc
open Go Go.Sf
variable{α:Type}
theorem lm[Inhabited α](b:α->α->Bool){l m:List α}(j:∀x∈l,∀y∈m,(b x y=true↔x=y))(o:l.length=m.length):ne (fun i=>!b (AA l i) (AA m i)) 0 l.length=false↔l=m:=by
 rw [Bf];constructor
 .intro h;refine b9 o (fun i d e=>?_);have:=h i d e;rw[Bool.not_eq_false']at this;exact(j _ (AJ d e) _ (AJ d (by omega))).1 this
 .rintro rfl i d e;rw[Bool.not_eq_false'];exact(j _ (AJ d e) _ (AJ d e)).2 rfl
theorem j6[Inhabited α][DecidableEq α]{l m:List α}(r:l.length=m.length){k:Unit->K1}{j:Bool->K1}:ff (j4 (ρ:=Bool) (fun(o:Int)(_:Unit)=>
 (idx l o).bind fun d=>
 (idx m o).bind fun e=>
 if (!decide (d=e))=true then
 some (.ret false)
 else
 some (.next ())) 0 (l.length:Int) ()) k j=if l=m then k ()else j false:=by
 rw [BJ (fun i=>!decide (AA l i=AA m i)) false]
 .have:=lm (fun x y:α=>decide (x=y)) (l:=l) (m:=m) (fun _ _ _ _=>decide_eq_true_iff) r;by_cases h:l=m
  .rw[this.2 h,ae h];rfl
  .rw[az h];cases v:ne (fun i=>!decide (AA l i=AA m i)) 0 l.length
   .exact absurd (this.1 v) h
   .rfl
 .intro i q u _;rw[AD q u,bs,AD q (by omega),bs,Hw]
theorem U8[Inhabited α][DecidableEq α](l m:List α):(if(!decide ((l.length:Int)=(m.length:Int)))=true then
 some false
 else
 ff (j4 (ρ:=Bool) (fun(q:Int)(_:Unit)=>
 (idx l q).bind fun d=>
 (idx m q).bind fun j=>
 if (!decide (d=j))=true then
 some (.ret false)
 else
 some (.next ())) 0 (l.length:Int) ()) (fun _=>
 some true) (fun r=>some r))=some (decide (l=m)):=by
 by_cases o:l.length=m.length
 .rw[az (by simp[o]),j6 o];by_cases h:l=m
  .rw[ae h,decide_eq_true h]
  .rw[az h,decide_eq_false h]
 .rw[ae (by simp;omega),decide_eq_false (fun e=>o (by rw[e]))]
theorem jA(l m:Fp):slices_Equal_int l m=some (decide (l=m)):=U8 l m
theorem Zl(l m:Fp):Gh l m=some (decide (l=m)):=U8 l m
theorem Zm(l m:Fp):IS l m=some (decide (l=m)):=U8 l m
end Go.Sf.Sc
namespace Go.Sf.Sc
open Go Go.Sf
mutual
def Dv:d7->Nat
 |⟨_,kids,_,_⟩=>1+Pc kids
def Pc:List d7->Nat
 |[]=>0|k::l=>Dv k+Pc l
end
mutual
def uq:d7->Nat
 |⟨k,kids,_,_⟩=>(if k=5 then 1 else 0)+my kids
def my:List d7->Nat
 |[]=>0|k::l=>max (uq k) (my l)
end
theorem Rp(c:d7):Dv c=1+Pc c.gp:=by cases c;rfl
variable{k:Int}
theorem j5{l:List d7}(d:0<=k)(e:k<l.length):l.drop k.toNat=AA l k::l.drop (k+1).toNat:=by
 rw [show(k+1).toNat=k.toNat+1 by omega,List.drop_eq_getElem_cons (by omega)];unfold AA;rw[List.getD_eq_getElem?_getD,List.getElem?_eq_getElem (by omega)];rfl
theorem VZ:∀(N:Nat)(c:d7),SizeOf.sizeOf c<=N->(AK c).Sm->∀tc:Int,0<=tc->tc<=1000->∃r,(∀n,N<=n->CW n c tc=some r)/\-1<=r/\r<=tc-1/\(0<=r->DV c/\(Dv c:Int)+r<=tc)
 |0,c,h,_,_,_,_=>by have:=D7 c;omega|N+1,c,h,X,tc,m0,m1=>by
  obtain ⟨O,P,D⟩:=ZK X;obtain⟨Q,z,R⟩:=P1 c.ec;obtain⟨S,F,T⟩:=VA O;have step:∀n,N+1<=n->∃m,n=m+1/\N<=m:=fun n d=>⟨n-1,by omega,by omega⟩;cases Q
  .refine⟨-1,fun n d=>?_,by omega,by omega,fun h=>by omega⟩;obtain⟨n,rfl,_⟩:=step n d;rw[CW,z];rfl
  cases S
  .refine⟨-1,fun n d=>?_,by omega,by omega,fun h=>by omega⟩;obtain⟨n,rfl,_⟩:=step n d;rw[CW,z,bs,F];rfl
  have loop:∀(m:Nat)(k left:Int),0<=k->k+m=c.gp.length->-1<=left->left<=1000->∃e w,(∀n,N<=n->LK (ρ:=Int) (fun(q:Int×Int)=>
    if ((decide (q.2<(c.gp.length:Int)))&&(decide (0<=q.1)))=true then
    (idx c.gp q.2).bind fun A=>
    (CW n A q.1).bind fun B=>
    some (.next (B,Ad (q.2+1)))
    else
    some (.brk (q.1,q.2))) (left,k) (.inl (e,w)))/\-1<=e/\e<=left/\(0<=e->(∀j,k<=j->j<c.gp.length->DV (AA c.gp j))/\(Pc (c.gp.drop k.toNat):Int)+e<=left):=by
   intro m
   induction m with
   |zero=>
    intro k left y K E l1;refine⟨left,k,fun n d=>.brk ?_,E,by omega,fun _=>⟨fun j C x=>by omega,?_⟩⟩
    .rw[az (by simp;omega)]
    .rw[List.drop_of_length_le (by omega),Pc];omega
   |succ m W=>
    intro k left y K E l1;by_cases L:0<=left
    .have o:=AJ (l:=c.gp) y (by omega);have:=E5 o;obtain⟨r,U,V,Y,I⟩:=VZ N _ (by omega) (D _ o) left L l1;obtain⟨e,w,a1,G,J,v⟩:=W (k+1) r (by omega) (by omega) V (by omega);refine⟨e,w,fun n d=>.next (s':=(r,k+1)) ?_ (a1 n d),G,by omega,fun u=>⟨fun j C x=>?_,?_⟩⟩
     .rw[ae (by simp;omega),AD y (by omega),bs,U n d,bs,Am (by omega) (by omega)]
     .by_cases M:j=k
      .subst M;exact(I (by omega)).1
      .exact(v u).1 j (by omega) x
     .have z:=(I (by omega)).2;have F:=(v u).2;rw[j5 y (by omega),Pc];omega
    .refine⟨left,k,fun n d=>.brk ?_,E,by omega,fun h=>by omega⟩;rw[az (by simp;omega)]
  obtain ⟨e,w,a1,G,J,v⟩:=loop c.gp.length 0 (tc-1) (by omega) (by omega) (by omega) (by omega);refine⟨e,fun n d=>?_,G,J,fun u=>⟨.mk c (R rfl) (T rfl) (fun k D=>?_),?_⟩⟩
  .obtain⟨n,rfl,H⟩:=step n d;rw[CW,z,bs,F];simp only[bs,Bool.not_true,Bool.false_eq_true,if_false];rw[Am (n:=tc-1) (by omega) (by omega),(a1 n H).eq,BT]
  .obtain⟨j,C,x,rfl⟩:=BW D;exact(v u).1 j C x
  .have:=(v u).2;rw[show(0:Int).toNat=0 from rfl,List.drop_zero]at this;rw[Rp];omega
variable{c:d7}
theorem cM(d:(AK c).Sm):∃b,Ii c=some b/\(b=true->DV c/\Dv c<=40):=by
 obtain ⟨r,j,_,_,m⟩:=VZ (SizeOf.sizeOf c) c (bk _) d 40 (by omega) (by omega);have e:ON c 40=some r:=EG (SizeOf.sizeOf c) j;unfold Ii;rw[e];exact⟨_,rfl,fun h=>by have:=m (by simpa using h);exact⟨this.1,by have:=this.2;simp at h;omega⟩⟩
theorem TN:∀{l:List d7}{k:d7},k∈l->Dv k<=Pc l
 |x::l,k,h=>by
  rw [Pc];rcases List.mem_cons.1 h with rfl|h
  .omega
  .have:=TN h;omega
end Go.Sf.Sc
namespace Go.Sf.Sc
open Go Go.Sf
class PL(α:Type)where
 at_:α->Int->Int
 ok:α->Nat->Prop
instance:PL Fp:=⟨AA,fun l n=>l.length=n⟩
instance:PL (Option Fp):=⟨fun o i=>match o with|none=>-1|some l=>AA l i,fun o n=>match o with|none=>True|some l=>l.length=n⟩
structure KY(f:AH):Prop where
 pn:PL.ok f.fu.d3 f.p.d3.length
 pe:PL.ok f.fu.d4 f.p.d4.length
 ends:∀e∈f.p.d4,0≤e.kq/\e.kq<f.p.d3.length/\0≤e.To/\e.To<f.p.d3.length
 kinds:∀n∈f.p.d3,0<=n/\n<f.is.length/\∀t∈f.g.d3,0<=t/\t<(AA f.is n).length
 small:f.p.d3.length<=1000/\f.p.d4.length<=1000/\f.g.d3.length<=1000/\f.g.d4.length<=1000
def I2(f:AH)(i k:Int):Bool:=
 (decide (PL.at_ f.fu.d4 i<0)||decide (PL.at_ f.fu.d4 i=k))&&decide (AA f.g.d4 k=⟨(AA f.p.d4 i).kp,AA f.ei (AA f.p.d4 i).kq,AA f.ei (AA f.p.d4 i).To⟩)
variable{α:Type}
theorem cg{l:List α}(h:l≠[]):TX l=some ():=by grind[TX]
variable{l:Fp}{i:Int}
theorem UN(e:0<=i)(d:i<l.length):((TX l).bind fun _=>(idx l i).bind fun x=>some x)=some (AA l i):=by
 rw [cg (by intro h;subst h;simp at d;omega),bs,AD e d,bs]
variable{n:Nat}
theorem Xc:∀{l},PL.ok l n->0<=i->i<n->KA l i=some (PL.at_ l i):=by
 intro l h d e
 first
  |(cases l with
    |none=>rfl|some l=>exact UN d (by have:l.length=n:=h;omega))
  |exact UN d (by have:l.length=n:=h;omega)
variable{f:AH}{k:Int}
theorem dA(hf:KY f)(d:0<=i)(e:i<f.p.d4.length)(h:0<=k)(j:k<f.g.d4.length)(m:(AA f.p.d4 i).kq<f.ei.length)(o:(AA f.p.d4 i).To<f.ei.length):DX f i k=some (I2 f i k):=by
 have he:=hf.ends _ (AJ d e);unfold DX I2;rw[AD d e,bs,Xc hf.pe d e,bs,AD h j,bs,AD he.1 m,bs,AD he.2.2.1 o,bs]
 grind
def My(f:AH):Bool:=!ne (fun i=>decide (max (AA f.p.d4 i).kq (AA f.p.d4 i).To=(f.ei.length:Int)-1)&&!ne (fun k=>I2 f i k) 0 f.g.d4.length) 0 f.p.d4.length
variable{b:Int}
theorem jr{f:Int->Bool->Option (Bk Bool Bool)}(p:Int->Bool)(h:∀i,0<=i->i<b->f i false=some (if p i=true then .brk true else .next false)):j4 f 0 b false=some (.inl (ne p 0 b)):=by
 have key:∀(m:Nat)(i:Int),0<=i->i+m=b->Aac f m i false=some (.inl (ne p i b)):=by
  intro m
  induction m with
  |zero=>
   intro i d hi;have:ne p i b=false:=by rw[Bf];intro j q r;omega
   rw [this];rfl
  |succ m v=>
   intro i d hi;rw[EN,h i d (by omega)];by_cases o:p i=true
   .have:ne p i b=true:=by rw[Dy];exact⟨i,Int.le_refl _,by omega,o⟩
    rw [ae o,this]
   .have e:ne p i b=ne p (i+1) b:=by
     rw [Bool.eq_iff_iff,Dy,Dy]
     grind
    grind
 unfold j4;by_cases u:0<=b
 .grind
 .have:ne p 0 b=false:=by rw[Bf];intro j q r;omega
  rw [this,show(b-0).toNat=0 by omega];rfl
theorem a8(hf:KY f)(q:0<f.ei.length)(j:f.ei.length<=1000):B2 f=some (My f):=by
 unfold B2 My;rw[BJ (fun i=>decide (max (AA f.p.d4 i).kq (AA f.p.d4 i).To=(f.ei.length:Int)-1)&&!ne (fun k=>I2 f i k) 0 f.g.d4.length) false]
 .generalize ne (fun i=>decide (max (AA f.p.d4 i).kq (AA f.p.d4 i).To=(f.ei.length:Int)-1)&&!ne (fun k=>I2 f i k) 0 f.g.d4.length) 0 f.p.d4.length=b;cases b<;>rfl
 .intro i d e _;rw[AD d e,bs,Am (n:=(f.ei.length:Int)-1) (by omega) (by omega)];by_cases h:max (AA f.p.d4 i).kq (AA f.p.d4 i).To=(f.ei.length:Int)-1
  .rw[az (by simp[h]),jr (fun k=>I2 f i k) (fun k m o=>by
    rw [dA hf d e m o (by omega) (by omega),bs,Hw])]
   generalize ne (fun k=>I2 f i k) 0 f.g.d4.length=b;rw[decide_eq_true h];cases b<;>rfl
  grind
def Aw(n:Nat):Fp:=(List.range n).map Int.ofNat
theorem SV(n:Nat):Aw (n+1)=Aw n++[(n:Int)]:=by grind[Aw,List.range_succ]
def Ov(f:AH)(k:Int):Bool:=(decide (PL.at_ f.fu.d3 f.ei.length<0)||decide (PL.at_ f.fu.d3 f.ei.length=k))&&AA (AA f.is (AA f.p.d3 f.ei.length)) (AA f.g.d3 k)&&!(f.ej&&f.ei.any fun x=>decide (k=x))
def Ou(f:AH)(k:Int):Bool:=I2 f f.em.length k&&!(f.ej&&f.em.any fun x=>decide (k=x))
def DW:Nat->AH->List d6
 |0,f=>[⟨f.ei,f.em⟩]|n+1,f=>(Aw f.g.d4.length).flatMap fun k=>if Ou f k=true then DW n {f with em:=f.em++[k]}else[]
def Iq:Nat->AH->List d6
 |0,f=>DW f.p.d4.length f|n+1,f=>(Aw f.g.d3.length).flatMap fun k=>if(Ov f k&&My {f with ei:=f.ei++[k]})=true then Iq n {f with ei:=f.ei++[k]}else[]
theorem WK(a b:List α)(m:Nat):((a.take m)++b).take m=(a++b).take m:=by
 by_cases h:a.length<=m
 .rw[List.take_of_length_le h]
 grind
end Go.Sf.Sc
namespace Go.Sf.Sc
open Go Go.Sf
def RB(f:AH)(o:List d6):AH:={f with out:=o}
variable{f:AH}
theorem KY.out(h:KY f)(o:List d6):KY (RB f o):=⟨h.pn,h.pe,h.ends,h.kinds,h.small⟩
theorem Og:∀(n:Nat)(f:AH)(o:List d6),DW n (RB f o)=DW n f
 |0,_,_=>rfl|n+1,f,o=>by
  rw [DW,DW];refine congrArg (fun F=>(Aw f.g.d4.length).flatMap F) (funext fun k=>?_);have:=Og n {f with em:=f.em++[k]} o;show(if Ou f k=true then DW n (RB {f with em:=f.em++[k]} o)else[])=_;rw[this]
theorem W7:∀(n:Nat)(f:AH)(o:List d6),Iq n (RB f o)=Iq n f
 |0,f,o=>Og _ f o|n+1,f,o=>by
  rw [Iq,Iq];refine congrArg (fun F=>(Aw f.g.d3.length).flatMap F) (funext fun k=>?_);have:=W7 n {f with ei:=f.ei++[k]} o;show(if(Ov f k&&My {f with ei:=f.ei++[k]})=true then Iq n (RB {f with ei:=f.ei++[k]} o)else[])=_;rw[this]
def A1(f:AH)(l:List d6):AH:=RB f ((f.out++l).take f.tc.toNat)
structure U1(f:AH):Prop where
 m0:0<=f.tc
 m1:f.tc<=10000
 out:(f.out.length:Int)<=f.tc
theorem Ju(h:U1 f):A1 f []=f:=by
 unfold A1;rw[List.append_nil,List.take_of_length_le (by have:=h.out;have:=h.m0;omega)];rfl
theorem Vl(h:(f.out.length:Int)=f.tc)(l:List d6):A1 f l=f:=by
 unfold A1;rw[List.take_append_of_le_length (by omega),List.take_of_length_le (by omega)];rfl
theorem Vn(h:U1 f)(l:List d6):U1 (A1 f l):=by
 refine ⟨h.m0,h.m1,?_⟩;have:=h.m0;show(((f.out++l).take f.tc.toNat).length:Int)<=f.tc
 grind
theorem Vm(f:AH)(a b:List d6):A1 (A1 f a) b=A1 f (a++b):=by
 show RB f ((((f.out++a).take f.tc.toNat)++b).take f.tc.toNat)=_;rw[WK,ci];rfl
theorem UF:∀(n:Nat)(f:AH),KY f->U1 f->f.ei.length=f.p.d3.length->f.em.length+n=f.p.d4.length->∀m,n+1<=m->Av m f=some (A1 f (DW n f))
 |n,f,hf,u,M,he,m,y=>by
  obtain ⟨m,rfl⟩:∃k,m=k+1:=⟨m-1,by omega⟩;have N:=hf.small;have O:=u.m0;have P:=u.m1;have Q:=u.out;rw[Av];by_cases e:(f.out.length:Int)=f.tc
  .grind[Vl]
  rw [az (by simpa using e),az (by simp;omega)]
  match n,he,y with
  |0,he,y=>
   rw [az (by simp;omega)];unfold slices_Clone_int;rw[BY (by unfold Ae;omega),bs,BY (by unfold Ae;omega),bs,Af (by simp;unfold Ae;omega),bs,bs];unfold A1;rw[List.take_of_length_le (by simp[DW];omega)];rfl
  |n+1,he,y=>
   rw [ae (by simp;omega)];have F:∀k,Ou f k=true->KY {f with em:=f.em++[k]}:=fun k _=>⟨hf.pn,hf.pe,hf.ends,hf.kinds,hf.small⟩;rw[Bo (a:=0) (s:=f) (fun i=>A1 f ((Aw i.toNat).flatMap fun k=>if Ou f k=true then DW n {f with em:=f.em++[k]}else[])) (by omega) (Ju u)]
   .grind[Int.toNat_natCast,DW]
   .intro i C D;have E:Aw (i+1).toNat=Aw i.toNat++[i]:=by
     rw [show(i+1).toNat=i.toNat+1 by omega,SV];rw[show((i.toNat:Nat):Int)=i by omega]
    have G:∀l,A1 f ((Aw (i+1).toNat).flatMap l)=A1 (A1 f ((Aw i.toNat).flatMap l)) (l i):=by
     intro l;rw[Vm,E,List.flatMap_append];simp
    rw [G];generalize (Aw i.toNat).flatMap (fun k=>if Ou f k=true then DW n {f with em:=f.em++[k]}else[])=L;have o:=Vn u L;have v:KY (A1 f L):=hf.out _;have z:=hf.ends _ (AJ (l:=f.p.d4) (i:=(f.em.length:Int)) (by omega) (by omega));rw[dA v (i:=(f.em.length:Int)) (k:=i) (by omega) (by show _<(f.p.d4.length:Int);omega) C (by exact D) (by show(AA f.p.d4 f.em.length).kq<(f.ei.length:Int);omega) (by show(AA f.p.d4 f.em.length).To<(f.ei.length:Int);omega),bs];have H:slices_Contains_int (A1 f L).em i=some (f.em.any fun x=>decide (i=x)):=Kf f.em i;rw[H];have q:I2 (A1 f L) f.em.length i=I2 f f.em.length i:=rfl;have key:((Ah (A1 f L).em [i]).bind fun h=>
      (Av m (AH.mk (A1 f L).p (A1 f L).g (A1 f L).is (A1 f L).fu (A1 f L).ej (A1 f L).tc (A1 f L).ei h (A1 f L).out)).bind fun d=>
      (slc d.em 0 (f.em.length:Int)).bind fun j=>
      some (AH.mk d.p d.g d.is d.fu d.ej d.tc d.ei j d.out))=some (A1 (A1 f L) (DW n {f with em:=f.em++[i]})):=by
     have I:Ah (A1 f L).em [i]=some (f.em++[i]):=Af (by show f.em.length+1<=Ae;unfold Ae;omega);have B:=UF n {A1 f L with em:=f.em++[i]} ⟨hf.pn,hf.pe,hf.ends,hf.kinds,hf.small⟩ ⟨o.m0,o.m1,o.out⟩ M (by show(f.em++[i]).length+n=f.p.d4.length;simp;omega) m (by omega);have J:DW n {A1 f L with em:=f.em++[i]}=DW n {f with em:=f.em++[i]}:=Og n {f with em:=f.em++[i]} _;rw[J]at B;rw[I,bs];show(Av m {A1 f L with em:=f.em++[i]}).bind _=_;rw[B,bs];have K:slc (A1 {A1 f L with em:=f.em++[i]} (DW n {f with em:=f.em++[i]})).em 0 (f.em.length:Int)=some f.em:=by
      show slc (f.em++[i]) 0 (f.em.length:Int)=_;rw[LQ (by omega) (by rw[cE];omega),Int.toNat_natCast,List.take_left]
     rw [K];rfl
    rw [key,q];have w:Ou f i=(I2 f f.em.length i&&!(f.ej&&f.em.any fun x=>decide (i=x))):=rfl;have r:(A1 f L).ej=f.ej:=rfl;rw[w,r];generalize R:DW n {f with em:=f.em++[i]}=A;cases I2 f f.em.length i
    .simp only[Bool.false_and,Bool.false_eq_true,if_false,Ju o];rfl
    .cases f.ej
     .rfl
     .cases f.em.any fun x=>decide (i=x)
      .rfl
      .simp only[Bool.and_self,Bool.not_true,Bool.and_false,Bool.false_eq_true,if_false,Ju o];rfl
end Go.Sf.Sc
namespace Go.Sf.Sc
open Go Go.Sf
theorem UG:∀(n:Nat)(f:AH),KY f->U1 f->f.em=[]->f.ei.length+n=f.p.d3.length->∀m,n+f.p.d4.length+1<=m->Av m f=some (A1 f (Iq n f))
 |0,f,hf,r,he,R,m,S=>by
  grind [Iq,UF]
 |n+1,f,hf,r,he,R,m,S=>by
  obtain ⟨m,rfl⟩:∃k,m=k+1:=⟨m-1,by omega⟩;have T:=hf.small;have U:=r.m0;have V:=r.m1;have W:=r.out;rw[Av];by_cases j:(f.out.length:Int)=f.tc
  .grind[Vl]
  rw [az (by simpa using j),ae (by simp;omega)];rw[Bo (a:=0) (s:=f) (fun i=>A1 f ((Aw i.toNat).flatMap fun k=>if(Ov f k&&My {f with ei:=f.ei++[k]})=true then Iq n {f with ei:=f.ei++[k]}else[])) (by omega) (Ju r)]
  .grind[Int.toNat_natCast,Iq]
  .intro i B C;have F:Aw (i+1).toNat=Aw i.toNat++[i]:=by
    rw [show(i+1).toNat=i.toNat+1 by omega,SV];rw[show((i.toNat:Nat):Int)=i by omega]
   have G:∀l,A1 f ((Aw (i+1).toNat).flatMap l)=A1 (A1 f ((Aw i.toNat).flatMap l)) (l i):=by
    intro l;rw[Vm,F,List.flatMap_append];simp
   rw [G];generalize (Aw i.toNat).flatMap (fun k=>if(Ov f k&&My {f with ei:=f.ei++[k]})=true then Iq n {f with ei:=f.ei++[k]}else[])=L;have o:=Vn r L;have v:(f.ei.length:Int)<(f.p.d3.length:Int):=by omega
   have q:=hf.kinds _ (AJ (l:=f.p.d3) (i:=(f.ei.length:Int)) (by omega) v);have w:=q.2.2 _ (AJ B C);have key:((Ah (A1 f L).ei [i]).bind fun e=>
     (B2 (AH.mk (A1 f L).p (A1 f L).g (A1 f L).is (A1 f L).fu (A1 f L).ej (A1 f L).tc e (A1 f L).em (A1 f L).out)).bind fun u=>
     if u=true then
     (Av m (AH.mk (A1 f L).p (A1 f L).g (A1 f L).is (A1 f L).fu (A1 f L).ej (A1 f L).tc e (A1 f L).em (A1 f L).out)).bind fun d=>
     (slc d.ei 0 (f.ei.length:Int)).bind fun h=>
     some (AH.mk d.p d.g d.is d.fu d.ej d.tc h d.em d.out)
     else
     (slc e 0 (f.ei.length:Int)).bind fun h=>
     some (AH.mk (A1 f L).p (A1 f L).g (A1 f L).is (A1 f L).fu (A1 f L).ej (A1 f L).tc h (A1 f L).em (A1 f L).out))=some (A1 (A1 f L) (if My {f with ei:=f.ei++[i]}=true then Iq n {f with ei:=f.ei++[i]}else[])):=by
    have H:Ah (A1 f L).ei [i]=some (f.ei++[i]):=Af (by show f.ei.length+1<=Ae;unfold Ae;omega);have D:slc (f.ei++[i]) 0 (f.ei.length:Int)=some f.ei:=by
     rw [LQ (by omega) (by rw[cE];omega),Int.toNat_natCast,List.take_left]
    have I:B2 {A1 f L with ei:=f.ei++[i]}=some (My {f with ei:=f.ei++[i]}):=a8 (f:={A1 f L with ei:=f.ei++[i]}) ⟨hf.pn,hf.pe,hf.ends,hf.kinds,hf.small⟩ (by show 0<(f.ei++[i]).length;simp) (by show(f.ei++[i]).length<=1000;rw[cE];simp;omega);have E:=UG n {A1 f L with ei:=f.ei++[i]} ⟨hf.pn,hf.pe,hf.ends,hf.kinds,hf.small⟩ ⟨o.m0,o.m1,o.out⟩ he (by show(f.ei++[i]).length+n=f.p.d3.length;rw[cE];simp;omega) m (by show n+f.p.d4.length+1<=m;omega);have J:Iq n {A1 f L with ei:=f.ei++[i]}=Iq n {f with ei:=f.ei++[i]}:=W7 n {f with ei:=f.ei++[i]} _;rw[J]at E;rw[H,bs];show(B2 {A1 f L with ei:=f.ei++[i]}).bind _=_;rw[I,bs];cases My {f with ei:=f.ei++[i]}
    .rw[az (by decide),az (by decide),D,Ju o];rfl
    .rw[ae rfl,ae rfl];show(Av m {A1 f L with ei:=f.ei++[i]}).bind _=_;rw[E,bs];have K:slc (A1 {A1 f L with ei:=f.ei++[i]} (Iq n {f with ei:=f.ei++[i]})).ei 0 (f.ei.length:Int)=some f.ei:=D;rw[K];rfl
   have M:KA (A1 f L).fu.d3 (f.ei.length:Int)=some (PL.at_ f.fu.d3 f.ei.length):=Xc (n:=f.p.d3.length) hf.pn (by omega) (by omega);have N:idx (A1 f L).p.d3 (f.ei.length:Int)=some (AA f.p.d3 f.ei.length):=AD (by omega) v;have hi:idx (A1 f L).is (AA f.p.d3 f.ei.length)=some (AA f.is (AA f.p.d3 f.ei.length)):=AD q.1 q.2.1;have O:idx (AA f.is (AA f.p.d3 f.ei.length)) (AA f.g.d3 i)=some (AA (AA f.is (AA f.p.d3 f.ei.length)) (AA f.g.d3 i)):=AD w.1 w.2;have P:slices_Contains_int (A1 f L).ei i=some (f.ei.any fun x=>decide (i=x)):=Kf f.ei i;have y:(A1 f L).ej=f.ej:=rfl;have z:Ov f i=((decide (PL.at_ f.fu.d3 f.ei.length<0)||decide (PL.at_ f.fu.d3 f.ei.length=i))&&AA (AA f.is (AA f.p.d3 f.ei.length)) (AA f.g.d3 i)&&!(f.ej&&f.ei.any fun x=>decide (i=x))):=rfl;rw[AD B C,bs,M,bs,N,bs,hi,bs,O,bs,P,key,y,z];generalize AA (AA f.is (AA f.p.d3 f.ei.length)) (AA f.g.d3 i)=c2;have Q:(decide (0<=PL.at_ f.fu.d3 f.ei.length)&&!decide (PL.at_ f.fu.d3 f.ei.length=i))=!(decide (PL.at_ f.fu.d3 f.ei.length<0)||decide (PL.at_ f.fu.d3 f.ei.length=i)):=by
    rw [Bool.not_or];congr 1;rw[<-decide_not];exact decide_eq_decide.2 (by omega)
   rw [Q];generalize (decide (PL.at_ f.fu.d3 f.ei.length<0)||decide (PL.at_ f.fu.d3 f.ei.length=i))=c1;generalize My {f with ei:=f.ei++[i]}=c5;generalize Iq n {f with ei:=f.ei++[i]}=A;cases c1
   .simp only[Bool.false_and,Bool.false_eq_true,if_false,Ju o];rfl
   .cases c2
    .simp only[Bool.and_false,Bool.false_and,Bool.false_eq_true,if_false,Ju o];rfl
    .cases f.ej
     .rfl
     .cases f.ei.any fun x=>decide (i=x)
      .rfl
      .simp only[Bool.and_self,Bool.not_true,Bool.and_false,Bool.false_and,Bool.false_eq_true,if_false,Ju o];rfl
variable{f:AH}
theorem cw(hf:KY f)(d:U1 f)(he:f.em=[])(e:f.ei=[]):EW f=some (A1 f (Iq f.p.d3.length f)):=
 EG (f.p.d3.length+f.p.d4.length+1) fun m h=>UG _ f hf d he (by rw[e];simp) m h
end Go.Sf.Sc
namespace Go.Sf.Sc
open Go Go.Sf
theorem BE(n:Nat):(Aw n).length=n:=by simp[Aw]
variable{n:Nat}{i:Int}
theorem FY:i∈Aw n↔0<=i/\i<n:=by
 unfold Aw;rw[List.mem_map];constructor
 .grind
 .rintro⟨d,e⟩;exact⟨i.toNat,List.mem_range.2 (by omega),by show((i.toNat:Nat):Int)=i;omega⟩
variable{α:Type}
theorem Ia[Inhabited α](F:Int->α)(d:0<=i)(e:i<n):AA ((Aw n).map F) i=F i:=by
 unfold AA Aw
 grind
theorem Fh(d:0<=i):Aw (i+1).toNat=Aw i.toNat++[i]:=by
 rw [show(i+1).toNat=i.toNat+1 by omega,SV,show((i.toNat:Nat):Int)=i by omega]
def MW(t:AC)(a:Int):a6:=(Aw t.d3.length).map fun k=>If t k a
def H4(t:AC):List a6:=(Aw t.d3.length).map (MW t)
variable{t:AC}{a:Int}
theorem kW(hf:Ap t)(h:F1 t)(hv:(Au t).2=0)(a0:0<=a)(a1:a<t.d3.length):Gf t a=some ((Aw t.d3.length).filter fun i=>If t i a,0):=by
 have e:=h.ei;unfold Gf;have d:Jc t a=true:=by simp[Jc,a0,a1]
 rw [VK hf,bs,az (by simp[hv,d])];rw[Bo (fun i=>(Aw i.toNat).filter fun i=>If t i a) (by omega) (by rfl),bs,Int.toNat_natCast]
 grind [fl,Fh,Aw,If,List.length_filter_le,BE,Af,Ae]
variable{l:Fp}
theorem ln(r:∀x∈l,0<=x/\x<n):pr (fun(u:Int)(s2:a6)=>
  (idx l u).bind fun d=>
  (idx s2 d).bind fun _=>
  some (BC s2 d true)) 0 (l.length:Int) (List.replicate n false)=some ((Aw n).map fun k=>l.any fun x=>decide (x=k)):=by
 rw [Bo (fun j=>(Aw n).map fun k=>(l.take j.toNat).any fun x=>decide (x=k)) (by omega) (by
  refine List.ext_getElem (by simp[BE]) (fun j m y=>by simp))]
 .rw[Int.toNat_natCast,List.take_length]
 .intro j o m;have q:=r _ (AJ o m);rw[AD o m,bs,AD q.1 (by rw[ca,BE];exact q.2),bs,CQ o m];congr 1;unfold BC;refine List.ext_getElem (by simp) (fun k z v=>?_);have w:k<n:=by simpa[BE]using v
  rw [List.getElem_set];have e:(Aw n)[k]'(by rw[BE];exact w)=(k:Int):=by simp[Aw]
  simp only[List.getElem_map,e,List.any_append,List.any_cons,List.any_nil,Bool.or_false];by_cases h:(AA l j).toNat=k
  .rw[ae h,decide_eq_true (show AA l j=(k:Int)by omega),Bool.or_true]
  .rw[az h,decide_eq_false (show¬AA l j=(k:Int)by omega),Bool.or_false]
theorem bB(hf:Ap t)(h:F1 t)(hv:(Au t).2=0):E3 t=some (H4 t):=by
 have w:=h.ei;unfold E3;rw[Bo (fun i=>(Aw i.toNat).map (MW t)) (by omega) (by rfl),bs,Int.toNat_natCast]
 .rfl
 .intro i o r;have v:GW (t.d3.length:Int) false=some (List.replicate t.d3.length false):=by
   unfold GW;rw[ae (by omega),Int.toNat_natCast]
  rw [v,bs,kW hf h hv o r,bs];have:=ln (n:=t.d3.length) (l:=(Aw t.d3.length).filter fun k=>If t k i) (fun x j=>FY.1 (List.mem_filter.1 j).1);show(pr (fun(q:Int)(s2:a6)=>
   (idx ((Aw t.d3.length).filter fun k=>If t k i) q).bind fun d=>
   (idx s2 d).bind fun _=>
   some (BC s2 d true)) 0 (((Aw t.d3.length).filter fun k=>If t k i).length:Int) (List.replicate t.d3.length false)).bind _=_
  rw [this,bs,Af (by rw[ca,BE];simp;unfold Ae;omega),bs,Fh o,List.map_append];congr 2;simp only[List.map_cons,List.map_nil];congr 1;unfold MW;refine List.map_congr_left (fun k m=>?_);have m:=FY.1 m;rw[Bool.eq_iff_iff,List.any_eq_true];constructor
  .rintro⟨x,j,e⟩;rw[zzX]at e;subst e;exact(List.mem_filter.1 j).2
  .intro u;exact⟨k,List.mem_filter.2 ⟨FY.2 m,u⟩,by simp⟩
end Go.Sf.Sc
namespace Go.Sf.Sc
open Go Go.Sf
def ET:Nat->AH->List d6
 |0,f=>DW f.p.d4.length f|n+1,f=>(Aw f.g.d3.length).flatMap fun k=>if Ov f k=true then ET n {f with ei:=f.ei++[k]}else[]
def aB(f:AH)(i:Int):Prop:=0<=i/\i<f.p.d4.length/\0<=(AA f.p.d4 i).kq/\(AA f.p.d4 i).kq<f.ei.length/\0<=(AA f.p.d4 i).To/\(AA f.p.d4 i).To<f.ei.length/\∀k:Int,0<=k->k<f.g.d4.length->I2 f i k=false
theorem Tk(f:AH)(i k:Int):I2 f i k=((decide (PL.at_ f.fu.d4 i<0)||decide (PL.at_ f.fu.d4 i=k))&&decide (AA f.g.d4 k=⟨(AA f.p.d4 i).kp,AA f.ei (AA f.p.d4 i).kq,AA f.ei (AA f.p.d4 i).To⟩)):=rfl
variable{α:Type}{i:Int}
theorem XC[Inhabited α](l:List α)(x:α)(d:0<=i)(e:i<l.length):AA (l++[x]) i=AA l i:=by
 unfold AA
 grind
theorem cK:∀(n:Nat)(f:AH)(i:Int),aB f i->(f.em.length:Int)<=i->i<f.em.length+n->DW n f=[]
 |0,f,i,_,e,h=>by omega|n+1,f,i,hd,e,h=>by
  rw [DW];refine List.flatMap_eq_nil_iff.2 (fun k d=>?_);have d:=FY.1 d;by_cases he:(f.em.length:Int)=i
  .have:Ou f k=false:=by
    unfold Ou;rw[he,hd.2.2.2.2.2.2 k d.1 d.2];rfl
   grind
  .split
   .exact cK n {f with em:=f.em++[k]} i hd (by show((f.em++[k]).length:Int)<=i;rw[cE];simp;omega) (by show i<((f.em++[k]).length:Int)+n;rw[cE];simp;omega)
   .rfl
theorem XL:∀(n:Nat)(f:AH)(i:Int),f.em=[]->aB f i->ET n f=[]
 |0,f,i,he,hd=>by
  rw [ET];exact cK _ f i hd (by rw[he];simpa using hd.1) (by rw[he];simpa using hd.2.1)
 |n+1,f,i,he,hd=>by
  rw [ET];refine List.flatMap_eq_nil_iff.2 (fun k o=>?_);split
  .refine XL n {f with ei:=f.ei++[k]} i he ?_;obtain⟨d,e,h,v,m,w,x⟩:=hd;have u:((f.ei++[k]).length:Int)=f.ei.length+1:=by rw[cE];simp
   refine ⟨d,e,h,?_,m,?_,fun j q r=>?_⟩
   .grind
   .grind
   grind [Tk,AA,XC]
  .rfl
variable{f:AH}
theorem fv(hf:KY f)(h:My f=false):∃i,aB f i:=by
 unfold My at h;rw[Bool.not_eq_false',Dy]at h;obtain⟨i,d,e,h⟩:=h;rw[tg,zzX,Bool.not_eq_true',Bf]at h;have he:=hf.ends _ (AJ d e);exact⟨i,d,e,he.1,by omega,he.2.2.1,by omega,h.2⟩
theorem W6:∀(n:Nat)(f:AH),KY f->f.em=[]->Iq n f=ET n f
 |0,_,_,_=>rfl|n+1,f,hf,he=>by
  rw [Iq,ET];refine congrArg (fun F=>(Aw f.g.d3.length).flatMap F) (funext fun k=>?_);have d:KY {f with ei:=f.ei++[k]}:=⟨hf.pn,hf.pe,hf.ends,hf.kinds,hf.small⟩;cases Ov f k
  .rfl
  .cases e:My {f with ei:=f.ei++[k]}
   .obtain⟨i,hd⟩:=fv d e
    grind [XL]
   .simp;exact W6 n _ d he
end Go.Sf.Sc
namespace Go.Sf.Sc
open Go Go.Sf
variable{a b:Int}
theorem Mg{σ ρ:Type}{f:σ×Int->Option (Bk (σ×Int) ρ)}(g:Int->σ){s:σ}(d:a<=b)(e:s=g a)(h:∀i,a<=i->i<b->f (g i,i)=some (.next (g (i+1),i+1)))(j:f (g b,b)=some (.brk (g b,b))):EA f (s,a)=some (.inl (g b,b)):=by
 subst e;have key:∀(n:Nat)(i:Int),a<=i->i+n=b->LK f (g i,i) (.inl (g b,b)):=by
  intro n
  induction n with
  |zero=>
   intro i _ hi;have:i=b:=by omega
   subst this;exact .brk j
  |succ n o=>
   intro i m q;exact .next (h i m (by omega)) (o (i+1) (by omega) (by omega))
 exact (key (b-a).toNat a (Int.le_refl _) (by omega)).eq
def HM(s:AX)(ei em:Fp):AH:=⟨s.p,s.g,H4 s.t,s.fu,s.ej,s.tc+1,ei,em,s.Aax⟩
def CE(s:AX)(l:List d6):AX:={s with Aax:=(s.Aax++l).take (s.tc+1).toNat}
structure Tw(s:AX):Prop where
 m0:0<=s.tc
 m1:s.tc<=9999
 out:(s.Aax.length:Int)<=s.tc+1
variable{s:AX}
theorem Nv(h:Tw s):CE s []=s:=by
 unfold CE;rw[List.append_nil,List.take_of_length_le (by have:=h.out;have:=h.m0;omega)]
theorem Ur(h:(s.Aax.length:Int)=s.tc+1)(l:List d6):CE s l=s:=by
 unfold CE;rw[List.take_append_of_le_length (by omega),List.take_of_length_le (by omega)]
theorem Us(h:Tw s)(l:List d6):Tw (CE s l):=by
 refine ⟨h.m0,h.m1,?_⟩;have:=h.m0;show(((s.Aax++l).take (s.tc+1).toNat).length:Int)<=s.tc+1
 grind
theorem TD(s:AX)(a b:List d6):CE (CE s a) b=CE s (a++b):=by
 show ({s with Aax:=(((s.Aax++a).take (s.tc+1).toNat)++b).take (s.tc+1).toNat}:AX)=_;rw[WK,ci];rfl
variable{l:Fp}
theorem dV(s:AX)(j:l.length<=1000)(n:Int):Cb s l n=some (s.ej&&l.any fun x=>decide (n=x)):=by
 unfold Cb;cases s.ej
 .rw[S0 (fun _=>false) true (a:=0) (b:=0) (Int.le_refl _) (fun i h d=>by omega) (by rw[az (by simp)])];rfl
 .rw[S0 (fun i=>decide (AA l i=n)) true (a:=0) (b:=l.length) (by omega) (fun i h d=>by
   rw [ae (by simp;exact d),AD h d,bs,Am (by omega) (by omega),Hw]) (by rw[az (by simp)])]
  have e:ne (fun i=>decide (AA l i=n)) 0 l.length=l.any fun x=>decide (n=x):=by
   rw [Bool.eq_iff_iff,Dy,List.any_eq_true]
   grind [AJ,BW]
  rw [e,Bool.true_and];cases l.any fun x=>decide (n=x)<;>rfl
theorem V9:∀(n:Nat)(s:AX)(ei l:Fp),KY (HM s [] [])->Tw s->ei.length=s.p.d3.length->l.length+n=s.p.d4.length->∀m,n+1<=m->B7 m s ei l=some (CE s (DW n (HM s ei l)))
 |n,s,ei,l,hf,r,z,he,m,B=>by
  obtain ⟨m,rfl⟩:∃k,m=k+1:=⟨m-1,by omega⟩;have u:=hf.small;have R:s.p.d3.length<=1000:=u.1;have s2:s.p.d4.length<=1000:=u.2.1;have S:s.g.d3.length<=1000:=u.2.2.1;have T:s.g.d4.length<=1000:=u.2.2.2;have U:=r.m0;have V:=r.m1;have W:=r.out;rw[B7];by_cases v:(s.Aax.length:Int)=s.tc+1
  .grind[Ur]
  rw [az (by simp;omega)]
  match n,he,B with
  |0,he,B=>
   rw [ae (by simp;omega),BY (by unfold Ae;omega),bs,BY (by unfold Ae;omega),bs,Af (by simp;unfold Ae;omega),bs];unfold CE;rw[List.take_of_length_le (by simp[DW];omega)];rfl
  |n+1,he,B=>
   have e:(0:Int)<=l.length:=by omega
   have q:(l.length:Int)<s.p.d4.length:=by omega
   have d:=hf.ends _ (AJ (l:=s.p.d4) e q);have H:(AA s.p.d4 l.length).kq<ei.length:=by rw[z];exact d.2.1
   have I:(AA s.p.d4 l.length).To<ei.length:=by rw[z];exact d.2.2.2
   have w:(l.length:Int)<s.fu.d4.length:=by
    have:s.fu.d4.length=s.p.d4.length:=hf.pe;omega
   rw [az (by simp;omega),AD e q,bs];rw[Mg (fun i=>CE s ((Aw i.toNat).flatMap fun k=>if Ou (HM s ei l) k=true then DW n (HM s ei (l++[k]))else[])) (a:=0) (b:=(s.g.d4.length:Int)) (s:=s) (by omega) (Nv r).symm (fun i C D=>by
    have J:∀F,CE s ((Aw (i+1).toNat).flatMap F)=CE (CE s ((Aw i.toNat).flatMap F)) (F i):=by
     intro F;rw[TD,Fh C,List.flatMap_append];simp
    rw [J];generalize (Aw i.toNat).flatMap (fun k=>if Ou (HM s ei l) k=true then DW n (HM s ei (l++[k]))else[])=L;have E:=Us r L;rw[ae (by rw[zzX];exact D)];have K:idx (CE s L).g.d4 i=some (AA s.g.d4 i):=AD C D;have M:idx (CE s L).fu.d4 (l.length:Int)=some (AA s.fu.d4 l.length):=AD e w;have N:Cb (CE s L) l i=some (s.ej&&l.any fun x=>decide (i=x)):=dV (CE s L) (by omega) i;have key:((Ah [] l).bind fun h=>
      (Ah h [i]).bind fun j=>
      (B7 m (CE s L) ei j).bind fun o=>
      some (.next (o,Ad (i+1)):Bk (AX×Int) AX))=some (.next (CE (CE s L) (DW n (HM s ei (l++[i]))),i+1)):=by
     have G:=V9 n (CE s L) ei (l++[i]) ⟨hf.pn,hf.pe,hf.ends,hf.kinds,hf.small⟩ E z (by show(l++[i]).length+n=s.p.d4.length;rw[cE];simp;omega) m (by omega);have O:DW n (HM (CE s L) ei (l++[i]))=DW n (HM s ei (l++[i])):=Og n (HM s ei (l++[i])) _;rw[O]at G;rw[BY (by unfold Ae;omega),bs,Af (by simp;unfold Ae;omega),bs,G,bs,Am (by omega) (by omega)]
    rw [K,bs,M,bs,N,key];simp only[bs];rw[AD d.1 H,AD d.2.2.1 I,Am (n:=i+1) (by omega) (by omega)];simp only[bs];have y:Ou (HM s ei l) i=(((decide (AA s.fu.d4 l.length<0)||decide (AA s.fu.d4 l.length=i))&&decide (AA s.g.d4 i=⟨(AA s.p.d4 l.length).kp,AA ei (AA s.p.d4 l.length).kq,AA ei (AA s.p.d4 l.length).To⟩))&&!(s.ej&&l.any fun x=>decide (i=x))):=rfl;have P:decide (AA s.g.d4 i=⟨(AA s.p.d4 l.length).kp,AA ei (AA s.p.d4 l.length).kq,AA ei (AA s.p.d4 l.length).To⟩)=(decide ((AA s.p.d4 l.length).kp=(AA s.g.d4 i).kp)&&decide ((AA s.g.d4 i).kq=AA ei (AA s.p.d4 l.length).kq)&&decide ((AA s.g.d4 i).To=AA ei (AA s.p.d4 l.length).To)):=by
     rw [Bool.eq_iff_iff];simp[zzX];generalize AA s.g.d4 i=x;obtain⟨x1,X,Y⟩:=x;simp;constructor
     .rintro⟨a,b,c⟩;exact⟨⟨a.symm,b⟩,c⟩
     .rintro⟨⟨a,b⟩,c⟩;exact⟨a.symm,b,c⟩
    have Q:(decide (AA s.fu.d4 l.length<0)||decide (AA s.fu.d4 l.length=i))=!(decide (0<=AA s.fu.d4 l.length)&&!decide (AA s.fu.d4 l.length=i)):=by
     rw [Bool.not_and,Bool.not_not];congr 1;rw[<-decide_not];exact decide_eq_decide.2 (by omega)
    rw [y,P,Q];generalize DW n (HM s ei (l++[i]))=A;generalize decide (0<=AA s.fu.d4 l.length)=c1;generalize decide (AA s.fu.d4 l.length=i)=c2;generalize decide ((AA s.p.d4 l.length).kp=(AA s.g.d4 i).kp)=c3;generalize decide ((AA s.g.d4 i).kq=AA ei (AA s.p.d4 l.length).kq)=c4;generalize decide ((AA s.g.d4 i).To=AA ei (AA s.p.d4 l.length).To)=c5;generalize (s.ej&&l.any fun x=>decide (i=x))=c6;cases c1<;>cases c2<;>cases c3<;>cases c4<;>cases c5<;>cases c6<;>first|rfl|(simp[Nv E];try rfl)) (by rw[az (by simp[CE])]),BT,Int.toNat_natCast,DW]
   rfl
end Go.Sf.Sc
namespace Go.Sf.Sc
open Go Go.Sf
def RH(s:AX)(l:Fp)(i k:Int):Bool:=decide (AA s.g.d4 k=⟨(AA s.p.d4 i).kp,AA l (AA s.p.d4 i).kq,AA l (AA s.p.d4 i).To⟩)
def QR(s:AX)(l:Fp)(i:Int):Bool:=(decide ((AA s.p.d4 i).kq<l.length)&&decide ((AA s.p.d4 i).To<l.length))&&!(Aw s.g.d4.length).any (RH s l i)
variable{s:AX}{l:Fp}
theorem oD(hf:KY (HM s [] [])):Ex s l=some (!ne (QR s l) 0 s.p.d4.length):=by
 unfold Ex;rw[BJ (QR s l) false]
 .cases ne (QR s l) 0 s.p.d4.length<;>rfl
 .intro i d e _;have he:=hf.ends _ (AJ (l:=s.p.d4) d e);rw[AD d e,bs];unfold QR;by_cases j:(AA s.p.d4 i).kq<l.length
  .by_cases m:(AA s.p.d4 i).To<l.length
   .rw[az (by simp;omega),Bo (fun k=>(Aw k.toNat).any (RH s l i)) (by omega) (by rfl),bs,Int.toNat_natCast,decide_eq_true j,decide_eq_true m]
    .grind
    .intro k h o;rw[AD h o,bs,Fh h,List.any_append];have q:RH s l i k=(decide ((AA s.p.d4 i).kp=(AA s.g.d4 k).kp)&&decide ((AA s.g.d4 k).kq=AA l (AA s.p.d4 i).kq)&&decide ((AA s.g.d4 k).To=AA l (AA s.p.d4 i).To)):=by
      unfold RH;rw[Bool.eq_iff_iff];simp[zzX];generalize AA s.g.d4 k=x;obtain⟨x1,r,u⟩:=x;simp;constructor
      .rintro⟨a,b,c⟩;exact⟨⟨a.symm,b⟩,c⟩
      .rintro⟨⟨a,b⟩,c⟩;exact⟨a.symm,b,c⟩
     rw [AD he.1 j,AD he.2.2.1 m];simp only[List.any_cons,List.any_nil,Bool.or_false,bs];rw[q];generalize (Aw k.toNat).any (RH s l i)=c1;generalize decide ((AA s.p.d4 i).kp=(AA s.g.d4 k).kp)=c3;generalize decide ((AA s.g.d4 k).kq=AA l (AA s.p.d4 i).kq)=c4;generalize decide ((AA s.g.d4 k).To=AA l (AA s.p.d4 i).To)=c5;cases c1<;>cases c3<;>cases c4<;>cases c5<;>rfl
   grind
  grind
theorem oA(hf:KY (HM s [] []))(h:ne (QR s l) 0 s.p.d4.length=true):∃i,aB (HM s l []) i:=by
 rw [Dy]at h;obtain⟨i,d,j,h⟩:=h;unfold QR at h;rw[tg,tg,zzX,zzX,Bool.not_eq_true',List.any_eq_false]at h;have he:=hf.ends _ (AJ (l:=s.p.d4) d j);refine⟨i,d,j,he.1,h.1.1,he.2.2.1,h.1.2,fun k m o=>?_⟩;have:=h.2 k (FY.2 ⟨m,o⟩);have e:RH s l i k=false:=by rw[<-Bool.not_eq_true];exact this
 rw [Tk];show((decide (AA s.fu.d4 i<0)||decide (AA s.fu.d4 i=k))&&RH s l i k)=false;rw[e,Bool.and_false]
end Go.Sf.Sc
namespace Go.Sf.Sc
open Go Go.Sf
theorem W8:∀(n:Nat)(f:AH)(o:List d6),ET n (RB f o)=ET n f
 |0,f,o=>Og _ f o|n+1,f,o=>by
  rw [ET,ET];refine congrArg (fun F=>(Aw f.g.d3.length).flatMap F) (funext fun k=>?_);have:=W8 n {f with ei:=f.ei++[k]} o
  grind [Ov,ET,RB]
theorem WA:∀(n:Nat)(s:AX)(l:Fp),F1 s.t->KY (HM s [] [])->Tw s->l.length+n=s.p.d3.length->∀m,n+1<=m->B8 m s l=some (CE s (ET n (HM s l [])))
 |n,s,l,P,hf,r,K,m,z=>by
  obtain ⟨m,rfl⟩:∃k,m=k+1:=⟨m-1,by omega⟩;have M:=hf.small;have Z:s.p.d3.length<=1000:=M.1;have s3:s.g.d3.length<=1000:=M.2.2.1;have h0:=r.m0;have h1:=r.m1;have h2:=r.out;rw[B8];by_cases E:(s.Aax.length:Int)=s.tc+1
  .grind[Ur]
  rw [az (by simp;omega),oD hf];cases hd:ne (QR s l) 0 s.p.d4.length
  case true=>
   grind [oA,XL,HM,Nv]
  simp only[bs,Bool.not_false,Bool.not_true,Bool.false_eq_true,if_false]
  match n,K,z with
  |0,K,z=>
   rw [ae (by simp;omega),Option.bind_fun_some,ET];exact EG (s.p.d4.length+1) fun m z=>V9 s.p.d4.length s l [] hf r (by omega) (by simp) m (by omega)
  |n+1,K,z=>
   have w:(l.length:Int)<s.p.d3.length:=by omega
   have o:(0:Int)<=l.length:=by omega
   have G:(l.length:Int)<s.fu.d3.length:=by
    have:s.fu.d3.length=s.p.d3.length:=hf.pn;omega
   have Q:(H4 s.t).length=s.t.d3.length:=by unfold H4;rw[ca,BE]
   have d:=hf.kinds _ (AJ (l:=s.p.d3) o w);have H:AA s.p.d3 l.length<s.t.d3.length:=by rw[<-Q];exact d.2.1
   have j:AA (H4 s.t) (AA s.p.d3 l.length)=MW s.t (AA s.p.d3 l.length):=Ia (MW s.t) d.1 H;rw[az (by simp;omega)];rw[Mg (fun i=>CE s ((Aw i.toNat).flatMap fun k=>if Ov (HM s l []) k=true then ET n (HM s (l++[k]) [])else[])) (a:=0) (b:=(s.g.d3.length:Int)) (s:=s) (by omega) (Nv r).symm (fun i B C=>by
    have R:∀F,CE s ((Aw (i+1).toNat).flatMap F)=CE (CE s ((Aw i.toNat).flatMap F)) (F i):=by
     intro F;rw[TD,Fh B,List.flatMap_append];simp
    rw [R];generalize (Aw i.toNat).flatMap (fun k=>if Ov (HM s l []) k=true then ET n (HM s (l++[k]) [])else[])=L;have N:=Us r L;rw[ae (by rw[zzX];exact C)];have q:=d.2.2 _ (AJ (l:=s.g.d3) B C);have y:AA s.g.d3 i<s.t.d3.length:=by
     have h:=q.2;have e:AA (HM s [] []).is (AA s.p.d3 l.length)=MW s.t (AA s.p.d3 l.length):=j;rw[e]at h;unfold MW at h
     rwa [ca,BE]at h
    have I:Gq (CE s L).t (AA s.g.d3 i) (AA s.p.d3 l.length)=some (If s.t (AA s.g.d3 i) (AA s.p.d3 l.length)):=Su P q.1 y d.1;have S:idx (CE s L).g.d3 i=some (AA s.g.d3 i):=AD B C;have T:idx (CE s L).fu.d3 (l.length:Int)=some (AA s.fu.d3 l.length):=AD o G;have U:Cb (CE s L) l i=some (s.ej&&l.any fun x=>decide (i=x)):=dV (CE s L) (by omega) i;have V:idx (CE s L).p.d3 (l.length:Int)=some (AA s.p.d3 l.length):=AD o w;have key:((Ah [] l).bind fun D=>
      (Ah D [i]).bind fun u=>
      (B8 m (CE s L) u).bind fun v=>
      some (.next (v,Ad (i+1)):Bk (AX×Int) AX))=some (.next (CE (CE s L) (ET n (HM s (l++[i]) [])),i+1)):=by
     have O:=WA n (CE s L) (l++[i]) P ⟨hf.pn,hf.pe,hf.ends,hf.kinds,hf.small⟩ N (by show(l++[i]).length+n=s.p.d3.length;rw[cE];simp;omega) m (by omega);have W:ET n (HM (CE s L) (l++[i]) [])=ET n (HM s (l++[i]) []):=W8 n (HM s (l++[i]) []) _;rw[W]at O;rw[BY (by unfold Ae;omega),bs,Af (by simp;unfold Ae;omega),bs,O,bs,Am (by omega) (by omega)]
    rw [T,bs,U,S,V,key];simp only[bs];rw[I,Am (n:=i+1) (by omega) (by omega)];simp only[bs];have J:Ov (HM s l []) i=((decide (AA s.fu.d3 l.length<0)||decide (AA s.fu.d3 l.length=i))&&AA (AA (H4 s.t) (AA s.p.d3 l.length)) (AA s.g.d3 i)&&!(s.ej&&l.any fun x=>decide (i=x))):=rfl;have X:AA (AA (H4 s.t) (AA s.p.d3 l.length)) (AA s.g.d3 i)=If s.t (AA s.g.d3 i) (AA s.p.d3 l.length):=by
     rw [j];exact Ia (fun k=>If s.t k (AA s.p.d3 l.length)) q.1 y
    have Y:(decide (AA s.fu.d3 l.length<0)||decide (AA s.fu.d3 l.length=i))=!(decide (0<=AA s.fu.d3 l.length)&&!decide (AA s.fu.d3 l.length=i)):=by
     rw [Bool.not_and,Bool.not_not];congr 1;rw[<-decide_not];exact decide_eq_decide.2 (by omega)
    rw [J,X,Y];generalize ET n (HM s (l++[i]) [])=A;generalize decide (0<=AA s.fu.d3 l.length)=c1;generalize decide (AA s.fu.d3 l.length=i)=c2;generalize If s.t (AA s.g.d3 i) (AA s.p.d3 l.length)=c3;generalize (s.ej&&l.any fun x=>decide (i=x))=c6;cases c1<;>cases c2<;>cases c3<;>cases c6<;>first|rfl|(simp[Nv N];try rfl)) (by rw[az (by simp[CE])]),BT,Int.toNat_natCast,ET]
   rfl
end Go.Sf.Sc
namespace Go.Sf.Sc
open Go Go.Sf
def FF(t:AC)(p g:d5)(pa:d6)(inj:Bool):AH:=⟨p,g,H4 t,pa,inj,5001,[],[],[]⟩
def Ha(t:AC)(p g:d5)(pa:d6)(inj:Bool):List d6:=(ET p.d3.length (FF t p g pa inj)).take 5001
variable{t:AC}{p g:d5}
theorem kc{pa:d6}{inj:Bool}(j:Ap t)(hv:(Au t).2=0)(d:KY (FF t p g pa inj)):EK t p g pa inj 5001=some (Ha t p g pa inj):=by
 unfold EK;rw[bB j (Cz hv) hv,bs];have h:=cw (f:=FF t p g pa inj) d ⟨by show(0:Int)<=5001;omega,by show(5001:Int)<=10000;omega,by show((0:Nat):Int)<=5001;omega⟩ rfl rfl;rw[W6 _ _ d rfl]at h;have e:AH.mk p g (H4 t) pa inj 5001 [] [] []=FF t p g pa inj:=rfl;rw[e,h];rfl
theorem jF{pa:d6}{inj:Bool}(hv:(Au t).2=0)(d:KY (FF t p g pa inj)):Lg t p g pa inj 5000=some (Ha t p g pa inj):=by
 unfold Lg;have h:IH ⟨t,p,g,pa,inj,5000,[]⟩ []=some (CE ⟨t,p,g,pa,inj,5000,[]⟩ (ET p.d3.length (FF t p g pa inj))):=
  EG (p.d3.length+1) fun m e=>WA p.d3.length ⟨t,p,g,pa,inj,5000,[]⟩ [] (Cz hv) d ⟨by show(0:Int)<=5000;omega,by show(5000:Int)<=9999;omega,by show((0:Nat):Int)<=5000+1;omega⟩ (by show 0+p.d3.length=p.d3.length;omega) m e
 rw [h];rfl
end Go.Sf.Sc
namespace Go.Sf.Sc
open Go Go.Sf
def TK(n k:Int):Bool:=decide (k< -1)||decide (n<=k)
def PP(l:Fp)(n:Int):Int:=if l.any (TK n)=true then 6 else 0
theorem cy(l:Fp)(n:Int):Fe l n=some (PP l n):=by grind[Fe,PP,LD,TK,Rk]
variable{l:Fp}
theorem YD{c:Int}(n:Int)(h:(l.length:Int)=c):IW l c n=some (PP l n):=by
 unfold IW PP;rw[az (by simp[h]),BJ (fun i=>TK n (AA l i)) 6]
 .have e:ne (fun i=>TK n (AA l i)) 0 l.length=l.any (TK n):=by
   rw [Bool.eq_iff_iff,Dy,List.any_eq_true]
   grind [AJ,BW]
  rw [e];cases l.any (TK n)<;>rfl
 grind [AD,TK,AA]
end Go.Sf.Sc
namespace Go.Sf.Sc
open Go Go.Sf
theorem X4(t:AC)(g:d5):ER t g=some (Ci t g):=by grind[ER,Ci,Jl,Rk,Jm,ZG]
def Ed(t:AC)(p g:d5):Int:=if(Au t).2≠0 then(Au t).2 else if Bt p≠0 then Bt p else if Bt g≠0 then Bt g else if(Ci t p&&Ci t g)=true then 0 else 13
variable{t:AC}
theorem Ss(hf:Ap t)(p g:d5):Di t p g=some (Ed t p g):=by
 unfold Di Ed;rw[Ld hf,bs];refine DY fun _=>?_;have o:j4 (ρ:=Int) (fun(m:Int)(_:Unit)=>
   (idx [p,g] m).bind fun j=>
   (CU j).bind fun h=>
   if (!decide (h=0))=true then
   some (.ret h)
   else
   some (.next ())) 0 ([p,g].length:Int) ()=some (if Bt p≠0 then .inr (Bt p)else if Bt g≠0 then .inr (Bt g)else .inl ()):=by
  show Aac _ 2 0 ()=_;rw[EN,show idx [p,g] 0=some p from rfl,bs,Lc,bs];by_cases d:Bt p=0
  .rw[az (by simp[d]),az (by simp[d])];show Aac _ 1 (0+1) ()=_;rw[EN,show idx [p,g] (0+1)=some g from rfl,bs,Lc,bs];by_cases e:Bt g=0
   .rw[az (by simp[e]),az (by simp[e])];rfl
   .rw[ae (by simp[e]),ae e]
  .rw[ae (by simp[d]),ae d]
 rw [o];by_cases d:Bt p=0
 .by_cases e:Bt g=0
  .simp[d,e,BT];rw[X4,X4,bs];cases Ci t p<;>cases Ci t g<;>rfl
  .simp[d,e,not_false_eq_true,Ln]
 .simp[d,not_false_eq_true,Ln]
theorem RF(hf:Ap t)(p g:d5):Gc t p g=some (Ed t p g):=by
 unfold Gc Ed;rw[Ob hf,bs];refine DY fun _=>?_;rw[Lf,bs];refine DY fun d=>?_;rw[Lf,bs];refine DY fun e=>?_
 grind [VO,DF,Ci]
end Go.Sf.Sc
namespace Go.Sf.Sc
open Go Go.Sf
variable{t:AC}{p g:d5}
theorem TR{pa:d6}{inj:Bool}(h:Ed t p g=0)(r:pa.d3.length=p.d3.length)(u:pa.d4.length=p.d4.length):(Au t).2=0/\KY (FF t p g pa inj):=by
 unfold Ed at h;by_cases hv:(Au t).2=0
 .rw[az (by simp[hv])]at h;by_cases o:Bt p=0
  .rw[az (by simp[o])]at h;by_cases q:Bt g=0
   .rw[az (by simp[q])]at h;by_cases d:(Ci t p&&Ci t g)=true
    .rw[tg]at d;have op:=DF o;have m:=DF q;have tp:=H6 op d.1;have w:=H6 m d.2;have x:(H4 t).length=t.d3.length:=by unfold H4;rw[ca,BE]
     refine ⟨hv,r,u,fun e he=>?_,fun n v=>?_,Nat.le_trans op.ei (by omega),Nat.le_trans op.em (by omega),Nat.le_trans m.ei (by omega),Nat.le_trans m.em (by omega)⟩
     .have:=op.fit e he;exact⟨this.2.1.1,this.2.1.2,this.2.2.1,this.2.2.2⟩
     .have:=tp.1 n v;refine⟨this.1,by show n<((H4 t).length:Int);rw[x];exact this.2,fun k j=>?_⟩;have j:=w.1 k j;refine⟨j.1,?_⟩;show k<((AA (H4 t) n).length:Int)
      grind [H4,Ia,MW,ca,BE]
    grind
   grind
  grind
 grind
def Qt(t:AC)(p g:d5)(pa:d6)(inj:Bool):List d6×Int:=
 if Ed t p g≠0 then([],Ed t p g)else if¬(pa.d3.length=p.d3.length/\pa.d4.length=p.d4.length)then([],20)else
 if PP pa.d3 g.d3.length≠0 then([],PP pa.d3 g.d3.length)else if PP pa.d4 g.d4.length≠0 then([],PP pa.d4 g.d4.length)else
 if 5000<(Ha t p g pa inj).length then([],3)else(Ha t p g pa inj,0)
theorem fi(hf:Ap t)(p g:d5)(pa:d6)(inj:Bool):FI t p g pa inj=some (Qt t p g pa inj):=by
 unfold FI Qt;rw[Ss hf,bs];refine C8 fun e=>?_;refine Nb (by simp[Bool.not_eq_true',decide_eq_false_iff_not];omega) fun d=>?_;have d:=Classical.not_not.1 d;rw[cy,bs];refine C8 fun h=>?_;rw[cy,bs];refine C8 fun j=>?_
 grind [TR,GQ,kc,Ha]
theorem fz(hf:Ap t)(p g:d5)(pa:d6)(inj:Bool):J3 t p g pa inj=some (Qt t p g pa inj):=by
 unfold J3 Qt;rw[RF hf,bs];refine C8 fun e=>?_;refine Nb (by simp[Bool.not_eq_true',decide_eq_false_iff_not];omega) fun d=>?_;have d:=Classical.not_not.1 d;rw[YD _ (by omega),bs];refine C8 fun h=>?_;rw[YD _ (by omega),bs];refine C8 fun j=>?_
 grind [TR,jF,Ha]
def KK(p:d5):d6:=⟨List.replicate p.d3.length (-1),List.replicate p.d4.length (-1)⟩
variable{n:Nat}{i:Int}
theorem YR(d:0<=i)(e:i<n):BC (List.replicate i.toNat (-1:Int)++List.replicate (n-i.toNat) 0) i (-1)=List.replicate (i+1).toNat (-1)++List.replicate (n-(i+1).toNat) 0:=by
 unfold BC;rw[List.set_append_right _ _ (by simp),show n-i.toNat=(n-(i+1).toNat)+1 by omega,List.replicate_succ,List.length_replicate,Nat.sub_self,List.set_cons_zero,show(i+1).toNat=i.toNat+1 by omega,List.replicate_succ',ci];rfl
theorem gD(j:p.d3.length<=100)(m:p.d4.length<=100):MP p=some (KK p):=by
 unfold MP;have m1:GW (p.d3.length:Int) (0:Int)=some (List.replicate p.d3.length 0):=by unfold GW;rw[ae (by omega),Int.toNat_natCast]
 have h:GW (p.d4.length:Int) (0:Int)=some (List.replicate p.d4.length 0):=by unfold GW;rw[ae (by omega),Int.toNat_natCast]
 rw [m1,bs,h,bs];rw[Mg (fun i=>(⟨List.replicate i.toNat (-1)++List.replicate (p.d3.length-i.toNat) 0,List.replicate p.d4.length 0⟩:d6)) (a:=0) (b:=p.d3.length) (by omega) (by simp),BT]
 .dsimp only;rw[Mg (fun i=>(⟨List.replicate p.d3.length (-1),List.replicate i.toNat (-1)++List.replicate (p.d4.length-i.toNat) 0⟩:d6)) (a:=0) (b:=p.d4.length) (by omega) (by simp),BT]
  .simp[KK]
  .intro i d e;dsimp only;rw[ae (by simp;omega),AD d (by simp;omega),bs,YR d e,Am (n:=i+1) (by omega) (by omega)]
  .dsimp only;rw[az (by simp)]
 .intro i d e;dsimp only;rw[ae (by simp;omega),AD d (by simp;omega),bs,YR d e,Am (n:=i+1) (by omega) (by omega)]
 .dsimp only;rw[az (by simp)]
end Go.Sf.Sc
