/- Plain lemmas: what the functions of the program and of the reference compute. -/
import Derived.Test.YtdnblcjdhbadaaaGreatP1
set_option linter.all false
set_option maxRecDepth 100000
namespace Go.Sf.Sc
open Go Go.Sf
variable{t:AC}{c:ea}
theorem mP(hf:Au t)(p:ec)(e:DN c):Do t p c=some (MQ t p c):=by
 by_cases d:(A1 t).2=0
 .exact ex hf d p e
 .unfold Do MQ;rw[Vd hf,bs];refine C6 fun h=>?_;exfalso;unfold Gy at h;rw[a6 d]at h;exact d h
end Go.Sf.Sc
namespace Go.Sf.Sc
open Go Go.Sf
variable{α:Type}
theorem WR[Inhabited α](b:α->α->Bool){l m:List α}(j:∀x∈l,∀y∈m,(b x y=true↔x=y))(o:l.length=m.length):ns (fun i=>!b (AA l i) (AA m i)) 0 l.length=false↔l=m:=by
 rw [Bp];constructor
 .intro h;refine YH o (fun i d e=>?_);have:=h i d e;rw[Bool.not_eq_false']at this;exact(j _ (AI d e) _ (AI d (by omega))).1 this
 .rintro rfl i d e;rw[Bool.not_eq_false'];exact(j _ (AI d e) _ (AI d e)).2 rfl
theorem Tr[Inhabited α][DecidableEq α]{l m:List α}(r:l.length=m.length){k:Unit->K1}{j:Bool->K1}:AM (Ag (ρ:=Bool) (fun(o:Int)(_:Unit)=>
 (idx l o).bind fun d=>
 (idx m o).bind fun e=>
 if (!decide (d=e))=true then
 some (.ret false)
 else
 some (.next ())) 0 (l.length:Int) ()) k j=if l=m then k ()else j false:=by
 rw [BE (fun i=>!decide (AA l i=AA m i)) false]
 .have:=WR (fun x y:α=>decide (x=y)) (l:=l) (m:=m) (fun _ _ _ _=>decide_eq_true_iff) r;by_cases h:l=m
  .rw[this.2 h,a6 h];rfl
  .rw[ae h];cases v:ns (fun i=>!decide (AA l i=AA m i)) 0 l.length
   .exact absurd (this.1 v) h
   .rfl
 .intro i q u _;rw[AD q u,bs,AD q (by omega),bs,FO]
theorem NN[Inhabited α][DecidableEq α](l m:List α):(if(!decide ((l.length:Int)=(m.length:Int)))=true then
 some false
 else
 AM (Ag (ρ:=Bool) (fun(q:Int)(_:Unit)=>
 (idx l q).bind fun d=>
 (idx m q).bind fun j=>
 if (!decide (d=j))=true then
 some (.ret false)
 else
 some (.next ())) 0 (l.length:Int) ()) (fun _=>
 some true) (fun r=>some r))=some (decide (l=m)):=by
 by_cases o:l.length=m.length
 .rw[ae (by simp[o]),Tr o];by_cases h:l=m
  .rw[a6 h,decide_eq_true h]
  .rw[ae h,decide_eq_false h]
 .rw[a6 (by simp;omega),decide_eq_false (fun e=>o (by rw[e]))]
theorem Nk(l m:Fp):slices_Equal_int l m=some (decide (l=m)):=NN l m
theorem ZG(l m:List BY):Eo l m=some (decide (l=m)):=NN l m
theorem fM(l m:List CI):F6 l m=some (decide (l=m)):=NN l m
theorem fN(l m:List Test):F7 l m=some (decide (l=m)):=NN l m
theorem WI(l m:Fp):GR l m=some (decide (l=m)):=NN l m
theorem WJ(l m:Fp):Dd l m=some (decide (l=m)):=NN l m
theorem T4(a b:d7):D6 a b=some (decide (a=b)):=by
 unfold D6;rw[Nk,Nk];obtain⟨a1,e⟩:=a;obtain⟨j,m⟩:=b;by_cases h:a1=j<;>by_cases d:e=m<;>simp[h,d]
theorem WM(a b:d7):He a b=some (decide (a=b)):=by
 unfold He;rw[WI,WI];obtain⟨a1,e⟩:=a;obtain⟨j,m⟩:=b;by_cases h:a1=j<;>by_cases d:e=m<;>simp[h,d]
theorem bY(a b:d6):KZ a b=some (decide (a=b)):=by
 unfold KZ;rw[WJ,bs];obtain⟨a1,j⟩:=a;obtain⟨q,m⟩:=b;by_cases h:a1=q
 .by_cases d:j.length=m.length
  .rw[ae (by simp[h,d]),Tr d];by_cases o:j=m<;>simp[h,o]
  .rw[a6 (by simp;omega)];rw[decide_eq_false (fun e=>d (by cases e;rfl))]
 .simp[h]
theorem ba(a b:ec):I2 a b=some (decide (a=b)):=by
 unfold I2;rw[bY,bs];obtain⟨a1,r,x,u⟩:=a;obtain⟨y,v,z,w⟩:=b;by_cases h:a1=y/\x=z/\r.length=v.length/\u.length=w.length
 .obtain⟨j,m,o,d⟩:=h;rw[ae (by simp[j,m,o,d]),Tr o];by_cases q:r=v
  .rw[a6 q,Tr d];by_cases A:u=w<;>simp[j,m,q,A]
  .simp[q]
 .rw[a6 ?_]
  .rw[decide_eq_false (fun e=>h (by cases e;exact⟨rfl,rfl,rfl,rfl⟩))]
  .by_cases j:a1=y
   .by_cases m:x=z
    .by_cases o:r.length=v.length
     .have d:¬u.length=w.length:=fun d=>h ⟨j,m,o,d⟩;simp;omega
     .simp;omega
    .simp[m]
   .simp[j]
noncomputable def R3(a b:ea):Bool:=@decide (a=b) (Classical.propDecidable _)
theorem V5{a b:ea}:R3 a b=true↔a=b:=by
 unfold R3;exact@decide_eq_true_iff _ (Classical.propDecidable _)
noncomputable def Wd(l m:List ea):Bool:=@decide (l=m) (Classical.propDecidable _)
theorem Tq{l m:List ea}:Wd l m=true↔l=m:=by
 unfold Wd;exact@decide_eq_true_iff _ (Classical.propDecidable _)
theorem aa(a b:ea):R3 a b=(decide (a.l3=b.l3)&&decide (a.Map=b.Map)&&decide (a.ec=b.ec)&&Wd a.gp b.gp):=by
 rw [Bool.eq_iff_iff,V5];obtain⟨a1,m,o,q⟩:=a;obtain⟨r,u,v,w⟩:=b;simp only[pc,x7,Tq,ea.mk.injEq];constructor
 .rintro⟨d,e,h,j⟩;exact⟨⟨⟨d,h⟩,j⟩,e⟩
 .rintro⟨⟨⟨d,h⟩,j⟩,e⟩;exact⟨d,e,h,j⟩
theorem W5{l m:List ea}{f:ea->ea->K1}(hf:∀x∈l,∀y,f x y=some (R3 x y))(v:l.length=m.length):AM (Ag (ρ:=Bool) (fun(r:Int)(_:Unit)=>
 (idx l r).bind fun d=>
 (idx m r).bind fun e=>
 (f d e).bind fun j=>
 if (!j)=true then
 some (.ret false)
 else
 some (.next ())) 0 (l.length:Int) ()) (fun _=>
 some true) (fun w=>some w)=some (Wd l m):=by
 rw [BE (fun i=>!R3 (AA l i) (AA m i)) false]
 .have:=WR R3 (l:=l) (m:=m) (fun _ _ _ _=>V5) v;cases q:ns (fun i=>!R3 (AA l i) (AA m i)) 0 l.length
  .rw[Tq.2 (this.1 q)];rfl
  .have:Wd l m=false:=by
    rw [<-Bool.not_eq_true,Tq];intro h;rw[this.2 h]at q;cases q
   rw [this];rfl
 .intro i o u _;rw[AD o u,bs,AD o (by omega),bs,hf _ (AI o u),bs,FO]
theorem af{l m:List ea}(h:¬l.length=m.length):Wd l m=false:=by
 rw [<-Bool.not_eq_true,Tq];exact fun e=>h (by rw[e])
theorem fF:∀(N:Nat)(a b:ea),SizeOf.sizeOf a<=N->∀n,N<=n->DL n a b=some (R3 a b)
 |0,a,_,h,_,_=>by have:=DV a;omega|N+1,a,b,h,n,I=>by
  obtain ⟨n,rfl⟩:∃m,n=m+1:=⟨n-1,by omega⟩;have v:DA a.gp b.gp (DL n)=some (Wd a.gp b.gp):=by
   unfold DA;by_cases d:a.gp.length=b.gp.length
   .rw[ae (by simp[d]),W5 (fun x u y=>by have:=EC u;exact fF N x y (by omega) n (by omega)) d]
   .rw[a6 (by simp;omega),af d]
  rw [DL,T4,Nk,ZG,fM,fN,v,aa];have w:decide (a.ec=b.ec)=(decide (a.ec.gn=b.ec.gn)&&decide (a.ec.d6.d4=b.ec.d6.d4)&&decide (a.ec.d6.d5=b.ec.d6.d5)&&decide (a.ec.ff=b.ec.ff)&&decide (a.ec.l4=b.ec.l4)):=by
   rw [Bool.eq_iff_iff];simp only[pc,x7];obtain⟨_,_,_,⟨⟨a1,z⟩,A,B,C⟩⟩:=a;obtain⟨_,_,_,⟨⟨D,E⟩,F,G,H⟩⟩:=b;simp only[ec.mk.injEq,d6.mk.injEq];constructor
   .rintro⟨⟨e,j⟩,o,q,r⟩;exact⟨⟨⟨⟨q,e⟩,j⟩,o⟩,r⟩
   .rintro⟨⟨⟨⟨q,e⟩,j⟩,o⟩,r⟩;exact⟨⟨e,j⟩,o,q,r⟩
  rw [w];generalize decide (a.l3=b.l3)=c1;generalize decide (a.Map=b.Map)=c2;generalize decide (a.ec.gn=b.ec.gn)=c3;generalize decide (a.ec.d6.d4=b.ec.d6.d4)=c4;generalize decide (a.ec.d6.d5=b.ec.d6.d5)=c5;generalize decide (a.ec.ff=b.ec.ff)=c6;generalize decide (a.ec.l4=b.ec.l4)=c7;generalize Wd a.gp b.gp=c8;cases c1
  .rfl
  cases c2
  .rfl
  cases c3
  .rfl
  cases c4
  .rfl
  cases c5
  .rfl
  cases c6
  .rfl
  cases c7
  .rfl
  rfl
theorem mV(a b:ea):NG a b=some (R3 a b):=Dw (SizeOf.sizeOf a) fun n d=>fF _ a b (az _) n d
theorem fe:∀(N:Nat)(a b:ea),SizeOf.sizeOf a<=N->∀n,N<=n->GN n a b=some (R3 a b)
 |0,a,_,h,_,_=>by have:=DV a;omega|N+1,a,b,h,n,j=>by
  obtain ⟨n,rfl⟩:∃m,n=m+1:=⟨n-1,by omega⟩;rw[GN,WM,ba,aa];by_cases d:a.gp.length=b.gp.length
  .rw[W5 (fun x e y=>by have:=EC e;exact fe N x y (by omega) n (by omega)) d,decide_eq_true (show(a.gp.length:Int)=b.gp.length by rw[d])];generalize decide (a.l3=b.l3)=c1;generalize decide (a.Map=b.Map)=c2;generalize decide (a.ec=b.ec)=c3;cases c1
   .rfl
   cases c2
   .rfl
   cases c3
   .rfl
   rfl
  .rw[decide_eq_false (show¬(a.gp.length:Int)=b.gp.length by omega),af d];generalize decide (a.l3=b.l3)=c1;simp
theorem mw(a b:ea):Rh a b=some (R3 a b):=Dw (SizeOf.sizeOf a) fun n d=>fe _ a b (az _) n d
end Go.Sf.Sc
namespace Go.Sf.Sc
open Go Go.Sf
mutual
def C7:ea->Nat
 |⟨_,kids,_,_⟩=>1+QY kids
def QY:List ea->Nat
 |[]=>0|k::l=>C7 k+QY l
end
mutual
def wI:ea->Nat
 |⟨k,kids,_,_⟩=>(if k=5 then 1 else 0)+oj kids
def oj:List ea->Nat
 |[]=>0|k::l=>max (wI k) (oj l)
end
theorem YO(c:ea):C7 c=1+QY c.gp:=by cases c;rfl
variable{k:Int}
theorem lw{l:List ea}(d:0<=k)(e:k<l.length):l.drop k.toNat=AA l k::l.drop (k+1).toNat:=by
 rw [show(k+1).toNat=k.toNat+1 by omega,List.drop_eq_getElem_cons (by omega)];unfold AA;rw[List.getD_eq_getElem?_getD,List.getElem?_eq_getElem (by omega)];rfl
theorem Wg:∀(N:Nat)(c:ea),SizeOf.sizeOf c<=N->(AH c).Sm->∀t1:Int,0<=t1->t1<=1000->∃r,(∀n,N<=n->CW n c t1=some r)/\-1<=r/\r<=t1-1/\(0<=r->DN c/\(C7 c:Int)+r<=t1)
 |0,c,h,_,_,_,_=>by have:=DV c;omega|N+1,c,h,X,t1,m0,m1=>by
  obtain ⟨O,P,D⟩:=aX X;obtain⟨Q,z,R⟩:=Qk c.ec;obtain⟨S,F,T⟩:=V7 O;have step:∀n,N+1<=n->∃m,n=m+1/\N<=m:=fun n d=>⟨n-1,by omega,by omega⟩;cases Q
  .refine⟨-1,fun n d=>?_,by omega,by omega,fun h=>by omega⟩;obtain⟨n,rfl,_⟩:=step n d;rw[CW,z];rfl
  cases S
  .refine⟨-1,fun n d=>?_,by omega,by omega,fun h=>by omega⟩;obtain⟨n,rfl,_⟩:=step n d;rw[CW,z,bs,F];rfl
  have loop:∀(m:Nat)(k left:Int),0<=k->k+m=c.gp.length->-1<=left->left<=1000->∃e w,(∀n,N<=n->Lj (ρ:=Int) (fun(q:Int×Int)=>
    if ((decide (q.2<(c.gp.length:Int)))&&(decide (0<=q.1)))=true then
    (idx c.gp q.2).bind fun A=>
    (CW n A q.1).bind fun B=>
    some (.next (B,Al (q.2+1)))
    else
    some (.brk (q.1,q.2))) (left,k) (.inl (e,w)))/\-1<=e/\e<=left/\(0<=e->(∀j,k<=j->j<c.gp.length->DN (AA c.gp j))/\(QY (c.gp.drop k.toNat):Int)+e<=left):=by
   intro m
   induction m with
   |zero=>
    intro k left y K E l1;refine⟨left,k,fun n d=>.brk ?_,E,by omega,fun _=>⟨fun j C x=>by omega,?_⟩⟩
    .rw[ae (by simp;omega)]
    .rw[List.drop_of_length_le (by omega),QY];omega
   |succ m W=>
    intro k left y K E l1;by_cases L:0<=left
    .have o:=AI (l:=c.gp) y (by omega);have:=EC o;obtain⟨r,U,V,Y,I⟩:=Wg N _ (by omega) (D _ o) left L l1;obtain⟨e,w,a1,G,J,v⟩:=W (k+1) r (by omega) (by omega) V (by omega);refine⟨e,w,fun n d=>.next (s':=(r,k+1)) ?_ (a1 n d),G,by omega,fun u=>⟨fun j C x=>?_,?_⟩⟩
     .rw[a6 (by simp;omega),AD y (by omega),bs,U n d,bs,Ap (by omega) (by omega)]
     .by_cases M:j=k
      .subst M;exact(I (by omega)).1
      .exact(v u).1 j (by omega) x
     .have z:=(I (by omega)).2;have F:=(v u).2;rw[lw y (by omega),QY];omega
    .refine⟨left,k,fun n d=>.brk ?_,E,by omega,fun h=>by omega⟩;rw[ae (by simp;omega)]
  obtain ⟨e,w,a1,G,J,v⟩:=loop c.gp.length 0 (t1-1) (by omega) (by omega) (by omega) (by omega);refine⟨e,fun n d=>?_,G,J,fun u=>⟨.mk c (R rfl) (T rfl) (fun k D=>?_),?_⟩⟩
  .obtain⟨n,rfl,H⟩:=step n d;rw[CW,z,bs,F];simp only[bs,Bool.not_true,Bool.false_eq_true,if_false];rw[Ap (n:=t1-1) (by omega) (by omega),(a1 n H).eq,Bc]
  .obtain⟨j,C,x,rfl⟩:=BZ D;exact(v u).1 j C x
  .have:=(v u).2;rw[show(0:Int).toNat=0 from rfl,List.drop_zero]at this;rw[YO];omega
variable{c:ea}
theorem eO(d:(AH c).Sm):∃b,Ii c=some b/\(b=true->DN c/\C7 c<=40):=by
 obtain ⟨r,j,_,_,m⟩:=Wg (SizeOf.sizeOf c) c (az _) d 40 (by omega) (by omega);have e:Oz c 40=some r:=Dw (SizeOf.sizeOf c) j;unfold Ii;rw[e];exact⟨_,rfl,fun h=>by have:=m (by simpa using h);exact⟨this.1,by have:=this.2;simp at h;omega⟩⟩
theorem YN:∀{l:List ea}{k:ea},k∈l->C7 k<=QY l
 |x::l,k,h=>by
  rw [QY];rcases List.mem_cons.1 h with rfl|h
  .omega
  .have:=YN h;omega
end Go.Sf.Sc
namespace Go.Sf.Sc
open Go Go.Sf
structure Lt(f:AL):Prop where
 pn:f.jj.d4.length=f.p.d4.length
 pe:f.jj.d5.length=f.p.d5.length
 ends:∀e∈f.p.d5,0≤e.kq/\e.kq<f.p.d4.length/\0≤e.To/\e.To<f.p.d4.length
 kinds:∀n∈f.p.d4,0<=n/\n<f.is.length/\∀t∈f.g.d4,0<=t/\t<(AA f.is n).length
 small:f.p.d4.length<=1000/\f.p.d5.length<=1000/\f.g.d4.length<=1000/\f.g.d5.length<=1000
def Jv(f:AL)(i k:Int):Bool:=
 (decide (AA f.jj.d5 i<0)||decide (AA f.jj.d5 i=k))&&decide (AA f.g.d5 k=⟨(AA f.p.d5 i).kg,AA f.ej (AA f.p.d5 i).kq,AA f.ej (AA f.p.d5 i).To⟩)
variable{α:Type}
theorem eh{l:List α}(h:l≠[]):Yu l=some ():=by grind[Yu]
variable{l:Fp}{i:Int}
theorem Yi(e:0<=i)(d:i<l.length):Gg l i=some (AA l i):=by
 unfold Gg;rw[eh (by intro h;subst h;simp at d;omega),bs,AD e d,bs]
variable{f:AL}{k:Int}
theorem fH(hf:Lt f)(d:0<=i)(e:i<f.p.d5.length)(h:0<=k)(j:k<f.g.d5.length)(m:(AA f.p.d5 i).kq<f.ej.length)(o:(AA f.p.d5 i).To<f.ej.length):DO f i k=some (Jv f i k):=by
 have he:=hf.ends _ (AI d e);unfold DO Jv;rw[AD d e,bs,Yi d (by rw[hf.pe];exact e),bs,AD h j,bs,AD he.1 m,bs,AD he.2.2.1 o,bs]
 grind
def NW(f:AL):Bool:=!ns (fun i=>decide (max (AA f.p.d5 i).kq (AA f.p.d5 i).To=(f.ej.length:Int)-1)&&!ns (fun k=>Jv f i k) 0 f.g.d5.length) 0 f.p.d5.length
variable{b:Int}
theorem lq{f:Int->Bool->Option (B0 Bool Bool)}(p:Int->Bool)(h:∀i,0<=i->i<b->f i false=some (if p i=true then .brk true else .next false)):Ag f 0 b false=some (.inl (ns p 0 b)):=by
 have key:∀(m:Nat)(i:Int),0<=i->i+m=b->FE f m i false=some (.inl (ns p i b)):=by
  intro m
  induction m with
  |zero=>
   intro i d hi;have:ns p i b=false:=by rw[Bp];intro j q r;omega
   rw [this];rfl
  |succ m v=>
   intro i d hi;rw[FG,h i d (by omega)];by_cases o:p i=true
   .have:ns p i b=true:=by rw[Dj];exact⟨i,Int.le_refl _,by omega,o⟩
    rw [a6 o,this]
   .have e:ns p i b=ns p (i+1) b:=by
     rw [Bool.eq_iff_iff,Dj,Dj]
     grind
    grind
 unfold Ag;by_cases u:0<=b
 .grind
 .have:ns p 0 b=false:=by rw[Bp];intro j q r;omega
  rw [this,show(b-0).toNat=0 by omega];rfl
theorem dF(hf:Lt f)(q:0<f.ej.length)(j:f.ej.length<=1000):B5 f=some (NW f):=by
 unfold B5 NW;rw[BE (fun i=>decide (max (AA f.p.d5 i).kq (AA f.p.d5 i).To=(f.ej.length:Int)-1)&&!ns (fun k=>Jv f i k) 0 f.g.d5.length) false]
 .generalize ns (fun i=>decide (max (AA f.p.d5 i).kq (AA f.p.d5 i).To=(f.ej.length:Int)-1)&&!ns (fun k=>Jv f i k) 0 f.g.d5.length) 0 f.p.d5.length=b;cases b<;>rfl
 .intro i d e _;rw[AD d e,bs,Ap (n:=(f.ej.length:Int)-1) (by omega) (by omega)];by_cases h:max (AA f.p.d5 i).kq (AA f.p.d5 i).To=(f.ej.length:Int)-1
  .rw[ae (by simp[h]),lq (fun k=>Jv f i k) (fun k m o=>by
    rw [fH hf d e m o (by omega) (by omega),bs,FO])]
   generalize ns (fun k=>Jv f i k) 0 f.g.d5.length=b;rw[decide_eq_true h];cases b<;>rfl
  grind
def Az(n:Nat):Fp:=(List.range n).map Int.ofNat
theorem Te(n:Nat):Az (n+1)=Az n++[(n:Int)]:=by grind[Az,List.range_succ]
def R8(f:AL)(k:Int):Bool:=(decide (AA f.jj.d4 f.ej.length<0)||decide (AA f.jj.d4 f.ej.length=k))&&AA (AA f.is (AA f.p.d4 f.ej.length)) (AA f.g.d4 k)&&!(f.gt&&f.ej.any fun x=>decide (k=x))
def R7(f:AL)(k:Int):Bool:=Jv f f.fd.length k&&!(f.gt&&f.fd.any fun x=>decide (k=x))
def Ds:Nat->AL->List d7
 |0,f=>[⟨f.ej,f.fd⟩]|n+1,f=>(Az f.g.d5.length).flatMap fun k=>if R7 f k=true then Ds n {f with fd:=f.fd++[k]}else[]
def Ip:Nat->AL->List d7
 |0,f=>Ds f.p.d5.length f|n+1,f=>(Az f.g.d4.length).flatMap fun k=>if(R8 f k&&NW {f with ej:=f.ej++[k]})=true then Ip n {f with ej:=f.ej++[k]}else[]
theorem XZ(a b:List α)(m:Nat):((a.take m)++b).take m=(a++b).take m:=by
 by_cases h:a.length<=m
 .rw[List.take_of_length_le h]
 grind
end Go.Sf.Sc
namespace Go.Sf.Sc
open Go Go.Sf
def Ra(f:AL)(o:List d7):AL:={f with out:=o}
variable{f:AL}
theorem Lt.out(h:Lt f)(o:List d7):Lt (Ra f o):=⟨h.pn,h.pe,h.ends,h.kinds,h.small⟩
theorem PV:∀(n:Nat)(f:AL)(o:List d7),Ds n (Ra f o)=Ds n f
 |0,_,_=>rfl|n+1,f,o=>by
  rw [Ds,Ds];refine congrArg (fun F=>(Az f.g.d5.length).flatMap F) (funext fun k=>?_);have:=PV n {f with fd:=f.fd++[k]} o;show(if R7 f k=true then Ds n (Ra {f with fd:=f.fd++[k]} o)else[])=_;rw[this]
theorem YC:∀(n:Nat)(f:AL)(o:List d7),Ip n (Ra f o)=Ip n f
 |0,f,o=>PV _ f o|n+1,f,o=>by
  rw [Ip,Ip];refine congrArg (fun F=>(Az f.g.d4.length).flatMap F) (funext fun k=>?_);have:=YC n {f with ej:=f.ej++[k]} o;show(if(R8 f k&&NW {f with ej:=f.ej++[k]})=true then Ip n (Ra {f with ej:=f.ej++[k]} o)else[])=_;rw[this]
def A2(f:AL)(l:List d7):AL:=Ra f ((f.out++l).take f.t1.toNat)
structure Vy(f:AL):Prop where
 m0:0<=f.t1
 m1:f.t1<=10000
 out:(f.out.length:Int)<=f.t1
theorem J2(h:Vy f):A2 f []=f:=by
 unfold A2;rw[List.append_nil,List.take_of_length_le (by have:=h.out;have:=h.m0;omega)];rfl
theorem Wu(h:(f.out.length:Int)=f.t1)(l:List d7):A2 f l=f:=by
 unfold A2;rw[List.take_append_of_le_length (by omega),List.take_of_length_le (by omega)];rfl
theorem Ww(h:Vy f)(l:List d7):Vy (A2 f l):=by
 refine ⟨h.m0,h.m1,?_⟩;have:=h.m0;show(((f.out++l).take f.t1.toNat).length:Int)<=f.t1
 grind
theorem Wv(f:AL)(a b:List d7):A2 (A2 f a) b=A2 f (a++b):=by
 show Ra f ((((f.out++a).take f.t1.toNat)++b).take f.t1.toNat)=_;rw[XZ,d3];rfl
theorem VC:∀(n:Nat)(f:AL),Lt f->Vy f->f.ej.length=f.p.d4.length->f.fd.length+n=f.p.d5.length->∀m,n+1<=m->BD m f=some (A2 f (Ds n f))
 |n,f,hf,u,M,he,m,y=>by
  obtain ⟨m,rfl⟩:∃k,m=k+1:=⟨m-1,by omega⟩;have N:=hf.small;have O:=u.m0;have P:=u.m1;have Q:=u.out;rw[BD];by_cases e:(f.out.length:Int)=f.t1
  .grind[Wu]
  rw [ae (by simpa using e),ae (by simp;omega)]
  match n,he,y with
  |0,he,y=>
   rw [ae (by simp;omega)];unfold slices_Clone_int;rw[BI (by unfold AW;omega),bs,BI (by unfold AW;omega),bs,AT (by simp;unfold AW;omega),bs,bs];unfold A2;rw[List.take_of_length_le (by simp[Ds];omega)];rfl
  |n+1,he,y=>
   rw [a6 (by simp;omega)];have F:∀k,R7 f k=true->Lt {f with fd:=f.fd++[k]}:=fun k _=>⟨hf.pn,hf.pe,hf.ends,hf.kinds,hf.small⟩;rw[BM (a:=0) (s:=f) (fun i=>A2 f ((Az i.toNat).flatMap fun k=>if R7 f k=true then Ds n {f with fd:=f.fd++[k]}else[])) (by omega) (J2 u)]
   .grind[Int.toNat_natCast,Ds]
   .intro i C D;have E:Az (i+1).toNat=Az i.toNat++[i]:=by
     rw [show(i+1).toNat=i.toNat+1 by omega,Te];rw[show((i.toNat:Nat):Int)=i by omega]
    have G:∀l,A2 f ((Az (i+1).toNat).flatMap l)=A2 (A2 f ((Az i.toNat).flatMap l)) (l i):=by
     intro l;rw[Wv,E,List.flatMap_append];simp
    rw [G];generalize (Az i.toNat).flatMap (fun k=>if R7 f k=true then Ds n {f with fd:=f.fd++[k]}else[])=L;have o:=Ww u L;have v:Lt (A2 f L):=hf.out _;have z:=hf.ends _ (AI (l:=f.p.d5) (i:=(f.fd.length:Int)) (by omega) (by omega));rw[fH v (i:=(f.fd.length:Int)) (k:=i) (by omega) (by show _<(f.p.d5.length:Int);omega) C (by exact D) (by show(AA f.p.d5 f.fd.length).kq<(f.ej.length:Int);omega) (by show(AA f.p.d5 f.fd.length).To<(f.ej.length:Int);omega),bs];have H:slices_Contains_int (A2 f L).fd i=some (f.fd.any fun x=>decide (i=x)):=J0 f.fd i;rw[H];have q:Jv (A2 f L) f.fd.length i=Jv f f.fd.length i:=rfl;have key:((Aj (A2 f L).fd [i]).bind fun h=>
      (BD m (AL.mk (A2 f L).p (A2 f L).g (A2 f L).is (A2 f L).jj (A2 f L).gt (A2 f L).t1 (A2 f L).ej h (A2 f L).out)).bind fun d=>
      (slc d.fd 0 (f.fd.length:Int)).bind fun j=>
      some (AL.mk d.p d.g d.is d.jj d.gt d.t1 d.ej j d.out))=some (A2 (A2 f L) (Ds n {f with fd:=f.fd++[i]})):=by
     have I:Aj (A2 f L).fd [i]=some (f.fd++[i]):=AT (by show f.fd.length+1<=AW;unfold AW;omega);have B:=VC n {A2 f L with fd:=f.fd++[i]} ⟨hf.pn,hf.pe,hf.ends,hf.kinds,hf.small⟩ ⟨o.m0,o.m1,o.out⟩ M (by show(f.fd++[i]).length+n=f.p.d5.length;simp;omega) m (by omega);have J:Ds n {A2 f L with fd:=f.fd++[i]}=Ds n {f with fd:=f.fd++[i]}:=PV n {f with fd:=f.fd++[i]} _;rw[J]at B;rw[I,bs];show(BD m {A2 f L with fd:=f.fd++[i]}).bind _=_;rw[B,bs];have K:slc (A2 {A2 f L with fd:=f.fd++[i]} (Ds n {f with fd:=f.fd++[i]})).fd 0 (f.fd.length:Int)=some f.fd:=by
      show slc (f.fd++[i]) 0 (f.fd.length:Int)=_;rw[Lq (by omega) (by rw[bk];omega),Int.toNat_natCast,List.take_left]
     rw [K];rfl
    rw [key,q];have w:R7 f i=(Jv f f.fd.length i&&!(f.gt&&f.fd.any fun x=>decide (i=x))):=rfl;have r:(A2 f L).gt=f.gt:=rfl;rw[w,r];generalize R:Ds n {f with fd:=f.fd++[i]}=A;cases Jv f f.fd.length i
    .simp only[Bool.false_and,Bool.false_eq_true,if_false,J2 o];rfl
    .cases f.gt
     .rfl
     .cases f.fd.any fun x=>decide (i=x)
      .rfl
      .simp only[Bool.and_self,Bool.not_true,Bool.and_false,Bool.false_eq_true,if_false,J2 o];rfl
end Go.Sf.Sc
namespace Go.Sf.Sc
open Go Go.Sf
theorem VD:∀(n:Nat)(f:AL),Lt f->Vy f->f.fd=[]->f.ej.length+n=f.p.d4.length->∀m,n+f.p.d5.length+1<=m->BD m f=some (A2 f (Ip n f))
 |0,f,hf,u,he,Q,m,R=>by
  grind [Ip,VC]
 |n+1,f,hf,u,he,Q,m,R=>by
  obtain ⟨m,rfl⟩:∃k,m=k+1:=⟨m-1,by omega⟩;have S:=hf.small;have T:=u.m0;have U:=u.m1;have V:=u.out;rw[BD];by_cases j:(f.out.length:Int)=f.t1
  .grind[Wu]
  rw [ae (by simpa using j),a6 (by simp;omega)];rw[BM (a:=0) (s:=f) (fun i=>A2 f ((Az i.toNat).flatMap fun k=>if(R8 f k&&NW {f with ej:=f.ej++[k]})=true then Ip n {f with ej:=f.ej++[k]}else[])) (by omega) (J2 u)]
  .grind[Int.toNat_natCast,Ip]
  .intro i B C;have E:Az (i+1).toNat=Az i.toNat++[i]:=by
    rw [show(i+1).toNat=i.toNat+1 by omega,Te];rw[show((i.toNat:Nat):Int)=i by omega]
   have F:∀l,A2 f ((Az (i+1).toNat).flatMap l)=A2 (A2 f ((Az i.toNat).flatMap l)) (l i):=by
    intro l;rw[Wv,E,List.flatMap_append];simp
   rw [F];generalize (Az i.toNat).flatMap (fun k=>if(R8 f k&&NW {f with ej:=f.ej++[k]})=true then Ip n {f with ej:=f.ej++[k]}else[])=L;have o:=Ww u L;have q:(f.ej.length:Int)<(f.p.d4.length:Int):=by omega
   have r:=hf.kinds _ (AI (l:=f.p.d4) (i:=(f.ej.length:Int)) (by omega) q);have w:=r.2.2 _ (AI B C);have key:((Aj (A2 f L).ej [i]).bind fun e=>
     (B5 (AL.mk (A2 f L).p (A2 f L).g (A2 f L).is (A2 f L).jj (A2 f L).gt (A2 f L).t1 e (A2 f L).fd (A2 f L).out)).bind fun v=>
     if v=true then
     (BD m (AL.mk (A2 f L).p (A2 f L).g (A2 f L).is (A2 f L).jj (A2 f L).gt (A2 f L).t1 e (A2 f L).fd (A2 f L).out)).bind fun d=>
     (slc d.ej 0 (f.ej.length:Int)).bind fun h=>
     some (AL.mk d.p d.g d.is d.jj d.gt d.t1 h d.fd d.out)
     else
     (slc e 0 (f.ej.length:Int)).bind fun h=>
     some (AL.mk (A2 f L).p (A2 f L).g (A2 f L).is (A2 f L).jj (A2 f L).gt (A2 f L).t1 h (A2 f L).fd (A2 f L).out))=some (A2 (A2 f L) (if NW {f with ej:=f.ej++[i]}=true then Ip n {f with ej:=f.ej++[i]}else[])):=by
    have G:Aj (A2 f L).ej [i]=some (f.ej++[i]):=AT (by show f.ej.length+1<=AW;unfold AW;omega);have e0:slc (f.ej++[i]) 0 (f.ej.length:Int)=some f.ej:=by
     rw [Lq (by omega) (by rw[bk];omega),Int.toNat_natCast,List.take_left]
    have H:B5 {A2 f L with ej:=f.ej++[i]}=some (NW {f with ej:=f.ej++[i]}):=dF (f:={A2 f L with ej:=f.ej++[i]}) ⟨hf.pn,hf.pe,hf.ends,hf.kinds,hf.small⟩ (by show 0<(f.ej++[i]).length;simp) (by show(f.ej++[i]).length<=1000;rw[bk];simp;omega);have D:=VD n {A2 f L with ej:=f.ej++[i]} ⟨hf.pn,hf.pe,hf.ends,hf.kinds,hf.small⟩ ⟨o.m0,o.m1,o.out⟩ he (by show(f.ej++[i]).length+n=f.p.d4.length;rw[bk];simp;omega) m (by show n+f.p.d5.length+1<=m;omega);have I:Ip n {A2 f L with ej:=f.ej++[i]}=Ip n {f with ej:=f.ej++[i]}:=YC n {f with ej:=f.ej++[i]} _;rw[I]at D;rw[G,bs];show(B5 {A2 f L with ej:=f.ej++[i]}).bind _=_;rw[H,bs];cases NW {f with ej:=f.ej++[i]}
    .rw[ae (by decide),ae (by decide),e0,J2 o];rfl
    .rw[a6 rfl,a6 rfl];show(BD m {A2 f L with ej:=f.ej++[i]}).bind _=_;rw[D,bs];have J:slc (A2 {A2 f L with ej:=f.ej++[i]} (Ip n {f with ej:=f.ej++[i]})).ej 0 (f.ej.length:Int)=some f.ej:=e0;rw[J];rfl
   have K:Gg (A2 f L).jj.d4 (f.ej.length:Int)=some (AA f.jj.d4 f.ej.length):=Yi (by omega) (by show(f.ej.length:Int)<(f.jj.d4.length:Int);rw[hf.pn];exact q);have M:idx (A2 f L).p.d4 (f.ej.length:Int)=some (AA f.p.d4 f.ej.length):=AD (by omega) q;have hi:idx (A2 f L).is (AA f.p.d4 f.ej.length)=some (AA f.is (AA f.p.d4 f.ej.length)):=AD r.1 r.2.1;have N:idx (AA f.is (AA f.p.d4 f.ej.length)) (AA f.g.d4 i)=some (AA (AA f.is (AA f.p.d4 f.ej.length)) (AA f.g.d4 i)):=AD w.1 w.2;have O:slices_Contains_int (A2 f L).ej i=some (f.ej.any fun x=>decide (i=x)):=J0 f.ej i;have y:(A2 f L).gt=f.gt:=rfl;have z:R8 f i=((decide (AA f.jj.d4 f.ej.length<0)||decide (AA f.jj.d4 f.ej.length=i))&&AA (AA f.is (AA f.p.d4 f.ej.length)) (AA f.g.d4 i)&&!(f.gt&&f.ej.any fun x=>decide (i=x))):=rfl;rw[AD B C,bs,K,bs,M,bs,hi,bs,N,bs,O,key,y,z];generalize AA (AA f.is (AA f.p.d4 f.ej.length)) (AA f.g.d4 i)=c2;have P:(decide (0<=AA f.jj.d4 f.ej.length)&&!decide (AA f.jj.d4 f.ej.length=i))=!(decide (AA f.jj.d4 f.ej.length<0)||decide (AA f.jj.d4 f.ej.length=i)):=by
    rw [Bool.not_or];congr 1;rw[<-decide_not];exact decide_eq_decide.2 (by omega)
   rw [P];generalize (decide (AA f.jj.d4 f.ej.length<0)||decide (AA f.jj.d4 f.ej.length=i))=c1;generalize NW {f with ej:=f.ej++[i]}=c5;generalize Ip n {f with ej:=f.ej++[i]}=A;cases c1
   .simp only[Bool.false_and,Bool.false_eq_true,if_false,J2 o];rfl
   .cases c2
    .simp only[Bool.and_false,Bool.false_and,Bool.false_eq_true,if_false,J2 o];rfl
    .cases f.gt
     .rfl
     .cases f.ej.any fun x=>decide (i=x)
      .rfl
      .simp only[Bool.and_self,Bool.not_true,Bool.and_false,Bool.false_and,Bool.false_eq_true,if_false,J2 o];rfl
variable{f:AL}
theorem pN(hf:Lt f)(d:Vy f)(he:f.fd=[])(e:f.ej=[]):IE f=some (A2 f (Ip f.p.d4.length f)):=
 Dw (f.p.d4.length+f.p.d5.length+1) fun m h=>VD _ f hf d he (by rw[e];simp) m h
end Go.Sf.Sc
namespace Go.Sf.Sc
open Go Go.Sf
theorem BN(n:Nat):(Az n).length=n:=by simp[Az]
variable{n:Nat}{i:Int}
theorem FD:i∈Az n↔0<=i/\i<n:=by
 unfold Az;rw[List.mem_map];constructor
 .grind
 .rintro⟨d,e⟩;exact⟨i.toNat,List.mem_range.2 (by omega),by show((i.toNat:Nat):Int)=i;omega⟩
variable{α:Type}
theorem Ib[Inhabited α](F:Int->α)(d:0<=i)(e:i<n):AA ((Az n).map F) i=F i:=by
 unfold AA Az
 grind
theorem FL(d:0<=i):Az (i+1).toNat=Az i.toNat++[i]:=by
 rw [show(i+1).toNat=i.toNat+1 by omega,Te,show((i.toNat:Nat):Int)=i by omega]
def Ms(t:AC)(a:Int):a5:=(Az t.d4.length).map fun k=>If t k a
def I8(t:AC):List a5:=(Az t.d4.length).map (Ms t)
variable{t:AC}{a:Int}
theorem mM(hf:Au t)(h:Em t)(hv:(A1 t).2=0)(a0:0<=a)(a1:a<t.d4.length):LR t a=some ((Az t.d4.length).filter fun i=>If t i a,0):=by
 have e:=h.ej;unfold LR;have d:Jl t a=true:=by simp[Jl,a0,a1]
 rw [WE hf,bs,ae (by simp[hv,d])];rw[BM (fun i=>(Az i.toNat).filter fun i=>If t i a) (by omega) (by rfl),bs,Int.toNat_natCast]
 grind [io,FL,Az,If,List.length_filter_le,BN,AT,AW]
variable{l:Fp}
theorem nV(r:∀x∈l,0<=x/\x<n):A9 (fun(u:Int)(s2:a5)=>
  (idx l u).bind fun d=>
  (idx s2 d).bind fun _=>
  some (BP s2 d true)) 0 (l.length:Int) (List.replicate n false)=some ((Az n).map fun k=>l.any fun x=>decide (x=k)):=by
 rw [BM (fun j=>(Az n).map fun k=>(l.take j.toNat).any fun x=>decide (x=k)) (by omega) (by
  refine List.ext_getElem (by simp[BN]) (fun j m y=>by simp))]
 .rw[Int.toNat_natCast,List.take_length]
 .intro j o m;have q:=r _ (AI o m);rw[AD o m,bs,AD q.1 (by rw[ci,BN];exact q.2),bs,CJ o m];congr 1;unfold BP;refine List.ext_getElem (by simp) (fun k z v=>?_);have w:k<n:=by simpa[BN]using v
  rw [List.getElem_set];have e:(Az n)[k]'(by rw[BN];exact w)=(k:Int):=by simp[Az]
  simp only[List.getElem_map,e,List.any_append,List.any_cons,List.any_nil,Bool.or_false];by_cases h:(AA l j).toNat=k
  .rw[a6 h,decide_eq_true (show AA l j=(k:Int)by omega),Bool.or_true]
  .rw[ae h,decide_eq_false (show¬AA l j=(k:Int)by omega),Bool.or_false]
theorem km(hf:Au t)(h:Em t)(hv:(A1 t).2=0):IU t=some (I8 t):=by
 have w:=h.ej;unfold IU;rw[BM (fun i=>(Az i.toNat).map (Ms t)) (by omega) (by rfl),bs,Int.toNat_natCast]
 .rfl
 .intro i o r;have v:JL (t.d4.length:Int) false=some (List.replicate t.d4.length false):=by
   unfold JL;rw[a6 (by omega),Int.toNat_natCast]
  rw [v,bs,mM hf h hv o r,bs];have:=nV (n:=t.d4.length) (l:=(Az t.d4.length).filter fun k=>If t k i) (fun x j=>FD.1 (List.mem_filter.1 j).1);show(A9 (fun(q:Int)(s2:a5)=>
   (idx ((Az t.d4.length).filter fun k=>If t k i) q).bind fun d=>
   (idx s2 d).bind fun _=>
   some (BP s2 d true)) 0 (((Az t.d4.length).filter fun k=>If t k i).length:Int) (List.replicate t.d4.length false)).bind _=_
  rw [this,bs,AT (by rw[ci,BN];simp;unfold AW;omega),bs,FL o,List.map_append];congr 2;simp only[List.map_cons,List.map_nil];congr 1;unfold Ms;refine List.map_congr_left (fun k m=>?_);have m:=FD.1 m;rw[Bool.eq_iff_iff,List.any_eq_true];constructor
  .rintro⟨x,j,e⟩;rw[x7]at e;subst e;exact(List.mem_filter.1 j).2
  .intro u;exact⟨k,List.mem_filter.2 ⟨FD.2 m,u⟩,by simp⟩
end Go.Sf.Sc
namespace Go.Sf.Sc
open Go Go.Sf
def Fm:Nat->AL->List d7
 |0,f=>Ds f.p.d5.length f|n+1,f=>(Az f.g.d4.length).flatMap fun k=>if R8 f k=true then Fm n {f with ej:=f.ej++[k]}else[]
def b9(f:AL)(i:Int):Prop:=0<=i/\i<f.p.d5.length/\0<=(AA f.p.d5 i).kq/\(AA f.p.d5 i).kq<f.ej.length/\0<=(AA f.p.d5 i).To/\(AA f.p.d5 i).To<f.ej.length/\∀k:Int,0<=k->k<f.g.d5.length->Jv f i k=false
theorem Uq(f:AL)(i k:Int):Jv f i k=((decide (AA f.jj.d5 i<0)||decide (AA f.jj.d5 i=k))&&decide (AA f.g.d5 k=⟨(AA f.p.d5 i).kg,AA f.ej (AA f.p.d5 i).kq,AA f.ej (AA f.p.d5 i).To⟩)):=rfl
variable{α:Type}{i:Int}
theorem YG[Inhabited α](l:List α)(x:α)(d:0<=i)(e:i<l.length):AA (l++[x]) i=AA l i:=by
 unfold AA
 grind
theorem eK:∀(n:Nat)(f:AL)(i:Int),b9 f i->(f.fd.length:Int)<=i->i<f.fd.length+n->Ds n f=[]
 |0,f,i,_,e,h=>by omega|n+1,f,i,hd,e,h=>by
  rw [Ds];refine List.flatMap_eq_nil_iff.2 (fun k d=>?_);have d:=FD.1 d;by_cases he:(f.fd.length:Int)=i
  .have:R7 f k=false:=by
    unfold R7;rw[he,hd.2.2.2.2.2.2 k d.1 d.2];rfl
   grind
  .split
   .exact eK n {f with fd:=f.fd++[k]} i hd (by show((f.fd++[k]).length:Int)<=i;rw[bk];simp;omega) (by show i<((f.fd++[k]).length:Int)+n;rw[bk];simp;omega)
   .rfl
theorem YR:∀(n:Nat)(f:AL)(i:Int),f.fd=[]->b9 f i->Fm n f=[]
 |0,f,i,he,hd=>by
  rw [Fm];exact eK _ f i hd (by rw[he];simpa using hd.1) (by rw[he];simpa using hd.2.1)
 |n+1,f,i,he,hd=>by
  rw [Fm];refine List.flatMap_eq_nil_iff.2 (fun k o=>?_);split
  .refine YR n {f with ej:=f.ej++[k]} i he ?_;obtain⟨d,e,h,v,m,w,x⟩:=hd;have u:((f.ej++[k]).length:Int)=f.ej.length+1:=by rw[bk];simp
   refine ⟨d,e,h,?_,m,?_,fun j q r=>?_⟩
   .grind
   .grind
   grind [Uq,AA,YG]
  .rfl
variable{f:AL}
theorem iy(hf:Lt f)(h:NW f=false):∃i,b9 f i:=by
 unfold NW at h;rw[Bool.not_eq_false',Dj]at h;obtain⟨i,d,e,h⟩:=h;rw[pc,x7,Bool.not_eq_true',Bp]at h;have he:=hf.ends _ (AI d e);exact⟨i,d,e,he.1,by omega,he.2.2.1,by omega,h.2⟩
theorem eA:∀(n:Nat)(f:AL),Lt f->f.fd=[]->Ip n f=Fm n f
 |0,_,_,_=>rfl|n+1,f,hf,he=>by
  rw [Ip,Fm];refine congrArg (fun F=>(Az f.g.d4.length).flatMap F) (funext fun k=>?_);have d:Lt {f with ej:=f.ej++[k]}:=⟨hf.pn,hf.pe,hf.ends,hf.kinds,hf.small⟩;cases R8 f k
  .rfl
  .cases e:NW {f with ej:=f.ej++[k]}
   .obtain⟨i,hd⟩:=iy d e
    grind [YR]
   .simp only[Bool.and_self,if_true];exact eA n _ d he
end Go.Sf.Sc
namespace Go.Sf.Sc
open Go Go.Sf
variable{a b:Int}
theorem Pu{σ ρ:Type}{f:σ×Int->Option (B0 (σ×Int) ρ)}(g:Int->σ){s:σ}(d:a<=b)(e:s=g a)(h:∀i,a<=i->i<b->f (g i,i)=some (.next (g (i+1),i+1)))(j:f (g b,b)=some (.brk (g b,b))):ER f (s,a)=some (.inl (g b,b)):=by
 subst e;have key:∀(n:Nat)(i:Int),a<=i->i+n=b->Lj f (g i,i) (.inl (g b,b)):=by
  intro n
  induction n with
  |zero=>
   intro i _ hi;have:i=b:=by omega
   subst this;exact .brk j
  |succ n o=>
   intro i m q;exact .next (h i m (by omega)) (o (i+1) (by omega) (by omega))
 exact (key (b-a).toNat a (Int.le_refl _) (by omega)).eq
def HF(s:Ah)(ej fd:Fp):AL:=⟨s.p,s.g,I8 s.t,s.jj,s.gt,s.t1+1,ej,fd,s.Aap⟩
def CE(s:Ah)(l:List d7):Ah:={s with Aap:=(s.Aap++l).take (s.t1+1).toNat}
structure Uy(s:Ah):Prop where
 m0:0<=s.t1
 m1:s.t1<=9999
 out:(s.Aap.length:Int)<=s.t1+1
variable{s:Ah}
theorem OO(h:Uy s):CE s []=s:=by
 unfold CE;rw[List.append_nil,List.take_of_length_le (by have:=h.out;have:=h.m0;omega)]
theorem Vo(h:(s.Aap.length:Int)=s.t1+1)(l:List d7):CE s l=s:=by
 unfold CE;rw[List.take_append_of_le_length (by omega),List.take_of_length_le (by omega)]
theorem Vp(h:Uy s)(l:List d7):Uy (CE s l):=by
 refine ⟨h.m0,h.m1,?_⟩;have:=h.m0;show(((s.Aap++l).take (s.t1+1).toNat).length:Int)<=s.t1+1
 grind
theorem UN(s:Ah)(a b:List d7):CE (CE s a) b=CE s (a++b):=by
 show ({s with Aap:=(((s.Aap++a).take (s.t1+1).toNat)++b).take (s.t1+1).toNat}:Ah)=_;rw[XZ,d3];rfl
variable{l:Fp}
theorem fh(s:Ah)(j:l.length<=1000)(n:Int):Ce s l n=some (s.gt&&l.any fun x=>decide (n=x)):=by
 unfold Ce;cases s.gt
 .rw[UA (fun _=>false) true (a:=0) (b:=0) (Int.le_refl _) (fun i h d=>by omega) (by rw[ae (by simp)])];rfl
 .rw[UA (fun i=>decide (AA l i=n)) true (a:=0) (b:=l.length) (by omega) (fun i h d=>by
   rw [a6 (by simp;exact d),AD h d,bs,Ap (by omega) (by omega),FO]) (by rw[ae (by simp)])]
  have e:ns (fun i=>decide (AA l i=n)) 0 l.length=l.any fun x=>decide (n=x):=by
   rw [Bool.eq_iff_iff,Dj,List.any_eq_true]
   grind [AI,BZ]
  rw [e,Bool.true_and];cases l.any fun x=>decide (n=x)<;>rfl
theorem XO:∀(n:Nat)(s:Ah)(ej l:Fp),Lt (HF s [] [])->Uy s->ej.length=s.p.d4.length->l.length+n=s.p.d5.length->∀m,n+1<=m->B9 m s ej l=some (CE s (Ds n (HF s ej l)))
 |n,s,ej,l,hf,r,z,he,m,B=>by
  obtain ⟨m,rfl⟩:∃k,m=k+1:=⟨m-1,by omega⟩;have u:=hf.small;have R:s.p.d4.length<=1000:=u.1;have s2:s.p.d5.length<=1000:=u.2.1;have S:s.g.d4.length<=1000:=u.2.2.1;have T:s.g.d5.length<=1000:=u.2.2.2;have U:=r.m0;have V:=r.m1;have W:=r.out;rw[B9];by_cases v:(s.Aap.length:Int)=s.t1+1
  .grind[Vo]
  rw [ae (by simp;omega)]
  match n,he,B with
  |0,he,B=>
   rw [a6 (by simp;omega),BI (by unfold AW;omega),bs,BI (by unfold AW;omega),bs,AT (by simp;unfold AW;omega),bs];unfold CE;rw[List.take_of_length_le (by simp[Ds];omega)];rfl
  |n+1,he,B=>
   have e:(0:Int)<=l.length:=by omega
   have q:(l.length:Int)<s.p.d5.length:=by omega
   have d:=hf.ends _ (AI (l:=s.p.d5) e q);have H:(AA s.p.d5 l.length).kq<ej.length:=by rw[z];exact d.2.1
   have I:(AA s.p.d5 l.length).To<ej.length:=by rw[z];exact d.2.2.2
   have w:(l.length:Int)<s.jj.d5.length:=by
    have:s.jj.d5.length=s.p.d5.length:=hf.pe;omega
   rw [ae (by simp;omega),AD e q,bs];rw[Pu (fun i=>CE s ((Az i.toNat).flatMap fun k=>if R7 (HF s ej l) k=true then Ds n (HF s ej (l++[k]))else[])) (a:=0) (b:=(s.g.d5.length:Int)) (s:=s) (by omega) (OO r).symm (fun i C D=>by
    have J:∀F,CE s ((Az (i+1).toNat).flatMap F)=CE (CE s ((Az i.toNat).flatMap F)) (F i):=by
     intro F;rw[UN,FL C,List.flatMap_append];simp
    rw [J];generalize (Az i.toNat).flatMap (fun k=>if R7 (HF s ej l) k=true then Ds n (HF s ej (l++[k]))else[])=L;have E:=Vp r L;rw[a6 (by rw[x7];exact D)];have K:idx (CE s L).g.d5 i=some (AA s.g.d5 i):=AD C D;have M:idx (CE s L).jj.d5 (l.length:Int)=some (AA s.jj.d5 l.length):=AD e w;have N:Ce (CE s L) l i=some (s.gt&&l.any fun x=>decide (i=x)):=fh (CE s L) (by omega) i;have key:((Aj [] l).bind fun h=>
      (Aj h [i]).bind fun j=>
      (B9 m (CE s L) ej j).bind fun o=>
      some (.next (o,Al (i+1)):B0 (Ah×Int) Ah))=some (.next (CE (CE s L) (Ds n (HF s ej (l++[i]))),i+1)):=by
     have G:=XO n (CE s L) ej (l++[i]) ⟨hf.pn,hf.pe,hf.ends,hf.kinds,hf.small⟩ E z (by show(l++[i]).length+n=s.p.d5.length;rw[bk];simp;omega) m (by omega);have O:Ds n (HF (CE s L) ej (l++[i]))=Ds n (HF s ej (l++[i])):=PV n (HF s ej (l++[i])) _;rw[O]at G;rw[BI (by unfold AW;omega),bs,AT (by simp;unfold AW;omega),bs,G,bs,Ap (by omega) (by omega)]
    rw [K,bs,M,bs,N,key];simp only[bs];rw[AD d.1 H,AD d.2.2.1 I,Ap (n:=i+1) (by omega) (by omega)];simp only[bs];have y:R7 (HF s ej l) i=(((decide (AA s.jj.d5 l.length<0)||decide (AA s.jj.d5 l.length=i))&&decide (AA s.g.d5 i=⟨(AA s.p.d5 l.length).kg,AA ej (AA s.p.d5 l.length).kq,AA ej (AA s.p.d5 l.length).To⟩))&&!(s.gt&&l.any fun x=>decide (i=x))):=rfl;have P:decide (AA s.g.d5 i=⟨(AA s.p.d5 l.length).kg,AA ej (AA s.p.d5 l.length).kq,AA ej (AA s.p.d5 l.length).To⟩)=(decide ((AA s.p.d5 l.length).kg=(AA s.g.d5 i).kg)&&decide ((AA s.g.d5 i).kq=AA ej (AA s.p.d5 l.length).kq)&&decide ((AA s.g.d5 i).To=AA ej (AA s.p.d5 l.length).To)):=by
     rw [Bool.eq_iff_iff];simp only[pc,x7];generalize AA s.g.d5 i=x;obtain⟨x1,X,Y⟩:=x;simp only[BY.mk.injEq];constructor
     .rintro⟨a,b,c⟩;exact⟨⟨a.symm,b⟩,c⟩
     .rintro⟨⟨a,b⟩,c⟩;exact⟨a.symm,b,c⟩
    have Q:(decide (AA s.jj.d5 l.length<0)||decide (AA s.jj.d5 l.length=i))=!(decide (0<=AA s.jj.d5 l.length)&&!decide (AA s.jj.d5 l.length=i)):=by
     rw [Bool.not_and,Bool.not_not];congr 1;rw[<-decide_not];exact decide_eq_decide.2 (by omega)
    rw [y,P,Q];generalize Ds n (HF s ej (l++[i]))=A;generalize decide (0<=AA s.jj.d5 l.length)=c1;generalize decide (AA s.jj.d5 l.length=i)=c2;generalize decide ((AA s.p.d5 l.length).kg=(AA s.g.d5 i).kg)=c3;generalize decide ((AA s.g.d5 i).kq=AA ej (AA s.p.d5 l.length).kq)=c4;generalize decide ((AA s.g.d5 i).To=AA ej (AA s.p.d5 l.length).To)=c5;generalize (s.gt&&l.any fun x=>decide (i=x))=c6;cases c1<;>cases c2<;>cases c3<;>cases c4<;>cases c5<;>cases c6<;>first|rfl|(simp only[Bool.and_self,Bool.and_true,Bool.true_and,Bool.and_false,Bool.false_and,Bool.not_true,Bool.not_false,Bool.or_true,Bool.or_false,Bool.false_or,Bool.true_or,if_true,Bool.false_eq_true,if_false,OO E,bs];try rfl)) (by rw[ae (by simp[CE])]),Bc,Int.toNat_natCast,Ds]
   rfl
end Go.Sf.Sc
namespace Go.Sf.Sc
open Go Go.Sf
def Rj(s:Ah)(l:Fp)(i k:Int):Bool:=decide (AA s.g.d5 k=⟨(AA s.p.d5 i).kg,AA l (AA s.p.d5 i).kq,AA l (AA s.p.d5 i).To⟩)
def RE(s:Ah)(l:Fp)(i:Int):Bool:=(decide ((AA s.p.d5 i).kq<l.length)&&decide ((AA s.p.d5 i).To<l.length))&&!(Az s.g.d5.length).any (Rj s l i)
variable{s:Ah}{l:Fp}
theorem pj(hf:Lt (HF s [] [])):Ec s l=some (!ns (RE s l) 0 s.p.d5.length):=by
 unfold Ec;rw[BE (RE s l) false]
 .cases ns (RE s l) 0 s.p.d5.length<;>rfl
 .intro i d e _;have he:=hf.ends _ (AI (l:=s.p.d5) d e);rw[AD d e,bs];unfold RE;by_cases j:(AA s.p.d5 i).kq<l.length
  .by_cases m:(AA s.p.d5 i).To<l.length
   .rw[ae (by simp;omega),BM (fun k=>(Az k.toNat).any (Rj s l i)) (by omega) (by rfl),bs,Int.toNat_natCast,decide_eq_true j,decide_eq_true m]
    .grind
    .intro k h o;rw[AD h o,bs,FL h,List.any_append];have q:Rj s l i k=(decide ((AA s.p.d5 i).kg=(AA s.g.d5 k).kg)&&decide ((AA s.g.d5 k).kq=AA l (AA s.p.d5 i).kq)&&decide ((AA s.g.d5 k).To=AA l (AA s.p.d5 i).To)):=by
      unfold Rj;rw[Bool.eq_iff_iff];simp only[pc,x7];generalize AA s.g.d5 k=x;obtain⟨x1,r,u⟩:=x;simp only[BY.mk.injEq];constructor
      .rintro⟨a,b,c⟩;exact⟨⟨a.symm,b⟩,c⟩
      .rintro⟨⟨a,b⟩,c⟩;exact⟨a.symm,b,c⟩
     rw [AD he.1 j,AD he.2.2.1 m];simp only[List.any_cons,List.any_nil,Bool.or_false,bs];rw[q];generalize (Az k.toNat).any (Rj s l i)=c1;generalize decide ((AA s.p.d5 i).kg=(AA s.g.d5 k).kg)=c3;generalize decide ((AA s.g.d5 k).kq=AA l (AA s.p.d5 i).kq)=c4;generalize decide ((AA s.g.d5 k).To=AA l (AA s.p.d5 i).To)=c5;cases c1<;>cases c3<;>cases c4<;>cases c5<;>rfl
   grind
  grind
theorem pf(hf:Lt (HF s [] []))(h:ns (RE s l) 0 s.p.d5.length=true):∃i,b9 (HF s l []) i:=by
 rw [Dj]at h;obtain⟨i,d,j,h⟩:=h;unfold RE at h;rw[pc,pc,x7,x7,Bool.not_eq_true',List.any_eq_false]at h;have he:=hf.ends _ (AI (l:=s.p.d5) d j);refine⟨i,d,j,he.1,h.1.1,he.2.2.1,h.1.2,fun k m o=>?_⟩;have:=h.2 k (FD.2 ⟨m,o⟩);have e:Rj s l i k=false:=by rw[<-Bool.not_eq_true];exact this
 rw [Uq];show((decide (AA s.jj.d5 i<0)||decide (AA s.jj.d5 i=k))&&Rj s l i k)=false;rw[e,Bool.and_false]
end Go.Sf.Sc
namespace Go.Sf.Sc
open Go Go.Sf
theorem YD:∀(n:Nat)(f:AL)(o:List d7),Fm n (Ra f o)=Fm n f
 |0,f,o=>PV _ f o|n+1,f,o=>by
  rw [Fm,Fm];refine congrArg (fun F=>(Az f.g.d4.length).flatMap F) (funext fun k=>?_);have:=YD n {f with ej:=f.ej++[k]} o
  grind [R8,Fm,Ra]
theorem XP:∀(n:Nat)(s:Ah)(l:Fp),Em s.t->Lt (HF s [] [])->Uy s->l.length+n=s.p.d4.length->∀m,n+1<=m->CA m s l=some (CE s (Fm n (HF s l [])))
 |n,s,l,P,hf,r,K,m,z=>by
  obtain ⟨m,rfl⟩:∃k,m=k+1:=⟨m-1,by omega⟩;have M:=hf.small;have Z:s.p.d4.length<=1000:=M.1;have s3:s.g.d4.length<=1000:=M.2.2.1;have h0:=r.m0;have h1:=r.m1;have h2:=r.out;rw[CA];by_cases E:(s.Aap.length:Int)=s.t1+1
  .grind[Vo]
  rw [ae (by simp;omega),pj hf];cases hd:ns (RE s l) 0 s.p.d5.length
  case true=>
   grind [pf,YR,HF,OO]
  simp only[bs,Bool.not_false,Bool.not_true,Bool.false_eq_true,if_false]
  match n,K,z with
  |0,K,z=>
   rw [a6 (by simp;omega),Option.bind_fun_some,Fm];exact Dw (s.p.d5.length+1) fun m z=>XO s.p.d5.length s l [] hf r (by omega) (by simp) m (by omega)
  |n+1,K,z=>
   have w:(l.length:Int)<s.p.d4.length:=by omega
   have o:(0:Int)<=l.length:=by omega
   have G:(l.length:Int)<s.jj.d4.length:=by
    have:s.jj.d4.length=s.p.d4.length:=hf.pn;omega
   have Q:(I8 s.t).length=s.t.d4.length:=by unfold I8;rw[ci,BN]
   have d:=hf.kinds _ (AI (l:=s.p.d4) o w);have H:AA s.p.d4 l.length<s.t.d4.length:=by rw[<-Q];exact d.2.1
   have j:AA (I8 s.t) (AA s.p.d4 l.length)=Ms s.t (AA s.p.d4 l.length):=Ib (Ms s.t) d.1 H;rw[ae (by simp;omega)];rw[Pu (fun i=>CE s ((Az i.toNat).flatMap fun k=>if R8 (HF s l []) k=true then Fm n (HF s (l++[k]) [])else[])) (a:=0) (b:=(s.g.d4.length:Int)) (s:=s) (by omega) (OO r).symm (fun i B C=>by
    have R:∀F,CE s ((Az (i+1).toNat).flatMap F)=CE (CE s ((Az i.toNat).flatMap F)) (F i):=by
     intro F;rw[UN,FL B,List.flatMap_append];simp
    rw [R];generalize (Az i.toNat).flatMap (fun k=>if R8 (HF s l []) k=true then Fm n (HF s (l++[k]) [])else[])=L;have N:=Vp r L;rw[a6 (by rw[x7];exact C)];have q:=d.2.2 _ (AI (l:=s.g.d4) B C);have y:AA s.g.d4 i<s.t.d4.length:=by
     have h:=q.2;have e:AA (HF s [] []).is (AA s.p.d4 l.length)=Ms s.t (AA s.p.d4 l.length):=j;rw[e]at h;unfold Ms at h
     rwa [ci,BN]at h
    have I:Ga (CE s L).t (AA s.g.d4 i) (AA s.p.d4 l.length)=some (If s.t (AA s.g.d4 i) (AA s.p.d4 l.length)):=T6 P q.1 y d.1;have S:idx (CE s L).g.d4 i=some (AA s.g.d4 i):=AD B C;have T:idx (CE s L).jj.d4 (l.length:Int)=some (AA s.jj.d4 l.length):=AD o G;have U:Ce (CE s L) l i=some (s.gt&&l.any fun x=>decide (i=x)):=fh (CE s L) (by omega) i;have V:idx (CE s L).p.d4 (l.length:Int)=some (AA s.p.d4 l.length):=AD o w;have key:((Aj [] l).bind fun D=>
      (Aj D [i]).bind fun u=>
      (CA m (CE s L) u).bind fun v=>
      some (.next (v,Al (i+1)):B0 (Ah×Int) Ah))=some (.next (CE (CE s L) (Fm n (HF s (l++[i]) [])),i+1)):=by
     have O:=XP n (CE s L) (l++[i]) P ⟨hf.pn,hf.pe,hf.ends,hf.kinds,hf.small⟩ N (by show(l++[i]).length+n=s.p.d4.length;rw[bk];simp;omega) m (by omega);have W:Fm n (HF (CE s L) (l++[i]) [])=Fm n (HF s (l++[i]) []):=YD n (HF s (l++[i]) []) _;rw[W]at O;rw[BI (by unfold AW;omega),bs,AT (by simp;unfold AW;omega),bs,O,bs,Ap (by omega) (by omega)]
    rw [T,bs,U,S,V,key];simp only[bs];rw[I,Ap (n:=i+1) (by omega) (by omega)];simp only[bs];have J:R8 (HF s l []) i=((decide (AA s.jj.d4 l.length<0)||decide (AA s.jj.d4 l.length=i))&&AA (AA (I8 s.t) (AA s.p.d4 l.length)) (AA s.g.d4 i)&&!(s.gt&&l.any fun x=>decide (i=x))):=rfl;have X:AA (AA (I8 s.t) (AA s.p.d4 l.length)) (AA s.g.d4 i)=If s.t (AA s.g.d4 i) (AA s.p.d4 l.length):=by
     rw [j];exact Ib (fun k=>If s.t k (AA s.p.d4 l.length)) q.1 y
    have Y:(decide (AA s.jj.d4 l.length<0)||decide (AA s.jj.d4 l.length=i))=!(decide (0<=AA s.jj.d4 l.length)&&!decide (AA s.jj.d4 l.length=i)):=by
     rw [Bool.not_and,Bool.not_not];congr 1;rw[<-decide_not];exact decide_eq_decide.2 (by omega)
    rw [J,X,Y];generalize Fm n (HF s (l++[i]) [])=A;generalize decide (0<=AA s.jj.d4 l.length)=c1;generalize decide (AA s.jj.d4 l.length=i)=c2;generalize If s.t (AA s.g.d4 i) (AA s.p.d4 l.length)=c3;generalize (s.gt&&l.any fun x=>decide (i=x))=c6;cases c1<;>cases c2<;>cases c3<;>cases c6<;>first|rfl|(simp only[Bool.and_self,Bool.and_true,Bool.true_and,Bool.and_false,Bool.false_and,Bool.not_true,Bool.not_false,Bool.or_true,Bool.or_false,if_true,Bool.false_eq_true,if_false,OO N,bs];try rfl)) (by rw[ae (by simp[CE])]),Bc,Int.toNat_natCast,Fm]
   rfl
end Go.Sf.Sc
namespace Go.Sf.Sc
open Go Go.Sf
def FF(t:AC)(p g:d6)(pa:d7)(inj:Bool):AL:=⟨p,g,I8 t,pa,inj,5001,[],[],[]⟩
def OB(t:AC)(p g:d6)(pa:d7)(inj:Bool):List d7:=(Fm p.d4.length (FF t p g pa inj)).take 5001
variable{t:AC}{p g:d6}{pa:d7}{inj:Bool}
theorem mQ(j:Au t)(hv:(A1 t).2=0)(d:Lt (FF t p g pa inj)):KL t p g pa inj 5001=some (OB t p g pa inj):=by
 unfold KL;rw[km j (Cd hv) hv,bs];have h:=pN (f:=FF t p g pa inj) d ⟨by show(0:Int)<=5001;omega,by show(5001:Int)<=10000;omega,by show((0:Nat):Int)<=5001;omega⟩ rfl rfl;rw[eA _ _ d rfl]at h;have e:AL.mk p g (I8 t) pa inj 5001 [] [] []=FF t p g pa inj:=rfl;rw[e,h];rfl
theorem tQ(hv:(A1 t).2=0)(d:Lt (FF t p g pa inj)):OM t p g pa inj 5000=some (OB t p g pa inj):=by
 unfold OM;have h:ID ⟨t,p,g,pa,inj,5000,[]⟩ []=some (CE ⟨t,p,g,pa,inj,5000,[]⟩ (Fm p.d4.length (FF t p g pa inj))):=
  Dw (p.d4.length+1) fun m e=>XP p.d4.length ⟨t,p,g,pa,inj,5000,[]⟩ [] (Cd hv) d ⟨by show(0:Int)<=5000;omega,by show(5000:Int)<=9999;omega,by show((0:Nat):Int)<=5000+1;omega⟩ (by show 0+p.d4.length=p.d4.length;omega) m e
 rw [h];rfl
end Go.Sf.Sc
namespace Go.Sf.Sc
open Go Go.Sf
def UU(n k:Int):Bool:=decide (k< -1)||decide (n<=k)
def QI(l:Fp)(n:Int):Int:=if l.any (UU n)=true then 6 else 0
theorem fC(l:Fp)(n:Int):Jf l n=some (QI l n):=by grind[Jf,QI,Le,UU,Ss]
variable{l:Fp}
theorem ZS{c:Int}(n:Int)(h:(l.length:Int)=c):IQ l c n=some (QI l n):=by
 unfold IQ QI;rw[ae (by simp[h]),BE (fun i=>UU n (AA l i)) 6]
 .have e:ns (fun i=>UU n (AA l i)) 0 l.length=l.any (UU n):=by
   rw [Bool.eq_iff_iff,Dj,List.any_eq_true]
   grind [AI,BZ]
  rw [e];cases l.any (UU n)<;>rfl
 grind [AD,UU,AA]
end Go.Sf.Sc
namespace Go.Sf.Sc
open Go Go.Sf
theorem ZD(t:AC)(g:d6):G6 t g=some (CQ t g):=by grind[G6,CQ,Jt,Ss,Ju,aS]
def FN(t:AC)(p g:d6):Int:=if(A1 t).2≠0 then(A1 t).2 else if Bn p≠0 then Bn p else if Bn g≠0 then Bn g else if(CQ t p&&CQ t g)=true then 0 else 13
variable{t:AC}
theorem WH(hf:Au t)(p g:d6):Gi t p g=some (FN t p g):=by
 unfold Gi FN;rw[NV hf,bs];refine C6 fun _=>?_;have o:Ag (ρ:=Int) (fun(m:Int)(_:Unit)=>
   (idx [p,g] m).bind fun j=>
   (DX j).bind fun h=>
   if (!decide (h=0))=true then
   some (.ret h)
   else
   some (.next ())) 0 ([p,g].length:Int) ()=some (if Bn p≠0 then .inr (Bn p)else if Bn g≠0 then .inr (Bn g)else .inl ()):=by
  show FE _ 2 0 ()=_;rw[FG,show idx [p,g] 0=some p from rfl,bs,L6,bs];by_cases d:Bn p=0
  .rw[ae (by simp[d]),ae (by simp[d])];show FE _ 1 (0+1) ()=_;rw[FG,show idx [p,g] (0+1)=some g from rfl,bs,L6,bs];by_cases e:Bn g=0
   .rw[ae (by simp[e]),ae (by simp[e])];rfl
   .rw[a6 (by simp[e]),a6 e]
  .rw[a6 (by simp[d]),a6 d]
 rw [o];by_cases d:Bn p=0
 .by_cases e:Bn g=0
  .simp only[d,e,ne_eq,not_true_eq_false,if_false,Bc];rw[ZD,ZD,bs];cases CQ t p<;>cases CQ t g<;>rfl
  .simp only[d,e,ne_eq,not_true_eq_false,not_false_eq_true,if_false,if_true,TY]
 .simp only[d,ne_eq,not_false_eq_true,if_true,TY]
theorem Ui(hf:Au t)(p g:d6):H0 t p g=some (FN t p g):=by
 unfold H0 FN;rw[PL hf,bs];refine C6 fun _=>?_;rw[L7,bs];refine C6 fun d=>?_;rw[L7,bs];refine C6 fun e=>?_
 grind [WQ,C3,CQ]
end Go.Sf.Sc
namespace Go.Sf.Sc
open Go Go.Sf
variable{t:AC}{p g:d6}{pa:d7}{inj:Bool}
theorem YW(h:FN t p g=0)(r:pa.d4.length=p.d4.length)(u:pa.d5.length=p.d5.length):(A1 t).2=0/\Lt (FF t p g pa inj):=by
 unfold FN at h;by_cases hv:(A1 t).2=0
 .rw[ae (by simp[hv])]at h;by_cases o:Bn p=0
  .rw[ae (by simp[o])]at h;by_cases q:Bn g=0
   .rw[ae (by simp[q])]at h;by_cases d:(CQ t p&&CQ t g)=true
    .rw[pc]at d;have op:=C3 o;have m:=C3 q;have tp:=Gr op d.1;have w:=Gr m d.2;have x:(I8 t).length=t.d4.length:=by unfold I8;rw[ci,BN]
     refine ⟨hv,r,u,fun e he=>?_,fun n v=>?_,Nat.le_trans op.ej (by omega),Nat.le_trans op.fd (by omega),Nat.le_trans m.ej (by omega),Nat.le_trans m.fd (by omega)⟩
     .have:=op.fit e he;exact⟨this.2.1.1,this.2.1.2,this.2.2.1,this.2.2.2⟩
     .have:=tp.1 n v;refine⟨this.1,by show n<((I8 t).length:Int);rw[x];exact this.2,fun k j=>?_⟩;have j:=w.1 k j;refine⟨j.1,?_⟩;show k<((AA (I8 t) n).length:Int)
      grind [I8,Ib,Ms,ci,BN]
    grind
   grind
  grind
 grind
def RI(t:AC)(p g:d6)(pa:d7)(inj:Bool):List d7×Int:=
 if FN t p g≠0 then([],FN t p g)else if¬(pa.d4.length=p.d4.length/\pa.d5.length=p.d5.length)then([],20)else
 if QI pa.d4 g.d4.length≠0 then([],QI pa.d4 g.d4.length)else if QI pa.d5 g.d5.length≠0 then([],QI pa.d5 g.d5.length)else
 if 5000<(OB t p g pa inj).length then([],3)else(OB t p g pa inj,0)
theorem im(hf:Au t)(p g:d6)(pa:d7)(inj:Bool):JQ t p g pa inj=some (RI t p g pa inj):=by
 unfold JQ RI;rw[WH hf,bs];refine Dt fun e=>?_;refine N9 (by simp only[Bool.or_eq_true,Bool.not_eq_true',decide_eq_false_iff_not];omega) fun d=>?_;have d:=Classical.not_not.1 d;rw[fC,bs];refine Dt fun h=>?_;rw[fC,bs];refine Dt fun j=>?_
 grind [YW,O4,mQ,OB]
theorem jA(hf:Au t)(p g:d6)(pa:d7)(inj:Bool):KD t p g pa inj=some (RI t p g pa inj):=by
 unfold KD RI;rw[Ui hf,bs];refine Dt fun e=>?_;refine N9 (by simp only[Bool.or_eq_true,Bool.not_eq_true',decide_eq_false_iff_not];omega) fun d=>?_;have d:=Classical.not_not.1 d;rw[ZS _ (by omega),bs];refine Dt fun h=>?_;rw[ZS _ (by omega),bs];refine Dt fun j=>?_
 grind [YW,tQ,OB]
end Go.Sf.Sc
