/- Plain lemmas: what the functions of the program and of the reference compute. -/
import Derived.Test.YtlbmpkmkmkgniaaGreatDoorP1
import Derived.Test.YtlbmpkmkmkgniaaGreatDoorEval
set_option linter.all false
set_option maxRecDepth 100000
namespace Go.Sf.Sc
open Go Go.Sf
theorem d9 {t:AD} (b:CC t) (p:Pattern) {c:AA} (d:EF c):EE t p c=some (HK t p c):=by
 by_cases a:(BM t).2=0
 ·exact gY b a p d
 ·unfold EE HK;rw [Ue b,bs];refine JJ fun h=>?_;exfalso;unfold Ja at h;rw [d1 a] at h;exact a h
end Go.Sf.Sc
namespace Go.Sf.Sc
open Go Go.Sf
theorem e8 {α:Type} [Inhabited α] (b:α->α->Bool) {l m:List α} (d:∀ x∈l,∀ y∈m,(b x y=true↔x=y)) (e:l.length=m.length):anyR (fun i=>!b (AB l i) (AB m i)) 0 l.length=false↔l=m:=by
 rw [EK];constructor
 ·intro h;refine Yg e (fun i a c=>?_);have:=h i a c;rw [Bool.not_eq_false'] at this;exact (d _ (AW a c) _ (AW a (by omega))).1 this
 ·rintro rfl i a c;rw [Bool.not_eq_false'];exact (d _ (AW a c) _ (AW a c)).2 rfl
theorem dX {α:Type} [Inhabited α] [DecidableEq α] {l m:List α} (f:l.length=m.length) {k:Unit->ca} {c:Bool->ca}:thenR (forR (ρ:=Bool) (fun (d:Int) (_:Unit)=>
 (AK l d).bind fun a=>
 (AK m d).bind fun b=>
 if (!decide (a=b))=true then
 some (.ret false)
 else
 some (.next ())) 0 (l.length:Int) ()) k c=if l=m then k () else c false:=by
 rw [C4 (fun i=>!decide (AB l i=AB m i)) false]
 ·have:=e8 (fun x y:α=>decide (x=y)) (l:=l) (m:=m) (fun _ _ _ _=>decide_eq_true_iff) f;by_cases h:l=m
  ·rw [this.2 h,d1 h]; rfl
  ·rw [d2 h];cases j:anyR (fun i=>!decide (AB l i=AB m i)) 0 l.length
   ·exact absurd (this.1 j) h
   ·rfl
 ·intro i e g _;rw [AL e g,bs,AL e (by omega),bs,Kc]
theorem dW {α:Type} [Inhabited α] [DecidableEq α] (l m:List α):(if (!decide ((l.length:Int)=(m.length:Int)))=true then
 some false
 else
 thenR (forR (ρ:=Bool) (fun (d:Int) (_:Unit)=>
 (AK l d).bind fun a=>
 (AK m d).bind fun b=>
 if (!decide (a=b))=true then
 some (.ret false)
 else
 some (.next ())) 0 (l.length:Int) ()) (fun _=>
 some true) (fun f=>some f))=some (decide (l=m)):=by
 by_cases c:l.length=m.length
 ·rw [d2 (by simp [c]),dX c];by_cases h:l=m
  ·rw [d1 h,decide_eq_true h]
  ·rw [d2 h,decide_eq_false h]
 ·rw [d1 (by simp; omega),decide_eq_false (fun e=>c (by rw [e]))]
theorem oG (l m:Ne):slices_Equal_int l m=some (decide (l=m)):=dW l m
noncomputable def cO (a b:AA):Bool:=@decide (a=b) (Classical.propDecidable _)
end Go.Sf.Sc
namespace Go.Sf.Sc
open Go Go.Sf
mutual
def cnt:AA->Nat
 | ⟨_,kids,_,_⟩=>1+Jp kids
def Jp:List AA->Nat
 | []=>0
 | k::l=>cnt k+Jp l
end
mutual
def Tb:AA->Nat
 | ⟨k,kids,_,_⟩=>(if k=5 then 1 else 0)+Qj kids
def Qj:List AA->Nat
 | []=>0
 | k::l=>max (Tb k) (Qj l)
end
theorem Nv (c:AA):cnt c=1+Jp c.Kids:=by cases c; rfl
theorem Uy (c:AA):Tb c=(if c.Kind=5 then 1 else 0)+Qj c.Kids:=by cases c; rfl
theorem dV {l:List AA} {k:Int} (a:0<=k) (b:k<l.length):l.drop k.toNat=AB l k::l.drop (k+1).toNat:=by
 rw [show (k+1).toNat=k.toNat+1 by omega,List.drop_eq_getElem_cons (by omega)];unfold AB;rw [List.getD_eq_getElem?_getD,List.getElem?_eq_getElem (by omega)]; rfl
theorem Tg:∀ (N:Nat) (c:AA),SizeOf.sizeOf c<=N->(AF c).Sm->∀ most:Int,0<=most->most<=1000->∃ r,(∀ n,N<=n->FZ n c most=some r)∧-1<=r∧r<=most - 1∧(0<=r->EF c∧(cnt c:Int)+r<=most)
 | 0,c,h,_,_,_,_=>by have:=EQ c; omega
 | N+1,c,h,Q,most,m0,m1=>by
  obtain ⟨G,H,v⟩:=dT Q;obtain ⟨I,q,J⟩:=TD c.Pattern;obtain ⟨K,x,L⟩:=dZ G;have step:∀ n,N+1<=n->∃ m,n=m+1∧N<=m:=fun n a=>⟨n - 1,by omega,by omega⟩;cases I
  ·refine ⟨-1,fun n a=>?_,by omega,by omega,fun h=>by omega⟩;obtain ⟨n,rfl,_⟩:=step n a;rw [FZ,q]; rfl
  cases K
  ·refine ⟨-1,fun n a=>?_,by omega,by omega,fun h=>by omega⟩;obtain ⟨n,rfl,_⟩:=step n a;rw [FZ,q,bs,x]; rfl
  have loop:∀ (m:Nat) (k left:Int),0<=k->k+m=c.Kids.length->-1<=left->left<=1000->∃ b i,(∀ n,N<=n->Mb (ρ:=Int) (fun (e:Int × Int)=>
    if ((decide (e.2<(c.Kids.length:Int)))&&(decide (0<=e.1)))=true then
    (AK c.Kids e.2).bind fun s=>
    (FZ n s e.1).bind fun t=>
    some (.next (t,A6 (e.2+1)))
    else
    some (.brk (e.1,e.2))) (left,k) (.inl (b,i)))∧-1<=b∧b<=left∧(0<=b->(∀ j,k<=j->j<c.Kids.length->EF (AB c.Kids j))∧(Jp (c.Kids.drop k.toNat):Int)+b<=left):=by
   intro m
   induction m with
   | zero=>
    intro k left p D w l1;refine ⟨left,k,fun n a=>.brk ?_,w,by omega,fun _=>⟨fun j u o=>by omega,?_⟩⟩
    ·rw [d2 (by simp; omega)]
    ·rw [List.drop_of_length_le (by omega),Jp]; omega
   | succ m P=>
    intro k left p D w l1;by_cases E:0<=left
    ·have d:=AW (l:=c.Kids) p (by omega);have:=FL d;obtain ⟨r,M,O,R,B⟩:=Tg N _ (by omega) (v _ d) left E l1;obtain ⟨b,i,y,z,C,g⟩:=P (k+1) r (by omega) (by omega) O (by omega);refine ⟨b,i,fun n a=>.next (s':=(r,k+1)) ?_ (y n a),z,by omega,fun f=>⟨fun j u o=>?_,?_⟩⟩
     ·rw [d1 (by simp; omega),AL p (by omega),bs,M n a,bs,BD (by omega) (by omega)]
     ·by_cases F:j=k
      ·subst F; exact (B (by omega)).1
      ·exact (g f).1 j (by omega) o
     ·have q:=(B (by omega)).2;have x:=(g f).2;rw [dV p (by omega),Jp];omega
    ·refine ⟨left,k,fun n a=>.brk ?_,w,by omega,fun h=>by omega⟩;rw [d2 (by simp; omega)]
  obtain ⟨b,i,y,z,C,g⟩:=loop c.Kids.length 0 (most - 1) (by omega) (by omega) (by omega) (by omega);refine ⟨b,fun n a=>?_,z,C,fun f=>⟨.mk c (J rfl) (L rfl) (fun k v=>?_),?_⟩⟩
  ·obtain ⟨n,rfl,A⟩:=step n a;rw [FZ,q,bs,x];simp only [bs,Bool.not_true,Bool.false_eq_true,if_false];rw [BD (n:=most - 1) (by omega) (by omega),(y n A).eq,EI]
  ·obtain ⟨j,u,o,rfl⟩:=EB v;exact (g f).1 j u o
  ·have:=(g f).2;rw [show (0:Int).toNat=0 from rfl,List.drop_zero] at this;rw [Nv];omega
theorem Tf {c:AA} (a:(AF c).Sm):∃ b,NA c=some b∧(b=true->EF c∧cnt c<=40):=by
 obtain ⟨r,d,_,_,f⟩:=Tg (SizeOf.sizeOf c) c (d3 _) a 40 (by omega) (by omega);have e:Po c 40=some r:=GJ (SizeOf.sizeOf c) d;unfold NA;rw [e];exact ⟨_,rfl,fun h=>by have:=f (by simpa using h); exact ⟨this.1,by have:=this.2; simp at h; omega⟩⟩
theorem Rj:∀ {l:List AA} {k:AA},k∈l->cnt k<=Jp l
 | x::l,k,h=>by
  rw [Jp];rcases List.mem_cons.1 h with rfl | h
  ·omega
  ·have:=Rj h; omega
theorem Wf:∀ (N:Nat) (c:AA),SizeOf.sizeOf c<=N->Tb c<=cnt c
 | 0,c,h=>by have:=EQ c; omega
 | N+1,c,h=>by
  have key:∀ l:List AA,(∀ k∈l,k∈c.Kids)->Qj l<=Jp l:=by
   intro l
   induction l with
   | nil=>intro _; exact d3 _
   | cons k l d=>
    intro a;have e:=d (fun x b=>a x (List.mem_cons_of_mem _ b));have:=FL (a k List.mem_cons_self);have f:=Wf N k (by omega);rw [Qj,Jp];omega
  have:=key c.Kids (fun _ h=>h);rw [Uy,Nv];split <;> omega
theorem Wt:∀ (N:Nat) (c:AA),SizeOf.sizeOf c<=N->cnt c<=1000->Jt N c=((cnt c:Int),(Tb c:Int))
 | 0,c,h,_=>by have:=EQ c; omega
 | N+1,c,h,p=>by
  have key:∀ (l:List AA) (a b:Nat),(∀ k∈l,k∈c.Kids)->a+Jp l<=1000->l.foldl (fun s k=>(A6 (s.1+(Jt N k).1),max s.2 (Jt N k).2)) (((a:Int),(b:Int)):Int × Int)=(((a+Jp l:Nat):Int),((max b (Qj l):Nat):Int)):=by
   intro l
   induction l with
   | nil=>intro a b _ _; simp [Jp,Qj]
   | cons k l o=>
    intro a b f j;rw [Jp] at j;have:=FL (f k List.mem_cons_self);rw [List.foldl_cons,Wt N k (by omega) (by omega)];have m:A6 ((a:Int)+(cnt k:Int))=((a+cnt k:Nat):Int):=by rw [BD (by omega) (by omega)]; omega
    have n:max (b:Int) (Tb k:Int)=((max b (Tb k):Nat):Int):=by omega
    simp only [m,n];rw [o (a+cnt k) (max b (Tb k)) (fun x i=>f x (List.mem_cons_of_mem _ i)) (by omega),Jp,Qj,Nat.add_assoc,Nat.max_assoc]
  have d:=p;rw [Nv] at d;have:=key c.Kids 1 0 (fun _ h=>h) d;have g:=Wf (N+1) c h;rw [Jt];rw [show ((1,0):Int × Int)=(((1:Nat):Int),((0:Nat):Int)) from rfl,this,Nv,Uy];rw [Uy] at g;by_cases e:c.Kind=5
  ·rw [d1 e] at g ⊢;rw [d1 e];rw [BD (by simp only [Nat.zero_max]; omega) (by simp only [Nat.zero_max]; omega)];simp only [Nat.zero_max,Prod.mk.injEq,true_and];omega
  ·rw [d2 e,d2 e];simp
theorem ah {c:AA} (h:cnt c<=1000):Pb c=((cnt c:Int),(Tb c:Int)):=Wt _ c (d3 _) h
end Go.Sf.Sc
namespace Go.Sf.Sc
open Go Go.Sf
structure Lj (f:AM):Prop where
 pn:f.partial_.Nodes.length=f.p.Nodes.length
 pe:f.partial_.Edges.length=f.p.Edges.length
 ends : ∀ e ∈ f.p.Edges, 0 ≤ e.From ∧ e.From < f.p.Nodes.length ∧ 0 ≤ e.To ∧ e.To < f.p.Nodes.length
 kinds:∀ n∈f.p.Nodes,0<=n∧n<f.is.length∧∀ t∈f.g.Nodes,0<=t∧t<(AB f.is n).length
 small:f.p.Nodes.length<=1000∧f.p.Edges.length<=1000∧f.g.Nodes.length<=1000∧f.g.Edges.length<=1000
def KS (f:AM) (i k:Int):Bool:=
 (decide (AB f.partial_.Edges i<0)||decide (AB f.partial_.Edges i=k))&&decide (AB f.g.Edges k=⟨(AB f.p.Edges i).Type',AB f.nodes (AB f.p.Edges i).From,AB f.nodes (AB f.p.Edges i).To⟩)
theorem Y5 {α:Type} {l:List α} (h:l≠[]):VQ l=some ():=by
 unfold VQ;cases l with
 | nil=>exact absurd rfl h
 | cons _ _=>rfl
theorem VA {l:Ne} {i:Int} (b:0<=i) (a:i<l.length):IY l i=some (AB l i):=by
 unfold IY;rw [Y5 (by intro h; subst h; simp at a; omega),bs,AL b a,bs]
theorem ZD {f:AM} (d:Lj f) {i k:Int} (b:0<=i) (c:i<f.p.Edges.length) (j:0<=k) (l:k<f.g.Edges.length) (m:(AB f.p.Edges i).From<f.nodes.length) (n:(AB f.p.Edges i).To<f.nodes.length):EX f i k=some (KS f i k):=by
 have e:=d.ends _ (AW b c);unfold EX KS;rw [AL b c,bs,VA b (by rw [d.pe]; exact c),bs,AL j l,bs,AL e.1 m,bs,AL e.2.2.1 n,bs];by_cases h:AB f.partial_.Edges i<0
 ·rw [d2 (by simp; omega)]; simp [h]
 ·by_cases a:AB f.partial_.Edges i=k
  ·rw [d2 (by simp [a])]; simp [a]
  ·rw [d1 (by simp [a]; omega)]; simp [h,a]
def Mk (f:AM):Bool:=!anyR (fun i=>decide (max (AB f.p.Edges i).From (AB f.p.Edges i).To=(f.nodes.length:Int) - 1)&&!anyR (fun k=>KS f i k) 0 f.g.Edges.length) 0 f.p.Edges.length
theorem dK {f:Int->Bool->Option (C7 Bool Bool)} (p:Int->Bool) {b:Int} (h:∀ i,0<=i->i<b->f i false=some (if p i=true then .brk true else .next false)):forR f 0 b false=some (.inl (anyR p 0 b)):=by
 have key:∀ (m:Nat) (i:Int),0<=i->i+m=b->forGo f m i false=some (.inl (anyR p i b)):=by
  intro m
  induction m with
  | zero=>
   intro i k hi;have:anyR p i b=false:=by rw [EK]; intro j g a; omega
   rw [this]; rfl
  | succ m l=>
   intro i k hi;rw [HN,h i k (by omega)];by_cases c:p i=true
   ·have:anyR p i b=true:=by rw [H6]; exact ⟨i,Int.le_refl _,by omega,c⟩
    rw [d1 c,this]
   ·have e:anyR p i b=anyR p (i+1) b:=by
     rw [Bool.eq_iff_iff,H6,H6];constructor
     ·rintro ⟨j,g,a,d⟩;have:j≠i:=fun e=>c (e ▸ d);exact ⟨j,by omega,a,d⟩
     ·rintro ⟨j,g,a,d⟩;exact ⟨j,by omega,a,d⟩
    rw [d2 c,e];exact l (i+1) (by omega) (by omega)
 unfold forR;by_cases n:0<=b
 ·exact key _ 0 (Int.le_refl _) (by omega)
 ·have:anyR p 0 b=false:=by rw [EK]; intro j g a; omega
  rw [this,show (b - 0).toNat=0 by omega]; rfl
theorem Xv {f:AM} (e:Lj f) (m:0<f.nodes.length) (h:f.nodes.length<=1000):C3 f=some (Mk f):=by
 unfold C3 Mk;rw [C4 (fun i=>decide (max (AB f.p.Edges i).From (AB f.p.Edges i).To=(f.nodes.length:Int) - 1)&&!anyR (fun k=>KS f i k) 0 f.g.Edges.length) false]
 ·generalize anyR (fun i=>decide (max (AB f.p.Edges i).From (AB f.p.Edges i).To=(f.nodes.length:Int) - 1)&&!anyR (fun k=>KS f i k) 0 f.g.Edges.length) 0 f.p.Edges.length=b;cases b <;> rfl
 ·intro i c d _;rw [AL c d,bs,BD (n:=(f.nodes.length:Int) - 1) (by omega) (by omega)];by_cases a:max (AB f.p.Edges i).From (AB f.p.Edges i).To=(f.nodes.length:Int) - 1
  ·rw [d2 (by simp [a]),dK (fun k=>KS f i k) (fun k j l=>by
    rw [ZD e c d j l (by omega) (by omega),bs,Kc])]
   generalize anyR (fun k=>KS f i k) 0 f.g.Edges.length=b;rw [decide_eq_true a];cases b <;> rfl
  ·rw [d1 (by simp [a]),d2 (by simp [a])]
def A9 (n:Nat):Ne:=(List.range n).map Int.ofNat
theorem Ks (n:Nat):A9 (n+1)=A9 n++[(n:Int)]:=by
 unfold A9;rw [List.range_succ,List.map_append]; rfl
def OV (f:AM) (k:Int):Bool:=(decide (AB f.partial_.Nodes f.nodes.length<0)||decide (AB f.partial_.Nodes f.nodes.length=k))&&AB (AB f.is (AB f.p.Nodes f.nodes.length)) (AB f.g.Nodes k)&&!(f.injective&&f.nodes.any fun x=>decide (k=x))
def OU (f:AM) (k:Int):Bool:=KS f f.edges.length k&&!(f.injective&&f.edges.any fun x=>decide (k=x))
def EW:Nat->AM->List Morphism
 | 0,f=>[⟨f.nodes,f.edges⟩]
 | n+1,f=>(A9 f.g.Edges.length).flatMap fun k=>if OU f k=true then EW n { f with edges:=f.edges++[k] } else []
def Jm:Nat->AM->List Morphism
 | 0,f=>EW f.p.Edges.length f
 | n+1,f=>(A9 f.g.Nodes.length).flatMap fun k=>if (OV f k&&Mk { f with nodes:=f.nodes++[k] })=true then Jm n { f with nodes:=f.nodes++[k] } else []
theorem UL {α:Type} (a b:List α) (m:Nat):((a.take m)++b).take m=(a++b).take m:=by
 by_cases h:a.length<=m
 ·rw [List.take_of_length_le h]
 ·rw [List.take_append_of_le_length (by simp; omega),List.take_append_of_le_length (by omega),List.take_take,Nat.min_self]
end Go.Sf.Sc
namespace Go.Sf.Sc
open Go Go.Sf
def Pj (f:AM) (o:List Morphism):AM:={ f with out:=o }
theorem Lj.out {f:AM} (h:Lj f) (o:List Morphism):Lj (Pj f o):=⟨h.pn,h.pe,h.ends,h.kinds,h.small⟩
theorem Nt:∀ (n:Nat) (f:AM) (o:List Morphism),EW n (Pj f o)=EW n f
 | 0,_,_=>rfl
 | n+1,f,o=>by
  rw [EW,EW];refine congrArg (fun F=>(A9 f.g.Edges.length).flatMap F) (funext fun k=>?_);have:=Nt n { f with edges:=f.edges++[k] } o;show (if OU f k=true then EW n (Pj { f with edges:=f.edges++[k] } o) else [])=_;rw [this]
theorem Ul:∀ (n:Nat) (f:AM) (o:List Morphism),Jm n (Pj f o)=Jm n f
 | 0,f,o=>Nt _ f o
 | n+1,f,o=>by
  rw [Jm,Jm];refine congrArg (fun F=>(A9 f.g.Nodes.length).flatMap F) (funext fun k=>?_);have:=Ul n { f with nodes:=f.nodes++[k] } o;show (if (OV f k&&Mk { f with nodes:=f.nodes++[k] })=true then Jm n (Pj { f with nodes:=f.nodes++[k] } o) else [])=_;rw [this]
def BN (f:AM) (l:List Morphism):AM:=Pj f ((f.out++l).take f.most.toNat)
structure S8 (f:AM):Prop where
 m0:0<=f.most
 m1:f.most<=10000
 out:(f.out.length:Int)<=f.most
theorem Ka {f:AM} (h:S8 f):BN f []=f:=by
 unfold BN;rw [List.append_nil,List.take_of_length_le (by have:=h.out; have:=h.m0; omega)]; rfl
theorem Ts {f:AM} (h:(f.out.length:Int)=f.most) (l:List Morphism):BN f l=f:=by
 unfold BN;rw [List.take_append_of_le_length (by omega),List.take_of_length_le (by omega)]; rfl
theorem Tu {f:AM} (h:S8 f) (l:List Morphism):S8 (BN f l):=by
 refine ⟨h.m0,h.m1,?_⟩;have:=h.m0;show (((f.out++l).take f.most.toNat).length:Int)<=f.most;rw [d5]; omega
theorem Tt (f:AM) (a b:List Morphism):BN (BN f a) b=BN f (a++b):=by
 show Pj f ((((f.out++a).take f.most.toNat)++b).take f.most.toNat)=_;rw [UL,ea]; rfl
theorem SJ:∀ (n:Nat) (f:AM),Lj f->S8 f->f.nodes.length=f.p.Nodes.length->f.edges.length+n=f.p.Edges.length->∀ m,n+1<=m->BA m f=some (BN f (EW n f))
 | n,f,d,r,K,v,m,w=>by
  obtain ⟨m,rfl⟩:∃ k,m=k+1:=⟨m - 1,by omega⟩;have M:=d.small;have N:=r.m0;have O:=r.m1;have P:=r.out;rw [BA];by_cases c:(f.out.length:Int)=f.most
  ·rw [d1 (by simpa using c),Ts c]; rfl
  rw [d2 (by simpa using c),d2 (by simp; omega)]
  match n,v,w with
  | 0,v,w=>
   rw [d2 (by simp; omega)];unfold slices_Clone_int;rw [JC (by unfold BY; omega),bs,JC (by unfold BY; omega),bs,CS (by simp; unfold BY; omega),bs,bs];unfold BN;rw [List.take_of_length_le (by simp [EW]; omega)]; rfl
  | n+1,v,w=>
   rw [d1 (by simp; omega)];have F:∀ k,OU f k=true->Lj { f with edges:=f.edges++[k] }:=fun k _=>⟨d.pn,d.pe,d.ends,d.kinds,d.small⟩;rw [EY (a:=0) (s:=f) (fun i=>BN f ((A9 i.toNat).flatMap fun k=>if OU f k=true then EW n { f with edges:=f.edges++[k] } else [])) (by omega) (Ka r)]
   ·rw [bs,bs,Int.toNat_natCast,EW]
   ·intro i B C;have D:A9 (i+1).toNat=A9 i.toNat++[i]:=by
     rw [show (i+1).toNat=i.toNat+1 by omega,Ks];rw [show ((i.toNat:Nat):Int)=i by omega]
    have E:∀ l,BN f ((A9 (i+1).toNat).flatMap l)=BN (BN f ((A9 i.toNat).flatMap l)) (l i):=by
     intro l;rw [Tt,D,List.flatMap_append]; simp
    rw [E];generalize (A9 i.toNat).flatMap (fun k=>if OU f k=true then EW n { f with edges:=f.edges++[k] } else [])=L;have j:=Tu r L;have t:Lj (BN f L):=d.out _;have y:=d.ends _ (AW (l:=f.p.Edges) (i:=(f.edges.length:Int)) (by omega) (by omega));rw [ZD t (i:=(f.edges.length:Int)) (k:=i) (by omega) (by show _<(f.p.Edges.length:Int); omega) B (by exact C) (by show (AB f.p.Edges f.edges.length).From<(f.nodes.length:Int); omega) (by show (AB f.p.Edges f.edges.length).To<(f.nodes.length:Int); omega),bs];have G:slices_Contains_int (BN f L).edges i=some (f.edges.any fun x=>decide (i=x)):=SE f.edges i;rw [G];have o:KS (BN f L) f.edges.length i=KS f f.edges.length i:=rfl;have key:((B9 (BN f L).edges [i]).bind fun e=>
      (BA m (AM.mk (BN f L).p (BN f L).g (BN f L).is (BN f L).partial_ (BN f L).injective (BN f L).most (BN f L).nodes e (BN f L).out)).bind fun b=>
      (slc b.edges 0 (f.edges.length:Int)).bind fun h=>
      some (AM.mk b.p b.g b.is b.partial_ b.injective b.most b.nodes h b.out))=some (BN (BN f L) (EW n { f with edges:=f.edges++[i] })):=by
     have H:B9 (BN f L).edges [i]=some (f.edges++[i]):=CS (by show f.edges.length+1<=BY; unfold BY; omega);have z:=SJ n { BN f L with edges:=f.edges++[i] } ⟨d.pn,d.pe,d.ends,d.kinds,d.small⟩ ⟨j.m0,j.m1,j.out⟩ K (by show (f.edges++[i]).length+n=f.p.Edges.length; simp; omega) m (by omega);have I:EW n { BN f L with edges:=f.edges++[i] }=EW n { f with edges:=f.edges++[i] }:=Nt n { f with edges:=f.edges++[i] } _;rw [I] at z;rw [H,bs];show (BA m { BN f L with edges:=f.edges++[i] }).bind _=_;rw [z,bs];have J:slc (BN { BN f L with edges:=f.edges++[i] } (EW n { f with edges:=f.edges++[i] })).edges 0 (f.edges.length:Int)=some f.edges:=by
      show slc (f.edges++[i]) 0 (f.edges.length:Int)=_;rw [Mn (by omega) (by rw [d4]; omega),Int.toNat_natCast,List.take_left]
     rw [J]; rfl
    rw [key,o];have u:OU f i=(KS f f.edges.length i&&!(f.injective&&f.edges.any fun x=>decide (i=x))):=rfl;have q:(BN f L).injective=f.injective:=rfl;rw [u,q];generalize Q:EW n { f with edges:=f.edges++[i] }=A;cases KS f f.edges.length i
    ·simp only [Bool.false_and,Bool.false_eq_true,if_false,Ka j]; rfl
    ·cases f.injective
     ·rfl
     ·cases f.edges.any fun x=>decide (i=x)
      ·rfl
      ·simp only [Bool.and_self,Bool.not_true,Bool.and_false,Bool.false_eq_true,if_false,Ka j]; rfl
end Go.Sf.Sc
namespace Go.Sf.Sc
open Go Go.Sf
theorem SK:∀ (n:Nat) (f:AM),Lj f->S8 f->f.edges=[]->f.nodes.length+n=f.p.Nodes.length->∀ m,n+f.p.Edges.length+1<=m->BA m f=some (BN f (Jm n f))
 | 0,f,d,r,y,Q,m,R=>by
  rw [Jm];exact SJ _ f d r (by omega) (by rw [y]; simp) m (by omega)
 | n+1,f,d,r,y,Q,m,R=>by
  obtain ⟨m,rfl⟩:∃ k,m=k+1:=⟨m - 1,by omega⟩;have S:=d.small;have T:=r.m0;have U:=r.m1;have V:=r.out;rw [BA];by_cases c:(f.out.length:Int)=f.most
  ·rw [d1 (by simpa using c),Ts c]; rfl
  rw [d2 (by simpa using c),d1 (by simp; omega)];rw [EY (a:=0) (s:=f) (fun i=>BN f ((A9 i.toNat).flatMap fun k=>if (OV f k&&Mk { f with nodes:=f.nodes++[k] })=true then Jm n { f with nodes:=f.nodes++[k] } else [])) (by omega) (Ka r)]
  ·rw [bs,bs,Int.toNat_natCast,Jm]
  ·intro i z B;have E:A9 (i+1).toNat=A9 i.toNat++[i]:=by
    rw [show (i+1).toNat=i.toNat+1 by omega,Ks];rw [show ((i.toNat:Nat):Int)=i by omega]
   have F:∀ l,BN f ((A9 (i+1).toNat).flatMap l)=BN (BN f ((A9 i.toNat).flatMap l)) (l i):=by
    intro l;rw [Tt,E,List.flatMap_append]; simp
   rw [F];generalize (A9 i.toNat).flatMap (fun k=>if (OV f k&&Mk { f with nodes:=f.nodes++[k] })=true then Jm n { f with nodes:=f.nodes++[k] } else [])=L;have j:=Tu r L;have o:(f.nodes.length:Int)<(f.p.Nodes.length:Int):=by omega
   have q:=d.kinds _ (AW (l:=f.p.Nodes) (i:=(f.nodes.length:Int)) (by omega) o);have u:=q.2.2 _ (AW z B);have key:((B9 (BN f L).nodes [i]).bind fun e=>
     (C3 (AM.mk (BN f L).p (BN f L).g (BN f L).is (BN f L).partial_ (BN f L).injective (BN f L).most e (BN f L).edges (BN f L).out)).bind fun t=>
     if t=true then
     (BA m (AM.mk (BN f L).p (BN f L).g (BN f L).is (BN f L).partial_ (BN f L).injective (BN f L).most e (BN f L).edges (BN f L).out)).bind fun b=>
     (slc b.nodes 0 (f.nodes.length:Int)).bind fun h=>
     some (AM.mk b.p b.g b.is b.partial_ b.injective b.most h b.edges b.out)
     else
     (slc e 0 (f.nodes.length:Int)).bind fun h=>
     some (AM.mk (BN f L).p (BN f L).g (BN f L).is (BN f L).partial_ (BN f L).injective (BN f L).most h (BN f L).edges (BN f L).out))=some (BN (BN f L) (if Mk { f with nodes:=f.nodes++[i] }=true then Jm n { f with nodes:=f.nodes++[i] } else [])):=by
    have G:B9 (BN f L).nodes [i]=some (f.nodes++[i]):=CS (by show f.nodes.length+1<=BY; unfold BY; omega);have C:slc (f.nodes++[i]) 0 (f.nodes.length:Int)=some f.nodes:=by
     rw [Mn (by omega) (by rw [d4]; omega),Int.toNat_natCast,List.take_left]
    have H:C3 { BN f L with nodes:=f.nodes++[i] }=some (Mk { f with nodes:=f.nodes++[i] }):=Xv (f:={ BN f L with nodes:=f.nodes++[i] }) ⟨d.pn,d.pe,d.ends,d.kinds,d.small⟩ (by show 0<(f.nodes++[i]).length; simp) (by show (f.nodes++[i]).length<=1000; rw [d4]; simp; omega);have D:=SK n { BN f L with nodes:=f.nodes++[i] } ⟨d.pn,d.pe,d.ends,d.kinds,d.small⟩ ⟨j.m0,j.m1,j.out⟩ y (by show (f.nodes++[i]).length+n=f.p.Nodes.length; rw [d4]; simp; omega) m (by show n+f.p.Edges.length+1<=m; omega);have I:Jm n { BN f L with nodes:=f.nodes++[i] }=Jm n { f with nodes:=f.nodes++[i] }:=Ul n { f with nodes:=f.nodes++[i] } _;rw [I] at D;rw [G,bs];show (C3 { BN f L with nodes:=f.nodes++[i] }).bind _=_;rw [H,bs];cases Mk { f with nodes:=f.nodes++[i] }
    ·rw [d2 (by decide),d2 (by decide),C,Ka j]; rfl
    ·rw [d1 rfl,d1 rfl];show (BA m { BN f L with nodes:=f.nodes++[i] }).bind _=_;rw [D,bs];have J:slc (BN { BN f L with nodes:=f.nodes++[i] } (Jm n { f with nodes:=f.nodes++[i] })).nodes 0 (f.nodes.length:Int)=some f.nodes:=C;rw [J]; rfl
   have K:IY (BN f L).partial_.Nodes (f.nodes.length:Int)=some (AB f.partial_.Nodes f.nodes.length):=VA (by omega) (by show (f.nodes.length:Int)<(f.partial_.Nodes.length:Int); rw [d.pn]; exact o);have M:AK (BN f L).p.Nodes (f.nodes.length:Int)=some (AB f.p.Nodes f.nodes.length):=AL (by omega) o;have hi:AK (BN f L).is (AB f.p.Nodes f.nodes.length)=some (AB f.is (AB f.p.Nodes f.nodes.length)):=AL q.1 q.2.1;have N:AK (AB f.is (AB f.p.Nodes f.nodes.length)) (AB f.g.Nodes i)=some (AB (AB f.is (AB f.p.Nodes f.nodes.length)) (AB f.g.Nodes i)):=AL u.1 u.2;have O:slices_Contains_int (BN f L).nodes i=some (f.nodes.any fun x=>decide (i=x)):=SE f.nodes i;have v:(BN f L).injective=f.injective:=rfl;have w:OV f i=((decide (AB f.partial_.Nodes f.nodes.length<0)||decide (AB f.partial_.Nodes f.nodes.length=i))&&AB (AB f.is (AB f.p.Nodes f.nodes.length)) (AB f.g.Nodes i)&&!(f.injective&&f.nodes.any fun x=>decide (i=x))):=rfl;rw [AL z B,bs,K,bs,M,bs,hi,bs,N,bs,O,key,v,w];generalize AB (AB f.is (AB f.p.Nodes f.nodes.length)) (AB f.g.Nodes i)=c2;have P:(decide (0<=AB f.partial_.Nodes f.nodes.length)&&!decide (AB f.partial_.Nodes f.nodes.length=i))=!(decide (AB f.partial_.Nodes f.nodes.length<0)||decide (AB f.partial_.Nodes f.nodes.length=i)):=by
    rw [Bool.not_or];congr 1;rw [←decide_not];exact decide_eq_decide.2 (by omega)
   rw [P];generalize (decide (AB f.partial_.Nodes f.nodes.length<0)||decide (AB f.partial_.Nodes f.nodes.length=i))=c1;generalize Mk { f with nodes:=f.nodes++[i] }=c5;generalize Jm n { f with nodes:=f.nodes++[i] }=A;cases c1
   ·simp only [Bool.false_and,Bool.false_eq_true,if_false,Ka j]; rfl
   ·cases c2
    ·simp only [Bool.and_false,Bool.false_and,Bool.false_eq_true,if_false,Ka j]; rfl
    ·cases f.injective
     ·rfl
     ·cases f.nodes.any fun x=>decide (i=x)
      ·rfl
      ·simp only [Bool.and_self,Bool.not_true,Bool.and_false,Bool.false_and,Bool.false_eq_true,if_false,Ka j]; rfl
theorem gf {f:AM} (a:Lj f) (b:S8 f) (c:f.edges=[]) (d:f.nodes=[]):GD f=some (BN f (Jm f.p.Nodes.length f)):=
 GJ (f.p.Nodes.length+f.p.Edges.length+1) fun m e=>SK _ f a b c (by rw [d]; simp) m e
end Go.Sf.Sc
namespace Go.Sf.Sc
open Go Go.Sf
theorem CI (n:Nat):(A9 n).length=n:=by simp [A9]
theorem E7 {n:Nat} {i:Int}:i∈A9 n↔0<=i∧i<n:=by
 unfold A9;rw [List.mem_map];constructor
 ·rintro ⟨k,a,rfl⟩;have:=List.mem_range.1 a;exact ⟨Int.natCast_nonneg k,Int.ofNat_lt.2 this⟩
 ·rintro ⟨b,c⟩;exact ⟨i.toNat,List.mem_range.2 (by omega),by show ((i.toNat:Nat):Int)=i; omega⟩
theorem Il {n:Nat} {α:Type} [Inhabited α] (F:Int->α) {i:Int} (a:0<=i) (b:i<n):AB ((A9 n).map F) i=F i:=by
 unfold AB A9;rw [List.map_map,List.getD_eq_getElem?_getD,List.getElem?_map,List.getElem?_range (by omega)];show F (Int.ofNat i.toNat)=F i;congr 1;show ((i.toNat:Nat):Int)=i;omega
theorem ID {i:Int} (a:0<=i):A9 (i+1).toNat=A9 i.toNat++[i]:=by
 rw [show (i+1).toNat=i.toNat+1 by omega,Ks,show ((i.toNat:Nat):Int)=i by omega]
def KM (t:AD) (a:Int):d0:=(A9 t.Nodes.length).map fun k=>JL t k a
def Jh (t:AD):List d0:=(A9 t.Nodes.length).map (KM t)
theorem dy {t:AD} (c:CC t) (h:Hx t) (hv:(BM t).2=0) {a:Int} (d:0<=a) (e:a<t.Nodes.length):IJ t a=some ((A9 t.Nodes.length).filter fun i=>JL t i a,0):=by
 have j:=h.nodes;unfold IJ;have g:JK t a=true:=by simp [JK,d,e]
 rw [TM c,bs,d2 (by simp [hv,g])];rw [EY (fun i=>(A9 i.toNat).filter fun i=>JL t i a) (by omega) (by rfl),bs,Int.toNat_natCast];intro i b f;rw [ar h b f,bs,ID b,List.filter_append];have k:((A9 i.toNat).filter fun i=>JL t i a).length<=i.toNat:=by
  have:=List.length_filter_le (fun i=>JL t i a) (A9 i.toNat)
  rwa [CI] at this
 by_cases hi:JL t i a=true
 ·rw [d1 hi,CS (by simp; unfold BY; omega),bs];simp [hi]
 ·rw [d2 hi];simp [hi]
theorem e9 {n:Nat} {l:Ne} (h:∀ x∈l,0<=x∧x<n):forA (fun (i:Int) (f:d0)=>
  (AK l i).bind fun a=>
  (AK f a).bind fun _=>
  some (CU f a true)) 0 (l.length:Int) (List.replicate n false)=some ((A9 n).map fun k=>l.any fun x=>decide (x=k)):=by
 rw [EY (fun j=>(A9 n).map fun k=>(l.take j.toNat).any fun x=>decide (x=k)) (by omega) (by
  refine List.ext_getElem (by simp [CI]) (fun j c p=>by simp))]
 ·rw [Int.toNat_natCast,List.take_length]
 ·intro j d c;have g:=h _ (AW d c);rw [AL d c,bs,AL g.1 (by rw [d7,CI]; exact g.2),bs,F1 d c];congr 1;unfold CU;refine List.ext_getElem (by simp) (fun k q m=>?_);have o:k<n:=by simpa [CI] using m
  rw [List.getElem_set];have e:(A9 n)[k]'(by rw [CI]; exact o)=(k:Int):=by simp [A9]
  simp only [List.getElem_map,e,List.any_append,List.any_cons,List.any_nil,Bool.or_false];by_cases b:(AB l j).toNat=k
  ·rw [d1 b,decide_eq_true (show AB l j=(k:Int) by omega),Bool.or_true]
  ·rw [d2 b,decide_eq_false (show ¬ AB l j=(k:Int) by omega),Bool.or_false]
theorem cU {t:AD} (g:CC t) (h:Hx t) (hv:(BM t).2=0):G3 t=some (Jh t):=by
 have q:=h.nodes;unfold G3;rw [EY (fun i=>(A9 i.toNat).map (KM t)) (by omega) (by rfl),bs,Int.toNat_natCast]
 ·rfl
 ·intro i f m;have p:Ls (t.Nodes.length:Int) false=some (List.replicate t.Nodes.length false):=by
   unfold Ls;rw [d1 (by omega),Int.toNat_natCast]
  rw [p,bs,dy g h hv f m,bs];have:=e9 (n:=t.Nodes.length) (l:=(A9 t.Nodes.length).filter fun k=>JL t k i) (fun x b=>E7.1 (List.mem_filter.1 b).1);show (forA (fun (j:Int) (d:d0)=>
   (AK ((A9 t.Nodes.length).filter fun k=>JL t k i) j).bind fun a=>
   (AK d a).bind fun _=>
   some (CU d a true)) 0 (((A9 t.Nodes.length).filter fun k=>JL t k i).length:Int) (List.replicate t.Nodes.length false)).bind _=_
  rw [this,bs,CS (by rw [d7,CI]; simp; unfold BY; omega),bs,ID f,List.map_append];congr 2;simp only [List.map_cons,List.map_nil];congr 1;unfold KM;refine List.map_congr_left (fun k c=>?_);have c:=E7.1 c;rw [Bool.eq_iff_iff,List.any_eq_true];constructor
  ·rintro ⟨x,b,e⟩;rw [zzX] at e;subst e;exact (List.mem_filter.1 b).2
  ·intro o;exact ⟨k,List.mem_filter.2 ⟨E7.2 c,o⟩,by simp⟩
end Go.Sf.Sc
namespace Go.Sf.Sc
open Go Go.Sf
def GW:Nat->AM->List Morphism
 | 0,f=>EW f.p.Edges.length f
 | n+1,f=>(A9 f.g.Nodes.length).flatMap fun k=>if OV f k=true then GW n { f with nodes:=f.nodes++[k] } else []
def XP (f:AM) (i:Int):Prop:=0<=i∧i<f.p.Edges.length∧0<=(AB f.p.Edges i).From∧(AB f.p.Edges i).From<f.nodes.length∧0<=(AB f.p.Edges i).To∧(AB f.p.Edges i).To<f.nodes.length∧∀ k:Int,0<=k->k<f.g.Edges.length->KS f i k=false
theorem Pt (f:AM) (i k:Int):KS f i k=((decide (AB f.partial_.Edges i<0)||decide (AB f.partial_.Edges i=k))&&decide (AB f.g.Edges k=⟨(AB f.p.Edges i).Type',AB f.nodes (AB f.p.Edges i).From,AB f.nodes (AB f.p.Edges i).To⟩)):=rfl
theorem Qa {α:Type} [Inhabited α] (l:List α) (x:α) {i:Int} (a:0<=i) (b:i<l.length):AB (l++[x]) i=AB l i:=by
 unfold AB;rw [List.getD_eq_getElem?_getD,List.getD_eq_getElem?_getD,List.getElem?_append_left (by omega)]
theorem Ym:∀ (n:Nat) (f:AM) (i:Int),XP f i->(f.edges.length:Int)<=i->i<f.edges.length+n->EW n f=[]
 | 0,f,i,_,d,e=>by omega
 | n+1,f,i,b,d,e=>by
  rw [EW];refine List.flatMap_eq_nil_iff.2 (fun k a=>?_);have a:=E7.1 a;by_cases c:(f.edges.length:Int)=i
  ·have:OU f k=false:=by
    unfold OU;rw [c,b.2.2.2.2.2.2 k a.1 a.2]; rfl
   rw [d2 (by rw [this]; decide)]
  ·split
   ·exact Ym n { f with edges:=f.edges++[k] } i b (by show ((f.edges++[k]).length:Int)<=i; rw [d4]; simp; omega) (by show i<((f.edges++[k]).length:Int)+n; rw [d4]; simp; omega)
   ·rfl
theorem Uw:∀ (n:Nat) (f:AM) (i:Int),f.edges=[]->XP f i->GW n f=[]
 | 0,f,i,b,a=>by
  rw [GW];exact Ym _ f i a (by rw [b]; simpa using a.1) (by rw [b]; simpa using a.2.1)
 | n+1,f,i,b,a=>by
  rw [GW];refine List.flatMap_eq_nil_iff.2 (fun k s=>?_);split
  ·refine Uw n { f with nodes:=f.nodes++[k] } i b ?_;obtain ⟨l,m,c,o,d,q,r⟩:=a;have t:((f.nodes++[k]).length:Int)=f.nodes.length+1:=by rw [d4]; simp
   refine ⟨l,m,c,?_,d,?_,fun j e h=>?_⟩
   ·show (AB f.p.Edges i).From<((f.nodes++[k]).length:Int); omega
   ·show (AB f.p.Edges i).To<((f.nodes++[k]).length:Int); omega
   ·have:=r j e h;rw [Pt] at this ⊢;show ((decide (AB f.partial_.Edges i<0)||decide (AB f.partial_.Edges i=j))&&decide (AB f.g.Edges j=⟨(AB f.p.Edges i).Type',AB (f.nodes++[k]) (AB f.p.Edges i).From,AB (f.nodes++[k]) (AB f.p.Edges i).To⟩))=false;rw [Qa _ _ c o,Qa _ _ d q];exact this
  ·rfl
theorem aw {f:AM} (d:Lj f) (h:Mk f=false):∃ i,XP f i:=by
 unfold Mk at h;rw [Bool.not_eq_false',H6] at h;obtain ⟨i,b,c,h⟩:=h;rw [zzZ,zzX,Bool.not_eq_true',EK] at h;have a:=d.ends _ (AW b c);exact ⟨i,b,c,a.1,by omega,a.2.2.1,by omega,h.2⟩
theorem Yf:∀ (n:Nat) (f:AM),Lj f->f.edges=[]->Jm n f=GW n f
 | 0,_,_,_=>rfl
 | n+1,f,b,c=>by
  rw [Jm,GW];refine congrArg (fun F=>(A9 f.g.Nodes.length).flatMap F) (funext fun k=>?_);have a:Lj { f with nodes:=f.nodes++[k] }:=⟨b.pn,b.pe,b.ends,b.kinds,b.small⟩;cases OV f k
  ·rfl
  ·cases d:Mk { f with nodes:=f.nodes++[k] }
   ·obtain ⟨i,e⟩:=aw a d;rw [Uw n { f with nodes:=f.nodes++[k] } i c e]; rfl
   ·simp only [Bool.and_self,if_true];exact Yf n _ a c
end Go.Sf.Sc
namespace Go.Sf.Sc
open Go Go.Sf
theorem S6 {σ ρ:Type} {f:σ × Int->Option (C7 (σ × Int) ρ)} (g:Int->σ) {a b:Int} {s:σ} (c:a<=b) (d:s=g a) (h:∀ i,a<=i->i<b->f (g i,i)=some (.next (g (i+1),i+1))) (e:f (g b,b)=some (.brk (g b,b))):If f (s,a)=some (.inl (g b,b)):=by
 subst d;have key:∀ (n:Nat) (i:Int),a<=i->i+n=b->Mb f (g i,i) (.inl (g b,b)):=by
  intro n
  induction n with
  | zero=>
   intro i _ hi;have:i=b:=by omega
   subst this;exact .brk e
  | succ n k=>
   intro i j l;exact .next (h i j (by omega)) (k (i+1) (by omega) (by omega))
 exact (key (b - a).toNat a (Int.le_refl _) (by omega)).eq
def Im (s:AS) (nodes edges:Ne):AM:=⟨s.p,s.g,Jh s.t,s.partial_,s.injective,s.most+1,nodes,edges,s.found⟩
def DD (s:AS) (l:List Morphism):AS:={ s with found:=(s.found++l).take (s.most+1).toNat }
structure R5 (s:AS):Prop where
 m0:0<=s.most
 m1:s.most<=9999
 out:(s.found.length:Int)<=s.most+1
theorem NB {s:AS} (h:R5 s):DD s []=s:=by
 unfold DD;rw [List.append_nil,List.take_of_length_le (by have:=h.out; have:=h.m0; omega)]
theorem Sz {s:AS} (h:(s.found.length:Int)=s.most+1) (l:List Morphism):DD s l=s:=by
 unfold DD;rw [List.take_append_of_le_length (by omega),List.take_of_length_le (by omega)]
theorem S0 {s:AS} (h:R5 s) (l:List Morphism):R5 (DD s l):=by
 refine ⟨h.m0,h.m1,?_⟩;have:=h.m0;show (((s.found++l).take (s.most+1).toNat).length:Int)<=s.most+1;rw [d5]; omega
theorem Rb (s:AS) (a b:List Morphism):DD (DD s a) b=DD s (a++b):=by
 show ({ s with found:=(((s.found++a).take (s.most+1).toNat)++b).take (s.most+1).toNat }:AS)=_;rw [UL,ea]; rfl
theorem ZO (s:AS) {l:Ne} (j:l.length<=1000) (n:Int):DZ s l n=some (s.injective&&l.any fun x=>decide (n=x)):=by
 unfold DZ;cases s.injective
 ·rw [RO (fun _=>false) true (a:=0) (b:=0) (Int.le_refl _) (fun i c d=>by omega) (by rw [d2 (by simp)])];rfl
 ·rw [RO (fun i=>decide (AB l i=n)) true (a:=0) (b:=l.length) (by omega) (fun i c d=>by
   rw [d1 (by simp; exact d),AL c d,bs,BD (by omega) (by omega),Kc]) (by rw [d2 (by simp)])]
  have e:anyR (fun i=>decide (AB l i=n)) 0 l.length=l.any fun x=>decide (n=x):=by
   rw [Bool.eq_iff_iff,H6,List.any_eq_true];constructor
   ·rintro ⟨i,f,c,h⟩;exact ⟨_,AW f c,by simpa [eq_comm] using h⟩
   ·rintro ⟨x,g,h⟩;obtain ⟨i,f,c,rfl⟩:=EB g;exact ⟨i,f,c,by simpa [eq_comm] using h⟩
  rw [e,Bool.true_and];cases l.any fun x=>decide (n=x) <;> rfl
theorem UD:∀ (n:Nat) (s:AS) (nodes l:Ne),Lj (Im s [] [])->R5 s->nodes.length=s.p.Nodes.length->l.length+n=s.p.Edges.length->∀ m,n+1<=m->C8 m s nodes l=some (DD s (EW n (Im s nodes l)))
 | n,s,nodes,l,e,t,y,z,m,B=>by
  obtain ⟨m,rfl⟩:∃ k,m=k+1:=⟨m - 1,by omega⟩;have u:=e.small;have R:s.p.Nodes.length<=1000:=u.1;have S:s.p.Edges.length<=1000:=u.2.1;have T:s.g.Nodes.length<=1000:=u.2.2.1;have U:s.g.Edges.length<=1000:=u.2.2.2;have V:=t.m0;have W:=t.m1;have X:=t.out;rw [C8];by_cases f:(s.found.length:Int)=s.most+1
  ·rw [d1 (by simp; omega),Sz f]
  rw [d2 (by simp; omega)]
  match n,z,B with
  | 0,z,B=>
   rw [d1 (by simp; omega),JC (by unfold BY; omega),bs,JC (by unfold BY; omega),bs,CS (by simp; unfold BY; omega),bs];unfold DD;rw [List.take_of_length_le (by simp [EW]; omega)]; rfl
  | n+1,z,B=>
   have h:(0:Int)<=l.length:=by omega
   have r:(l.length:Int)<s.p.Edges.length:=by omega
   have d:=e.ends _ (AW (l:=s.p.Edges) h r);have H:(AB s.p.Edges l.length).From<nodes.length:=by rw [y]; exact d.2.1
   have I:(AB s.p.Edges l.length).To<nodes.length:=by rw [y]; exact d.2.2.2
   have v:(l.length:Int)<s.partial_.Edges.length:=by
    have:s.partial_.Edges.length=s.p.Edges.length:=e.pe;omega
   rw [d2 (by simp; omega),AL h r,bs];rw [S6 (fun i=>DD s ((A9 i.toNat).flatMap fun k=>if OU (Im s nodes l) k=true then EW n (Im s nodes (l++[k])) else [])) (a:=0) (b:=(s.g.Edges.length:Int)) (s:=s) (by omega) (NB t).symm (fun i C D=>by
    have J:∀ F,DD s ((A9 (i+1).toNat).flatMap F)=DD (DD s ((A9 i.toNat).flatMap F)) (F i):=by
     intro F;rw [Rb,ID C,List.flatMap_append]; simp
    rw [J];generalize (A9 i.toNat).flatMap (fun k=>if OU (Im s nodes l) k=true then EW n (Im s nodes (l++[k])) else [])=L;have E:=S0 t L;rw [d1 (by rw [zzX]; exact D)];have K:AK (DD s L).g.Edges i=some (AB s.g.Edges i):=AL C D;have M:AK (DD s L).partial_.Edges (l.length:Int)=some (AB s.partial_.Edges l.length):=AL h v;have N:DZ (DD s L) l i=some (s.injective&&l.any fun x=>decide (i=x)):=ZO (DD s L) (by omega) i;have key:((B9 [] l).bind fun j=>
      (B9 j [i]).bind fun o=>
      (C8 m (DD s L) nodes o).bind fun q=>
      some (.next (q,A6 (i+1)):C7 (AS × Int) AS))=some (.next (DD (DD s L) (EW n (Im s nodes (l++[i]))),i+1)):=by
     have G:=UD n (DD s L) nodes (l++[i]) ⟨e.pn,e.pe,e.ends,e.kinds,e.small⟩ E y (by show (l++[i]).length+n=s.p.Edges.length; rw [d4]; simp; omega) m (by omega);have O:EW n (Im (DD s L) nodes (l++[i]))=EW n (Im s nodes (l++[i])):=Nt n (Im s nodes (l++[i])) _;rw [O] at G;rw [JC (by unfold BY; omega),bs,CS (by simp; unfold BY; omega),bs,G,bs,BD (by omega) (by omega)]
    rw [K,bs,M,bs,N,key];simp only [bs];rw [AL d.1 H,AL d.2.2.1 I,BD (n:=i+1) (by omega) (by omega)];simp only [bs];have w:OU (Im s nodes l) i=(((decide (AB s.partial_.Edges l.length<0)||decide (AB s.partial_.Edges l.length=i))&&decide (AB s.g.Edges i=⟨(AB s.p.Edges l.length).Type',AB nodes (AB s.p.Edges l.length).From,AB nodes (AB s.p.Edges l.length).To⟩))&&!(s.injective&&l.any fun x=>decide (i=x))):=rfl;have P:decide (AB s.g.Edges i=⟨(AB s.p.Edges l.length).Type',AB nodes (AB s.p.Edges l.length).From,AB nodes (AB s.p.Edges l.length).To⟩)=(decide ((AB s.p.Edges l.length).Type'=(AB s.g.Edges i).Type')&&decide ((AB s.g.Edges i).From=AB nodes (AB s.p.Edges l.length).From)&&decide ((AB s.g.Edges i).To=AB nodes (AB s.p.Edges l.length).To)):=by
     rw [Bool.eq_iff_iff];simp only [zzZ,zzX];generalize AB s.g.Edges i=x;obtain ⟨Y,Z,x3⟩:=x;simp only [DG.mk.injEq];constructor
     ·rintro ⟨a,b,c⟩; exact ⟨⟨a.symm,b⟩,c⟩
     ·rintro ⟨⟨a,b⟩,c⟩; exact ⟨a.symm,b,c⟩
    have Q:(decide (AB s.partial_.Edges l.length<0)||decide (AB s.partial_.Edges l.length=i))=!(decide (0<=AB s.partial_.Edges l.length)&&!decide (AB s.partial_.Edges l.length=i)):=by
     rw [Bool.not_and,Bool.not_not];congr 1;rw [←decide_not];exact decide_eq_decide.2 (by omega)
    rw [w,P,Q];generalize EW n (Im s nodes (l++[i]))=A;generalize decide (0<=AB s.partial_.Edges l.length)=c1;generalize decide (AB s.partial_.Edges l.length=i)=c2;generalize decide ((AB s.p.Edges l.length).Type'=(AB s.g.Edges i).Type')=c3;generalize decide ((AB s.g.Edges i).From=AB nodes (AB s.p.Edges l.length).From)=c4;generalize decide ((AB s.g.Edges i).To=AB nodes (AB s.p.Edges l.length).To)=c5;generalize (s.injective&&l.any fun x=>decide (i=x))=c6;cases c1 <;> cases c2 <;> cases c3 <;> cases c4 <;> cases c5 <;> cases c6 <;> first | rfl | (simp only [Bool.and_self,Bool.and_true,Bool.true_and,Bool.and_false,Bool.false_and,Bool.not_true,Bool.not_false,Bool.or_true,Bool.or_false,Bool.false_or,Bool.true_or,if_true,Bool.false_eq_true,if_false,NB E,bs]; try rfl)) (by rw [d2 (by simp [DD])]),EI,Int.toNat_natCast,EW]
   rfl
end Go.Sf.Sc
namespace Go.Sf.Sc
open Go Go.Sf
def Ob (s:AS) (l:Ne) (i k:Int):Bool:=decide (AB s.g.Edges k=⟨(AB s.p.Edges i).Type',AB l (AB s.p.Edges i).From,AB l (AB s.p.Edges i).To⟩)
def PG (s:AS) (l:Ne) (i:Int):Bool:=(decide ((AB s.p.Edges i).From<l.length)&&decide ((AB s.p.Edges i).To<l.length))&&!(A9 s.g.Edges.length).any (Ob s l i)
theorem gx {s:AS} {l:Ne} (n:Lj (Im s [] [])):GV s l=some (!anyR (PG s l) 0 s.p.Edges.length):=by
 unfold GV;rw [C4 (PG s l) false]
 ·cases anyR (PG s l) 0 s.p.Edges.length <;> rfl
 ·intro i f h _;have m:=n.ends _ (AW (l:=s.p.Edges) f h);rw [AL f h,bs];unfold PG;by_cases d:(AB s.p.Edges i).From<l.length
  ·by_cases e:(AB s.p.Edges i).To<l.length
   ·rw [d2 (by simp; omega),EY (fun k=>(A9 k.toNat).any (Ob s l i)) (by omega) (by rfl),bs,Int.toNat_natCast,decide_eq_true d,decide_eq_true e]
    ·cases (A9 s.g.Edges.length).any (Ob s l i) <;> rfl
    ·intro k j o;rw [AL j o,bs,ID j,List.any_append];have q:Ob s l i k=(decide ((AB s.p.Edges i).Type'=(AB s.g.Edges k).Type')&&decide ((AB s.g.Edges k).From=AB l (AB s.p.Edges i).From)&&decide ((AB s.g.Edges k).To=AB l (AB s.p.Edges i).To)):=by
      unfold Ob;rw [Bool.eq_iff_iff];simp only [zzZ,zzX];generalize AB s.g.Edges k=x;obtain ⟨r,t,u⟩:=x;simp only [DG.mk.injEq];constructor
      ·rintro ⟨a,b,c⟩; exact ⟨⟨a.symm,b⟩,c⟩
      ·rintro ⟨⟨a,b⟩,c⟩; exact ⟨a.symm,b,c⟩
     rw [AL m.1 d,AL m.2.2.1 e];simp only [List.any_cons,List.any_nil,Bool.or_false,bs];rw [q];generalize (A9 k.toNat).any (Ob s l i)=c1;generalize decide ((AB s.p.Edges i).Type'=(AB s.g.Edges k).Type')=c3;generalize decide ((AB s.g.Edges k).From=AB l (AB s.p.Edges i).From)=c4;generalize decide ((AB s.g.Edges k).To=AB l (AB s.p.Edges i).To)=c5;cases c1 <;> cases c3 <;> cases c4 <;> cases c5 <;> rfl
   ·rw [d1 (by simp; omega),decide_eq_false e]; simp
  ·rw [d1 (by simp; omega),decide_eq_false d]; simp
theorem gv {s:AS} {l:Ne} (d:Lj (Im s [] [])) (h:anyR (PG s l) 0 s.p.Edges.length=true):∃ i,XP (Im s l []) i:=by
 rw [H6] at h;obtain ⟨i,b,c,h⟩:=h;unfold PG at h;rw [zzZ,zzZ,zzX,zzX,Bool.not_eq_true',List.any_eq_false] at h;have a:=d.ends _ (AW (l:=s.p.Edges) b c);refine ⟨i,b,c,a.1,h.1.1,a.2.2.1,h.1.2,fun k f g=>?_⟩;have:=h.2 k (E7.2 ⟨f,g⟩);have e:Ob s l i k=false:=by rw [←Bool.not_eq_true]; exact this
 rw [Pt];show ((decide (AB s.partial_.Edges i<0)||decide (AB s.partial_.Edges i=k))&&Ob s l i k)=false;rw [e,Bool.and_false]
end Go.Sf.Sc
namespace Go.Sf.Sc
open Go Go.Sf
theorem Um:∀ (n:Nat) (f:AM) (o:List Morphism),GW n (Pj f o)=GW n f
 | 0,f,o=>Nt _ f o
 | n+1,f,o=>by
  rw [GW,GW];refine congrArg (fun F=>(A9 f.g.Nodes.length).flatMap F) (funext fun k=>?_);have:=Um n { f with nodes:=f.nodes++[k] } o;show (if OV f k=true then GW n (Pj { f with nodes:=f.nodes++[k] } o) else [])=_;rw [this]
theorem UE:∀ (n:Nat) (s:AS) (l:Ne),Hx s.t->Lj (Im s [] [])->R5 s->l.length+n=s.p.Nodes.length->∀ m,n+1<=m->C9 m s l=some (DD s (GW n (Im s l [])))
 | n,s,l,O,c,r,J,m,z=>by
  obtain ⟨m,rfl⟩:∃ k,m=k+1:=⟨m - 1,by omega⟩;have K:=c.small;have Z:s.p.Nodes.length<=1000:=K.1;have s3:s.g.Nodes.length<=1000:=K.2.2.1;have h0:=r.m0;have h1:=r.m1;have h2:=r.out;rw [C9];by_cases j:(s.found.length:Int)=s.most+1
  ·rw [d1 (by simp; omega),Sz j]; rfl
  rw [d2 (by simp; omega),gx c];cases P:anyR (PG s l) 0 s.p.Edges.length
  case true=>
   obtain ⟨i,hi⟩:=gv c P;rw [Uw n (Im s l []) i rfl hi,NB r]; rfl
  simp only [bs,Bool.not_false,Bool.not_true,Bool.false_eq_true,if_false]
  match n,J,z with
  | 0,J,z=>
   rw [d1 (by simp; omega),Option.bind_fun_some,GW];exact GJ (s.p.Edges.length+1) fun m z=>UD s.p.Edges.length s l [] c r (by omega) (by simp) m (by omega)
  | n+1,J,z=>
   have w:(l.length:Int)<s.p.Nodes.length:=by omega
   have o:(0:Int)<=l.length:=by omega
   have E:(l.length:Int)<s.partial_.Nodes.length:=by
    have:s.partial_.Nodes.length=s.p.Nodes.length:=c.pn;omega
   have Q:(Jh s.t).length=s.t.Nodes.length:=by unfold Jh; rw [d7,CI]
   have d:=c.kinds _ (AW (l:=s.p.Nodes) o w);have G:AB s.p.Nodes l.length<s.t.Nodes.length:=by rw [←Q]; exact d.2.1
   have f:AB (Jh s.t) (AB s.p.Nodes l.length)=KM s.t (AB s.p.Nodes l.length):=Il (KM s.t) d.1 G;rw [d2 (by simp; omega)];rw [S6 (fun i=>DD s ((A9 i.toNat).flatMap fun k=>if OV (Im s l []) k=true then GW n (Im s (l++[k]) []) else [])) (a:=0) (b:=(s.g.Nodes.length:Int)) (s:=s) (by omega) (NB r).symm (fun i B C=>by
    have R:∀ F,DD s ((A9 (i+1).toNat).flatMap F)=DD (DD s ((A9 i.toNat).flatMap F)) (F i):=by
     intro F;rw [Rb,ID B,List.flatMap_append]; simp
    rw [R];generalize (A9 i.toNat).flatMap (fun k=>if OV (Im s l []) k=true then GW n (Im s (l++[k]) []) else [])=L;have M:=S0 r L;rw [d1 (by rw [zzX]; exact C)];have q:=d.2.2 _ (AW (l:=s.g.Nodes) B C);have y:AB s.g.Nodes i<s.t.Nodes.length:=by
     have h:=q.2;have e:AB (Im s [] []).is (AB s.p.Nodes l.length)=KM s.t (AB s.p.Nodes l.length):=f;rw [e] at h;unfold KM at h
     rwa [d7,CI] at h
    have H:Kk (DD s L).t (AB s.g.Nodes i) (AB s.p.Nodes l.length)=some (JL s.t (AB s.g.Nodes i) (AB s.p.Nodes l.length)):=eO O q.1 y d.1;have S:AK (DD s L).g.Nodes i=some (AB s.g.Nodes i):=AL B C;have T:AK (DD s L).partial_.Nodes (l.length:Int)=some (AB s.partial_.Nodes l.length):=AL o E;have U:DZ (DD s L) l i=some (s.injective&&l.any fun x=>decide (i=x)):=ZO (DD s L) (by omega) i;have V:AK (DD s L).p.Nodes (l.length:Int)=some (AB s.p.Nodes l.length):=AL o w;have key:((B9 [] l).bind fun D=>
      (B9 D [i]).bind fun u=>
      (C9 m (DD s L) u).bind fun v=>
      some (.next (v,A6 (i+1)):C7 (AS × Int) AS))=some (.next (DD (DD s L) (GW n (Im s (l++[i]) [])),i+1)):=by
     have N:=UE n (DD s L) (l++[i]) O ⟨c.pn,c.pe,c.ends,c.kinds,c.small⟩ M (by show (l++[i]).length+n=s.p.Nodes.length; rw [d4]; simp; omega) m (by omega);have W:GW n (Im (DD s L) (l++[i]) [])=GW n (Im s (l++[i]) []):=Um n (Im s (l++[i]) []) _;rw [W] at N;rw [JC (by unfold BY; omega),bs,CS (by simp; unfold BY; omega),bs,N,bs,BD (by omega) (by omega)]
    rw [T,bs,U,S,V,key];simp only [bs];rw [H,BD (n:=i+1) (by omega) (by omega)];simp only [bs];have I:OV (Im s l []) i=((decide (AB s.partial_.Nodes l.length<0)||decide (AB s.partial_.Nodes l.length=i))&&AB (AB (Jh s.t) (AB s.p.Nodes l.length)) (AB s.g.Nodes i)&&!(s.injective&&l.any fun x=>decide (i=x))):=rfl;have X:AB (AB (Jh s.t) (AB s.p.Nodes l.length)) (AB s.g.Nodes i)=JL s.t (AB s.g.Nodes i) (AB s.p.Nodes l.length):=by
     rw [f];exact Il (fun k=>JL s.t k (AB s.p.Nodes l.length)) q.1 y
    have Y:(decide (AB s.partial_.Nodes l.length<0)||decide (AB s.partial_.Nodes l.length=i))=!(decide (0<=AB s.partial_.Nodes l.length)&&!decide (AB s.partial_.Nodes l.length=i)):=by
     rw [Bool.not_and,Bool.not_not];congr 1;rw [←decide_not];exact decide_eq_decide.2 (by omega)
    rw [I,X,Y];generalize GW n (Im s (l++[i]) [])=A;generalize decide (0<=AB s.partial_.Nodes l.length)=c1;generalize decide (AB s.partial_.Nodes l.length=i)=c2;generalize JL s.t (AB s.g.Nodes i) (AB s.p.Nodes l.length)=c3;generalize (s.injective&&l.any fun x=>decide (i=x))=c6;cases c1 <;> cases c2 <;> cases c3 <;> cases c6 <;> first | rfl | (simp only [Bool.and_self,Bool.and_true,Bool.true_and,Bool.and_false,Bool.false_and,Bool.not_true,Bool.not_false,Bool.or_true,Bool.or_false,if_true,Bool.false_eq_true,if_false,NB M,bs]; try rfl)) (by rw [d2 (by simp [DD])]),EI,Int.toNat_natCast,GW]
   rfl
end Go.Sf.Sc
namespace Go.Sf.Sc
open Go Go.Sf
def FF (t:AD) (p g:Graph) (pa:Morphism) (inj:Bool):AM:=⟨p,g,Jh t,pa,inj,5001,[],[],[]⟩
def LB (t:AD) (p g:Graph) (pa:Morphism) (inj:Bool):List Morphism:=(GW p.Nodes.length (FF t p g pa inj)).take 5001
theorem eA {t:AD} {p g:Graph} {a:Morphism} {inj:Bool} (c:CC t) (hv:(BM t).2=0) (b:Lj (FF t p g a inj)):Ht t p g a inj 5001=some (LB t p g a inj):=by
 unfold Ht;rw [cU c (Ik hv) hv,bs];have h:=gf (f:=FF t p g a inj) b ⟨by show (0:Int)<=5001; omega,by show (5001:Int)<=10000; omega,by show ((0:Nat):Int)<=5001; omega⟩ rfl rfl;rw [Yf _ _ b rfl] at h;have e:AM.mk p g (Jh t) a inj 5001 [] [] []=FF t p g a inj:=rfl;rw [e,h]; rfl
theorem oK {t:AD} {p g:Graph} {a:Morphism} {inj:Bool} (hv:(BM t).2=0) (b:Lj (FF t p g a inj)):M9 t p g a inj 5000=some (LB t p g a inj):=by
 unfold M9;have h:JT ⟨t,p,g,a,inj,5000,[]⟩ []=some (DD ⟨t,p,g,a,inj,5000,[]⟩ (GW p.Nodes.length (FF t p g a inj))):=
  GJ (p.Nodes.length+1) fun m c=>UE p.Nodes.length ⟨t,p,g,a,inj,5000,[]⟩ [] (Ik hv) b ⟨by show (0:Int)<=5000; omega,by show (5000:Int)<=9999; omega,by show ((0:Nat):Int)<=5000+1; omega⟩ (by show 0+p.Nodes.length=p.Nodes.length; omega) m c
 rw [h]; rfl
end Go.Sf.Sc
namespace Go.Sf.Sc
open Go Go.Sf
def Nu (n k:Int):Bool:=decide (k < -1)||decide (n<=k)
def Mv (l:Ne) (n:Int):Int:=if l.any (Nu n)=true then 6 else 0
theorem ZB (l:Ne) (n:Int):HT l n=some (Mv l n):=by
 unfold HT Mv;rw [show (fun b=>LX b n)=(fun b=>some (Nu n b)) from rfl,Us (p:=Nu n) (fun a _=>rfl),bs];cases l.any (Nu n) <;> rfl
theorem Vf {l:Ne} {c:Int} (n:Int) (h:(l.length:Int)=c):Jd l c n=some (Mv l n):=by
 unfold Jd Mv;rw [d2 (by simp [h]),C4 (fun i=>Nu n (AB l i)) 6]
 ·have e:anyR (fun i=>Nu n (AB l i)) 0 l.length=l.any (Nu n):=by
   rw [Bool.eq_iff_iff,H6,List.any_eq_true];constructor
   ·rintro ⟨i,a,b,h⟩;exact ⟨_,AW a b,h⟩
   ·rintro ⟨x,d,h⟩;obtain ⟨i,a,b,rfl⟩:=EB d;exact ⟨i,a,b,h⟩
  rw [e];cases l.any (Nu n) <;> rfl
 ·intro i a b _;rw [AL a b,bs,bs];unfold Nu;cases decide (AB l i < -1) <;> cases decide (n<=AB l i) <;> rfl
end Go.Sf.Sc
namespace Go.Sf.Sc
open Go Go.Sf
theorem Va (t:AD) (g:Graph):F7 t g=some (EU t g):=by
 unfold F7 EU;rw [show (fun b=>KP b t)=(fun b=>some (decide ((t.Nodes.length:Int)<=b))) from rfl,Us (p:=fun n=>decide ((t.Nodes.length:Int)<=n)) (fun a _=>rfl),bs,
  show (fun b=>KQ b t)=(fun b=>some (decide ((t.Edges.length:Int)<=b.Type'))) from rfl,Wd (p:=fun e=>decide ((t.Edges.length:Int)<=e.Type')) (fun a _=>rfl),bs]
 cases g.Nodes.any fun n=>decide ((t.Nodes.length:Int)<=n) <;> rfl
def GI (t:AD) (p g:Graph):Int:=if (BM t).2≠0 then (BM t).2 else if CR p≠0 then CR p else if CR g≠0 then CR g else if (EU t p&&EU t g)=true then 0 else 13
theorem W4 {t:AD} (e:CC t) (p g:Graph):G4 t p g=some (GI t p g):=by
 unfold G4 GI;rw [RK e,bs];refine JJ fun _=>?_;have h:forR (ρ:=Int) (fun (f:Int) (_:Unit)=>
   (AK [p,g] f).bind fun d=>
   (EM d).bind fun c=>
   if (!decide (c=0))=true then
   some (.ret c)
   else
   some (.next ())) 0 ([p,g].length:Int) ()=some (if CR p≠0 then .inr (CR p) else if CR g≠0 then .inr (CR g) else .inl ()):=by
  show forGo _ 2 0 ()=_;rw [HN,show AK [p,g] 0=some p from rfl,bs,Nh,bs];by_cases a:CR p=0
  ·rw [d2 (by simp [a]),d2 (by simp [a])];show forGo _ 1 (0+1) ()=_;rw [HN,show AK [p,g] (0+1)=some g from rfl,bs,Nh,bs];by_cases b:CR g=0
   ·rw [d2 (by simp [b]),d2 (by simp [b])]; rfl
   ·rw [d1 (by simp [b]),d1 b]
  ·rw [d1 (by simp [a]),d1 a]
 rw [h];by_cases a:CR p=0
 ·by_cases b:CR g=0
  ·simp only [a,b,ne_eq,not_true_eq_false,if_false,EI];rw [Va,Va,bs];cases EU t p <;> cases EU t g <;> rfl
  ·simp only [a,b,ne_eq,not_true_eq_false,not_false_eq_true,if_false,if_true,UM]
 ·simp only [a,ne_eq,not_false_eq_true,if_true,UM]
theorem Vh {t:AD} (a:CC t) (p g:Graph):KF t p g=some (GI t p g):=by
 unfold KF GI;rw [TN a,bs];refine JJ fun _=>?_;rw [Nj,bs];refine JJ fun b=>?_;rw [Nj,bs];refine JJ fun c=>?_;rw [TO (FA b),bs,TO (FA c)];cases EU t p <;> cases EU t g <;> rfl
end Go.Sf.Sc
namespace Go.Sf.Sc
open Go Go.Sf
theorem U1 {t:AD} {p g:Graph} {f:Morphism} {inj:Bool} (h:GI t p g=0) (j:f.Nodes.length=p.Nodes.length) (l:f.Edges.length=p.Edges.length):(BM t).2=0∧Lj (FF t p g f inj):=by
 unfold GI at h;by_cases hv:(BM t).2=0
 ·rw [d2 (by simp [hv])] at h;by_cases c:CR p=0
  ·rw [d2 (by simp [c])] at h;by_cases d:CR g=0
   ·rw [d2 (by simp [d])] at h;by_cases a:(EU t p&&EU t g)=true
    ·rw [zzZ] at a;have op:=FA c;have i:=FA d;have tp:=Mp op a.1;have q:=Mp i a.2;have r:(Jh t).length=t.Nodes.length:=by unfold Jh; rw [d7,CI]
     refine ⟨hv,j,l,fun e m=>?_,fun n o=>?_,Nat.le_trans op.nodes (by omega),Nat.le_trans op.edges (by omega),Nat.le_trans i.nodes (by omega),Nat.le_trans i.edges (by omega)⟩
     ·have:=op.fit e m;exact ⟨this.2.1.1,this.2.1.2,this.2.2.1,this.2.2.2⟩
     ·have:=tp.1 n o;refine ⟨this.1,by show n<((Jh t).length:Int); rw [r]; exact this.2,fun k b=>?_⟩;have b:=q.1 k b;refine ⟨b.1,?_⟩;show k<((AB (Jh t) n).length:Int);unfold Jh;rw [Il (KM t) this.1 this.2];unfold KM;rw [d7,CI]; exact b.2
    ·rw [d2 a] at h; cases h
   ·rw [d1 (by simp [d])] at h; exact absurd h d
  ·rw [d1 (by simp [c])] at h; exact absurd h c
 ·rw [d1 (by simp [hv])] at h; exact absurd h hv
def NL (t:AD) (p g:Graph) (pa:Morphism) (inj:Bool):List Morphism × Int:=
 if GI t p g≠0 then ([],GI t p g) else if ¬ (pa.Nodes.length=p.Nodes.length∧pa.Edges.length=p.Edges.length) then ([],20) else
 if Mv pa.Nodes g.Nodes.length≠0 then ([],Mv pa.Nodes g.Nodes.length) else if Mv pa.Edges g.Edges.length≠0 then ([],Mv pa.Edges g.Edges.length) else
 if 5000<(LB t p g pa inj).length then ([],3) else (LB t p g pa inj,0)
theorem aq {t:AD} (c:CC t) (p g:Graph) (b:Morphism) (inj:Bool):F6 t p g b inj=some (NL t p g b inj):=by
 unfold F6 NL;rw [W4 c,bs];refine NK fun e=>?_;refine Ok (by simp only [Bool.or_eq_true,Bool.not_eq_true',decide_eq_false_iff_not]; omega) fun a=>?_;have a:=Classical.not_not.1 a;rw [ZB,bs];refine NK fun h=>?_;rw [ZB,bs];refine NK fun i=>?_;obtain ⟨hv,f⟩:=U1 (inj:=inj) e a.1 a.2;unfold Jw;rw [eA c hv f,bs];by_cases d:5000<(LB t p g b inj).length
 ·rw [d1 (by rw [zzX]; omega),d1 d]; rfl
 ·rw [d2 (by rw [zzX]; omega),d2 d]; rfl
theorem ax {t:AD} (d:CC t) (p g:Graph) (b:Morphism) (inj:Bool):Km t p g b inj=some (NL t p g b inj):=by
 unfold Km NL;rw [Vh d,bs];refine NK fun e=>?_;refine Ok (by simp only [Bool.or_eq_true,Bool.not_eq_true',decide_eq_false_iff_not]; omega) fun a=>?_;have a:=Classical.not_not.1 a;rw [Vf _ (by omega),bs];refine NK fun h=>?_;rw [Vf _ (by omega),bs];refine NK fun i=>?_;obtain ⟨hv,f⟩:=U1 (inj:=inj) e a.1 a.2;rw [oK hv f,bs];by_cases c:5000<(LB t p g b inj).length
 ·rw [d1 (by rw [zzX]; omega),d1 c]
 ·rw [d2 (by rw [zzX]; omega),d2 c]
end Go.Sf.Sc
