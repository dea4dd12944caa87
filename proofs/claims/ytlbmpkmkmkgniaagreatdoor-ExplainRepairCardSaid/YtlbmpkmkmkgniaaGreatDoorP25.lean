/- Plain lemmas: what the functions of the program and of the reference compute. -/
import Derived.Test.YtlbmpkmkmkgniaaGreatDoorP1
import Derived.Test.YtlbmpkmkmkgniaaGreatDoorEval
set_option linter.all false
set_option maxRecDepth 100000
namespace Go.Sf.Sc
open Go Go.Sf
theorem ff {t:AC} (b:BX t) (p:Pattern) {c:AA} (d:D6 c):EK t p c=some (HZ t p c):=by
 by_cases a:(BF t).2=0
 ·exact iz b a p d
 ·unfold EK HZ;rw [VY b,bs];refine IR fun h=>?_;exfalso;unfold Jv at h;rw [d1 a] at h;exact a h
end Go.Sf.Sc
namespace Go.Sf.Sc
open Go Go.Sf
theorem gU {α:Type} [Inhabited α] (b:α->α->Bool) {l m:List α} (d:∀ x∈l,∀ y∈m,(b x y=true↔x=y)) (e:l.length=m.length):anyR (fun i=>!b (AB l i) (AB m i)) 0 l.length=false↔l=m:=by
 rw [EQ];constructor
 ·intro h;refine Zm e (fun i a c=>?_);have:=h i a c;rw [Bool.not_eq_false'] at this;exact (d _ (AS a c) _ (AS a (by omega))).1 this
 ·rintro rfl i a c;rw [Bool.not_eq_false'];exact (d _ (AS a c) _ (AS a c)).2 rfl
theorem fG {α:Type} [Inhabited α] [DecidableEq α] {l m:List α} (f:l.length=m.length) {k:Unit->ca} {c:Bool->ca}:thenR (forR (ρ:=Bool) (fun (d:Int) (_:Unit)=>
 (AL l d).bind fun a=>
 (AL m d).bind fun b=>
 if (!decide (a=b))=true then
 some (.ret false)
 else
 some (.next ())) 0 (l.length:Int) ()) k c=if l=m then k () else c false:=by
 rw [CP (fun i=>!decide (AB l i=AB m i)) false]
 ·have:=gU (fun x y:α=>decide (x=y)) (l:=l) (m:=m) (fun _ _ _ _=>decide_eq_true_iff) f;by_cases h:l=m
  ·rw [this.2 h,d1 h]; rfl
  ·rw [d2 h];cases j:anyR (fun i=>!decide (AB l i=AB m i)) 0 l.length
   ·exact absurd (this.1 j) h
   ·rfl
 ·intro i e g _;rw [AK e g,bs,AK e (by omega),bs,Jt]
theorem Xo {α:Type} [Inhabited α] [DecidableEq α] (l m:List α):(if (!decide ((l.length:Int)=(m.length:Int)))=true then
 some false
 else
 thenR (forR (ρ:=Bool) (fun (d:Int) (_:Unit)=>
 (AL l d).bind fun a=>
 (AL m d).bind fun b=>
 if (!decide (a=b))=true then
 some (.ret false)
 else
 some (.next ())) 0 (l.length:Int) ()) (fun _=>
 some true) (fun f=>some f))=some (decide (l=m)):=by
 by_cases c:l.length=m.length
 ·rw [d2 (by simp [c]),fG c];by_cases h:l=m
  ·rw [d1 h,decide_eq_true h]
  ·rw [d2 h,decide_eq_false h]
 ·rw [d1 (by simp; omega),decide_eq_false (fun e=>c (by rw [e]))]
theorem dy (l m:Ne):slices_Equal_int l m=some (decide (l=m)):=Xo l m
theorem fm (l m:Ne):LY l m=some (decide (l=m)):=Xo l m
noncomputable def dn (a b:AA):Bool:=@decide (a=b) (Classical.propDecidable _)
end Go.Sf.Sc
namespace Go.Sf.Sc
open Go Go.Sf
mutual
def cnt:AA->Nat
 | ⟨_,kids,_,_⟩=>1+KE kids
def KE:List AA->Nat
 | []=>0
 | k::l=>cnt k+KE l
end
mutual
def UV:AA->Nat
 | ⟨k,kids,_,_⟩=>(if k=5 then 1 else 0)+Qz kids
def Qz:List AA->Nat
 | []=>0
 | k::l=>max (UV k) (Qz l)
end
theorem OZ (c:AA):cnt c=1+KE c.Kids:=by cases c; rfl
theorem Vt (c:AA):UV c=(if c.Kind=5 then 1 else 0)+Qz c.Kids:=by cases c; rfl
theorem fF {l:List AA} {k:Int} (a:0<=k) (b:k<l.length):l.drop k.toNat=AB l k::l.drop (k+1).toNat:=by
 rw [show (k+1).toNat=k.toNat+1 by omega,List.drop_eq_getElem_cons (by omega)];unfold AB;rw [List.getD_eq_getElem?_getD,List.getElem?_eq_getElem (by omega)]; rfl
theorem Ua:∀ (N:Nat) (c:AA),SizeOf.sizeOf c<=N->(AF c).Sm->∀ most:Int,0<=most->most<=1000->∃ r,(∀ n,N<=n->GH n c most=some r)∧-1<=r∧r<=most - 1∧(0<=r->D6 c∧(cnt c:Int)+r<=most)
 | 0,c,h,_,_,_,_=>by have:=EO c; omega
 | N+1,c,h,Q,most,m0,m1=>by
  obtain ⟨G,H,v⟩:=fD Q;obtain ⟨I,q,J⟩:=UA c.Pattern;obtain ⟨K,x,L⟩:=fI G;have step:∀ n,N+1<=n->∃ m,n=m+1∧N<=m:=fun n a=>⟨n - 1,by omega,by omega⟩;cases I
  ·refine ⟨-1,fun n a=>?_,by omega,by omega,fun h=>by omega⟩;obtain ⟨n,rfl,_⟩:=step n a;rw [GH,q]; rfl
  cases K
  ·refine ⟨-1,fun n a=>?_,by omega,by omega,fun h=>by omega⟩;obtain ⟨n,rfl,_⟩:=step n a;rw [GH,q,bs,x]; rfl
  have loop:∀ (m:Nat) (k left:Int),0<=k->k+m=c.Kids.length->-1<=left->left<=1000->∃ b i,(∀ n,N<=n->ND (ρ:=Int) (fun (e:Int × Int)=>
    if ((decide (e.2<(c.Kids.length:Int)))&&(decide (0<=e.1)))=true then
    (AL c.Kids e.2).bind fun s=>
    (GH n s e.1).bind fun t=>
    some (.next (t,A3 (e.2+1)))
    else
    some (.brk (e.1,e.2))) (left,k) (.inl (b,i)))∧-1<=b∧b<=left∧(0<=b->(∀ j,k<=j->j<c.Kids.length->D6 (AB c.Kids j))∧(KE (c.Kids.drop k.toNat):Int)+b<=left):=by
   intro m
   induction m with
   | zero=>
    intro k left p D w l1;refine ⟨left,k,fun n a=>.brk ?_,w,by omega,fun _=>⟨fun j u o=>by omega,?_⟩⟩
    ·rw [d2 (by simp; omega)]
    ·rw [List.drop_of_length_le (by omega),KE]; omega
   | succ m P=>
    intro k left p D w l1;by_cases E:0<=left
    ·have d:=AS (l:=c.Kids) p (by omega);have:=FJ d;obtain ⟨r,M,O,R,B⟩:=Ua N _ (by omega) (v _ d) left E l1;obtain ⟨b,i,y,z,C,g⟩:=P (k+1) r (by omega) (by omega) O (by omega);refine ⟨b,i,fun n a=>.next (s':=(r,k+1)) ?_ (y n a),z,by omega,fun f=>⟨fun j u o=>?_,?_⟩⟩
     ·rw [d1 (by simp; omega),AK p (by omega),bs,M n a,bs,BC (by omega) (by omega)]
     ·by_cases F:j=k
      ·subst F; exact (B (by omega)).1
      ·exact (g f).1 j (by omega) o
     ·have q:=(B (by omega)).2;have x:=(g f).2;rw [fF p (by omega),KE];omega
    ·refine ⟨left,k,fun n a=>.brk ?_,w,by omega,fun h=>by omega⟩;rw [d2 (by simp; omega)]
  obtain ⟨b,i,y,z,C,g⟩:=loop c.Kids.length 0 (most - 1) (by omega) (by omega) (by omega) (by omega);refine ⟨b,fun n a=>?_,z,C,fun f=>⟨.mk c (J rfl) (L rfl) (fun k v=>?_),?_⟩⟩
  ·obtain ⟨n,rfl,A⟩:=step n a;rw [GH,q,bs,x];simp only [bs,Bool.not_true,Bool.false_eq_true,if_false];rw [BC (n:=most - 1) (by omega) (by omega),(y n A).eq,D5]
  ·obtain ⟨j,u,o,rfl⟩:=EH v;exact (g f).1 j u o
  ·have:=(g f).2;rw [show (0:Int).toNat=0 from rfl,List.drop_zero] at this;rw [OZ];omega
theorem UZ {c:AA} (a:(AF c).Sm):∃ b,Nq c=some b∧(b=true->D6 c∧cnt c<=40):=by
 obtain ⟨r,d,_,_,f⟩:=Ua (SizeOf.sizeOf c) c (d3 _) a 40 (by omega) (by omega);have e:QO c 40=some r:=FV (SizeOf.sizeOf c) d;unfold Nq;rw [e];exact ⟨_,rfl,fun h=>by have:=f (by simpa using h); exact ⟨this.1,by have:=this.2; simp at h; omega⟩⟩
theorem SX:∀ {l:List AA} {k:AA},k∈l->cnt k<=KE l
 | x::l,k,h=>by
  rw [KE];rcases List.mem_cons.1 h with rfl | h
  ·omega
  ·have:=SX h; omega
theorem Xl:∀ (N:Nat) (c:AA),SizeOf.sizeOf c<=N->UV c<=cnt c
 | 0,c,h=>by have:=EO c; omega
 | N+1,c,h=>by
  have key:∀ l:List AA,(∀ k∈l,k∈c.Kids)->Qz l<=KE l:=by
   intro l
   induction l with
   | nil=>intro _; exact d3 _
   | cons k l d=>
    intro a;have e:=d (fun x b=>a x (List.mem_cons_of_mem _ b));have:=FJ (a k List.mem_cons_self);have f:=Xl N k (by omega);rw [Qz,KE];omega
  have:=key c.Kids (fun _ h=>h);rw [Vt,OZ];split <;> omega
theorem Xz:∀ (N:Nat) (c:AA),SizeOf.sizeOf c<=N->cnt c<=1000->KI N c=((cnt c:Int),(UV c:Int))
 | 0,c,h,_=>by have:=EO c; omega
 | N+1,c,h,p=>by
  have key:∀ (l:List AA) (a b:Nat),(∀ k∈l,k∈c.Kids)->a+KE l<=1000->l.foldl (fun s k=>(A3 (s.1+(KI N k).1),max s.2 (KI N k).2)) (((a:Int),(b:Int)):Int × Int)=(((a+KE l:Nat):Int),((max b (Qz l):Nat):Int)):=by
   intro l
   induction l with
   | nil=>intro a b _ _; simp [KE,Qz]
   | cons k l o=>
    intro a b f j;rw [KE] at j;have:=FJ (f k List.mem_cons_self);rw [List.foldl_cons,Xz N k (by omega) (by omega)];have m:A3 ((a:Int)+(cnt k:Int))=((a+cnt k:Nat):Int):=by rw [BC (by omega) (by omega)]; omega
    have n:max (b:Int) (UV k:Int)=((max b (UV k):Nat):Int):=by omega
    simp only [m,n];rw [o (a+cnt k) (max b (UV k)) (fun x i=>f x (List.mem_cons_of_mem _ i)) (by omega),KE,Qz,Nat.add_assoc,Nat.max_assoc]
  have d:=p;rw [OZ] at d;have:=key c.Kids 1 0 (fun _ h=>h) d;have g:=Xl (N+1) c h;rw [KI];rw [show ((1,0):Int × Int)=(((1:Nat):Int),((0:Nat):Int)) from rfl,this,OZ,Vt];rw [Vt] at g;by_cases e:c.Kind=5
  ·rw [d1 e] at g ⊢;rw [d1 e];rw [BC (by simp only [Nat.zero_max]; omega) (by simp only [Nat.zero_max]; omega)];simp only [Nat.zero_max,Prod.mk.injEq,true_and];omega
  ·rw [d2 e,d2 e];simp
theorem cJ {c:AA} (h:cnt c<=1000):QC c=((cnt c:Int),(UV c:Int)):=Xz _ c (d3 _) h
end Go.Sf.Sc
namespace Go.Sf.Sc
open Go Go.Sf
structure MT (f:AM):Prop where
 pn:f.partial_.Nodes.length=f.p.Nodes.length
 pe:f.partial_.Edges.length=f.p.Edges.length
 ends : ∀ e ∈ f.p.Edges, 0 ≤ e.From ∧ e.From < f.p.Nodes.length ∧ 0 ≤ e.To ∧ e.To < f.p.Nodes.length
 kinds:∀ n∈f.p.Nodes,0<=n∧n<f.is.length∧∀ t∈f.g.Nodes,0<=t∧t<(AB f.is n).length
 small:f.p.Nodes.length<=1000∧f.p.Edges.length<=1000∧f.g.Nodes.length<=1000∧f.g.Edges.length<=1000
def Kw (f:AM) (i k:Int):Bool:=
 (decide (AB f.partial_.Edges i<0)||decide (AB f.partial_.Edges i=k))&&decide (AB f.g.Edges k=⟨(AB f.p.Edges i).Type',AB f.nodes (AB f.p.Edges i).From,AB f.nodes (AB f.p.Edges i).To⟩)
theorem aC {α:Type} {l:List α} (h:l≠[]):WN l=some ():=by
 unfold WN;cases l with
 | nil=>exact absurd rfl h
 | cons _ _=>rfl
theorem V6 {l:Ne} {i:Int} (b:0<=i) (a:i<l.length):Iu l i=some (AB l i):=by
 unfold Iu;rw [aC (by intro h; subst h; simp at a; omega),bs,AK b a,bs]
theorem aL {f:AM} (d:MT f) {i k:Int} (b:0<=i) (c:i<f.p.Edges.length) (j:0<=k) (l:k<f.g.Edges.length) (m:(AB f.p.Edges i).From<f.nodes.length) (n:(AB f.p.Edges i).To<f.nodes.length):E7 f i k=some (Kw f i k):=by
 have e:=d.ends _ (AS b c);unfold E7 Kw;rw [AK b c,bs,V6 b (by rw [d.pe]; exact c),bs,AK j l,bs,AK e.1 m,bs,AK e.2.2.1 n,bs];by_cases h:AB f.partial_.Edges i<0
 ·rw [d2 (by simp; omega)]; simp [h]
 ·by_cases a:AB f.partial_.Edges i=k
  ·rw [d2 (by simp [a])]; simp [a]
  ·rw [d1 (by simp [a]; omega)]; simp [h,a]
def NM (f:AM):Bool:=!anyR (fun i=>decide (max (AB f.p.Edges i).From (AB f.p.Edges i).To=(f.nodes.length:Int) - 1)&&!anyR (fun k=>Kw f i k) 0 f.g.Edges.length) 0 f.p.Edges.length
theorem eo {f:Int->Bool->Option (C2 Bool Bool)} (p:Int->Bool) {b:Int} (h:∀ i,0<=i->i<b->f i false=some (if p i=true then .brk true else .next false)):forR f 0 b false=some (.inl (anyR p 0 b)):=by
 have key:∀ (m:Nat) (i:Int),0<=i->i+m=b->forGo f m i false=some (.inl (anyR p i b)):=by
  intro m
  induction m with
  | zero=>
   intro i k hi;have:anyR p i b=false:=by rw [EQ]; intro j g a; omega
   rw [this]; rfl
  | succ m l=>
   intro i k hi;rw [Hr,h i k (by omega)];by_cases c:p i=true
   ·have:anyR p i b=true:=by rw [II]; exact ⟨i,Int.le_refl _,by omega,c⟩
    rw [d1 c,this]
   ·have e:anyR p i b=anyR p (i+1) b:=by
     rw [Bool.eq_iff_iff,II,II];constructor
     ·rintro ⟨j,g,a,d⟩;have:j≠i:=fun e=>c (e ▸ d);exact ⟨j,by omega,a,d⟩
     ·rintro ⟨j,g,a,d⟩;exact ⟨j,by omega,a,d⟩
    rw [d2 c,e];exact l (i+1) (by omega) (by omega)
 unfold forR;by_cases n:0<=b
 ·exact key _ 0 (Int.le_refl _) (by omega)
 ·have:anyR p 0 b=false:=by rw [EQ]; intro j g a; omega
  rw [this,show (b - 0).toNat=0 by omega]; rfl
theorem Y0 {f:AM} (e:MT f) (m:0<f.nodes.length) (h:f.nodes.length<=1000):C7 f=some (NM f):=by
 unfold C7 NM;rw [CP (fun i=>decide (max (AB f.p.Edges i).From (AB f.p.Edges i).To=(f.nodes.length:Int) - 1)&&!anyR (fun k=>Kw f i k) 0 f.g.Edges.length) false]
 ·generalize anyR (fun i=>decide (max (AB f.p.Edges i).From (AB f.p.Edges i).To=(f.nodes.length:Int) - 1)&&!anyR (fun k=>Kw f i k) 0 f.g.Edges.length) 0 f.p.Edges.length=b;cases b <;> rfl
 ·intro i c d _;rw [AK c d,bs,BC (n:=(f.nodes.length:Int) - 1) (by omega) (by omega)];by_cases a:max (AB f.p.Edges i).From (AB f.p.Edges i).To=(f.nodes.length:Int) - 1
  ·rw [d2 (by simp [a]),eo (fun k=>Kw f i k) (fun k j l=>by
    rw [aL e c d j l (by omega) (by omega),bs,Jt])]
   generalize anyR (fun k=>Kw f i k) 0 f.g.Edges.length=b;rw [decide_eq_true a];cases b <;> rfl
  ·rw [d1 (by simp [a]),d2 (by simp [a])]
def A6 (n:Nat):Ne:=(List.range n).map Int.ofNat
theorem LR (n:Nat):A6 (n+1)=A6 n++[(n:Int)]:=by
 unfold A6;rw [List.range_succ,List.map_append]; rfl
def PI (f:AM) (k:Int):Bool:=(decide (AB f.partial_.Nodes f.nodes.length<0)||decide (AB f.partial_.Nodes f.nodes.length=k))&&AB (AB f.is (AB f.p.Nodes f.nodes.length)) (AB f.g.Nodes k)&&!(f.injective&&f.nodes.any fun x=>decide (k=x))
def PH (f:AM) (k:Int):Bool:=Kw f f.edges.length k&&!(f.injective&&f.edges.any fun x=>decide (k=x))
def E6:Nat->AM->List Morphism
 | 0,f=>[⟨f.nodes,f.edges⟩]
 | n+1,f=>(A6 f.g.Edges.length).flatMap fun k=>if PH f k=true then E6 n { f with edges:=f.edges++[k] } else []
def KB:Nat->AM->List Morphism
 | 0,f=>E6 f.p.Edges.length f
 | n+1,f=>(A6 f.g.Nodes.length).flatMap fun k=>if (PI f k&&NM { f with nodes:=f.nodes++[k] })=true then KB n { f with nodes:=f.nodes++[k] } else []
theorem VF {α:Type} (a b:List α) (m:Nat):((a.take m)++b).take m=(a++b).take m:=by
 by_cases h:a.length<=m
 ·rw [List.take_of_length_le h]
 ·rw [List.take_append_of_le_length (by simp; omega),List.take_append_of_le_length (by omega),List.take_take,Nat.min_self]
end Go.Sf.Sc
namespace Go.Sf.Sc
open Go Go.Sf
def QJ (f:AM) (o:List Morphism):AM:={ f with out:=o }
theorem MT.out {f:AM} (h:MT f) (o:List Morphism):MT (QJ f o):=⟨h.pn,h.pe,h.ends,h.kinds,h.small⟩
theorem OW:∀ (n:Nat) (f:AM) (o:List Morphism),E6 n (QJ f o)=E6 n f
 | 0,_,_=>rfl
 | n+1,f,o=>by
  rw [E6,E6];refine congrArg (fun F=>(A6 f.g.Edges.length).flatMap F) (funext fun k=>?_);have:=OW n { f with edges:=f.edges++[k] } o;show (if PH f k=true then E6 n (QJ { f with edges:=f.edges++[k] } o) else [])=_;rw [this]
theorem Vf:∀ (n:Nat) (f:AM) (o:List Morphism),KB n (QJ f o)=KB n f
 | 0,f,o=>OW _ f o
 | n+1,f,o=>by
  rw [KB,KB];refine congrArg (fun F=>(A6 f.g.Nodes.length).flatMap F) (funext fun k=>?_);have:=Vf n { f with nodes:=f.nodes++[k] } o;show (if (PI f k&&NM { f with nodes:=f.nodes++[k] })=true then KB n (QJ { f with nodes:=f.nodes++[k] } o) else [])=_;rw [this]
def BR (f:AM) (l:List Morphism):AM:=QJ f ((f.out++l).take f.most.toNat)
structure T4 (f:AM):Prop where
 m0:0<=f.most
 m1:f.most<=10000
 out:(f.out.length:Int)<=f.most
theorem K5 {f:AM} (h:T4 f):BR f []=f:=by
 unfold BR;rw [List.append_nil,List.take_of_length_le (by have:=h.out; have:=h.m0; omega)]; rfl
theorem Ul {f:AM} (h:(f.out.length:Int)=f.most) (l:List Morphism):BR f l=f:=by
 unfold BR;rw [List.take_append_of_le_length (by omega),List.take_of_length_le (by omega)]; rfl
theorem Un {f:AM} (h:T4 f) (l:List Morphism):T4 (BR f l):=by
 refine ⟨h.m0,h.m1,?_⟩;have:=h.m0;show (((f.out++l).take f.most.toNat).length:Int)<=f.most;rw [d5]; omega
theorem Um (f:AM) (a b:List Morphism):BR (BR f a) b=BR f (a++b):=by
 show QJ f ((((f.out++a).take f.most.toNat)++b).take f.most.toNat)=_;rw [VF,ea]; rfl
theorem TG:∀ (n:Nat) (f:AM),MT f->T4 f->f.nodes.length=f.p.Nodes.length->f.edges.length+n=f.p.Edges.length->∀ m,n+1<=m->BB m f=some (BR f (E6 n f))
 | n,f,d,r,K,v,m,w=>by
  obtain ⟨m,rfl⟩:∃ k,m=k+1:=⟨m - 1,by omega⟩;have M:=d.small;have N:=r.m0;have O:=r.m1;have P:=r.out;rw [BB];by_cases c:(f.out.length:Int)=f.most
  ·rw [d1 (by simpa using c),Ul c]; rfl
  rw [d2 (by simpa using c),d2 (by simp; omega)]
  match n,v,w with
  | 0,v,w=>
   rw [d2 (by simp; omega)];unfold slices_Clone_int;rw [IJ (by unfold BS; omega),bs,IJ (by unfold BS; omega),bs,CC (by simp; unfold BS; omega),bs,bs];unfold BR;rw [List.take_of_length_le (by simp [E6]; omega)]; rfl
  | n+1,v,w=>
   rw [d1 (by simp; omega)];have F:∀ k,PH f k=true->MT { f with edges:=f.edges++[k] }:=fun k _=>⟨d.pn,d.pe,d.ends,d.kinds,d.small⟩;rw [E8 (a:=0) (s:=f) (fun i=>BR f ((A6 i.toNat).flatMap fun k=>if PH f k=true then E6 n { f with edges:=f.edges++[k] } else [])) (by omega) (K5 r)]
   ·rw [bs,bs,Int.toNat_natCast,E6]
   ·intro i B C;have D:A6 (i+1).toNat=A6 i.toNat++[i]:=by
     rw [show (i+1).toNat=i.toNat+1 by omega,LR];rw [show ((i.toNat:Nat):Int)=i by omega]
    have E:∀ l,BR f ((A6 (i+1).toNat).flatMap l)=BR (BR f ((A6 i.toNat).flatMap l)) (l i):=by
     intro l;rw [Um,D,List.flatMap_append]; simp
    rw [E];generalize (A6 i.toNat).flatMap (fun k=>if PH f k=true then E6 n { f with edges:=f.edges++[k] } else [])=L;have j:=Un r L;have t:MT (BR f L):=d.out _;have y:=d.ends _ (AS (l:=f.p.Edges) (i:=(f.edges.length:Int)) (by omega) (by omega));rw [aL t (i:=(f.edges.length:Int)) (k:=i) (by omega) (by show _<(f.p.Edges.length:Int); omega) B (by exact C) (by show (AB f.p.Edges f.edges.length).From<(f.nodes.length:Int); omega) (by show (AB f.p.Edges f.edges.length).To<(f.nodes.length:Int); omega),bs];have G:slices_Contains_int (BR f L).edges i=some (f.edges.any fun x=>decide (i=x)):=TC f.edges i;rw [G];have o:Kw (BR f L) f.edges.length i=Kw f f.edges.length i:=rfl;have key:((B2 (BR f L).edges [i]).bind fun e=>
      (BB m (AM.mk (BR f L).p (BR f L).g (BR f L).is (BR f L).partial_ (BR f L).injective (BR f L).most (BR f L).nodes e (BR f L).out)).bind fun b=>
      (slc b.edges 0 (f.edges.length:Int)).bind fun h=>
      some (AM.mk b.p b.g b.is b.partial_ b.injective b.most b.nodes h b.out))=some (BR (BR f L) (E6 n { f with edges:=f.edges++[i] })):=by
     have H:B2 (BR f L).edges [i]=some (f.edges++[i]):=CC (by show f.edges.length+1<=BS; unfold BS; omega);have z:=TG n { BR f L with edges:=f.edges++[i] } ⟨d.pn,d.pe,d.ends,d.kinds,d.small⟩ ⟨j.m0,j.m1,j.out⟩ K (by show (f.edges++[i]).length+n=f.p.Edges.length; simp; omega) m (by omega);have I:E6 n { BR f L with edges:=f.edges++[i] }=E6 n { f with edges:=f.edges++[i] }:=OW n { f with edges:=f.edges++[i] } _;rw [I] at z;rw [H,bs];show (BB m { BR f L with edges:=f.edges++[i] }).bind _=_;rw [z,bs];have J:slc (BR { BR f L with edges:=f.edges++[i] } (E6 n { f with edges:=f.edges++[i] })).edges 0 (f.edges.length:Int)=some f.edges:=by
      show slc (f.edges++[i]) 0 (f.edges.length:Int)=_;rw [NR (by omega) (by rw [d4]; omega),Int.toNat_natCast,List.take_left]
     rw [J]; rfl
    rw [key,o];have u:PH f i=(Kw f f.edges.length i&&!(f.injective&&f.edges.any fun x=>decide (i=x))):=rfl;have q:(BR f L).injective=f.injective:=rfl;rw [u,q];generalize Q:E6 n { f with edges:=f.edges++[i] }=A;cases Kw f f.edges.length i
    ·simp only [Bool.false_and,Bool.false_eq_true,if_false,K5 j]; rfl
    ·cases f.injective
     ·rfl
     ·cases f.edges.any fun x=>decide (i=x)
      ·rfl
      ·simp only [Bool.and_self,Bool.not_true,Bool.and_false,Bool.false_eq_true,if_false,K5 j]; rfl
end Go.Sf.Sc
namespace Go.Sf.Sc
open Go Go.Sf
theorem TH:∀ (n:Nat) (f:AM),MT f->T4 f->f.edges=[]->f.nodes.length+n=f.p.Nodes.length->∀ m,n+f.p.Edges.length+1<=m->BB m f=some (BR f (KB n f))
 | 0,f,d,r,y,Q,m,R=>by
  rw [KB];exact TG _ f d r (by omega) (by rw [y]; simp) m (by omega)
 | n+1,f,d,r,y,Q,m,R=>by
  obtain ⟨m,rfl⟩:∃ k,m=k+1:=⟨m - 1,by omega⟩;have S:=d.small;have T:=r.m0;have U:=r.m1;have V:=r.out;rw [BB];by_cases c:(f.out.length:Int)=f.most
  ·rw [d1 (by simpa using c),Ul c]; rfl
  rw [d2 (by simpa using c),d1 (by simp; omega)];rw [E8 (a:=0) (s:=f) (fun i=>BR f ((A6 i.toNat).flatMap fun k=>if (PI f k&&NM { f with nodes:=f.nodes++[k] })=true then KB n { f with nodes:=f.nodes++[k] } else [])) (by omega) (K5 r)]
  ·rw [bs,bs,Int.toNat_natCast,KB]
  ·intro i z B;have E:A6 (i+1).toNat=A6 i.toNat++[i]:=by
    rw [show (i+1).toNat=i.toNat+1 by omega,LR];rw [show ((i.toNat:Nat):Int)=i by omega]
   have F:∀ l,BR f ((A6 (i+1).toNat).flatMap l)=BR (BR f ((A6 i.toNat).flatMap l)) (l i):=by
    intro l;rw [Um,E,List.flatMap_append]; simp
   rw [F];generalize (A6 i.toNat).flatMap (fun k=>if (PI f k&&NM { f with nodes:=f.nodes++[k] })=true then KB n { f with nodes:=f.nodes++[k] } else [])=L;have j:=Un r L;have o:(f.nodes.length:Int)<(f.p.Nodes.length:Int):=by omega
   have q:=d.kinds _ (AS (l:=f.p.Nodes) (i:=(f.nodes.length:Int)) (by omega) o);have u:=q.2.2 _ (AS z B);have key:((B2 (BR f L).nodes [i]).bind fun e=>
     (C7 (AM.mk (BR f L).p (BR f L).g (BR f L).is (BR f L).partial_ (BR f L).injective (BR f L).most e (BR f L).edges (BR f L).out)).bind fun t=>
     if t=true then
     (BB m (AM.mk (BR f L).p (BR f L).g (BR f L).is (BR f L).partial_ (BR f L).injective (BR f L).most e (BR f L).edges (BR f L).out)).bind fun b=>
     (slc b.nodes 0 (f.nodes.length:Int)).bind fun h=>
     some (AM.mk b.p b.g b.is b.partial_ b.injective b.most h b.edges b.out)
     else
     (slc e 0 (f.nodes.length:Int)).bind fun h=>
     some (AM.mk (BR f L).p (BR f L).g (BR f L).is (BR f L).partial_ (BR f L).injective (BR f L).most h (BR f L).edges (BR f L).out))=some (BR (BR f L) (if NM { f with nodes:=f.nodes++[i] }=true then KB n { f with nodes:=f.nodes++[i] } else [])):=by
    have G:B2 (BR f L).nodes [i]=some (f.nodes++[i]):=CC (by show f.nodes.length+1<=BS; unfold BS; omega);have C:slc (f.nodes++[i]) 0 (f.nodes.length:Int)=some f.nodes:=by
     rw [NR (by omega) (by rw [d4]; omega),Int.toNat_natCast,List.take_left]
    have H:C7 { BR f L with nodes:=f.nodes++[i] }=some (NM { f with nodes:=f.nodes++[i] }):=Y0 (f:={ BR f L with nodes:=f.nodes++[i] }) ⟨d.pn,d.pe,d.ends,d.kinds,d.small⟩ (by show 0<(f.nodes++[i]).length; simp) (by show (f.nodes++[i]).length<=1000; rw [d4]; simp; omega);have D:=TH n { BR f L with nodes:=f.nodes++[i] } ⟨d.pn,d.pe,d.ends,d.kinds,d.small⟩ ⟨j.m0,j.m1,j.out⟩ y (by show (f.nodes++[i]).length+n=f.p.Nodes.length; rw [d4]; simp; omega) m (by show n+f.p.Edges.length+1<=m; omega);have I:KB n { BR f L with nodes:=f.nodes++[i] }=KB n { f with nodes:=f.nodes++[i] }:=Vf n { f with nodes:=f.nodes++[i] } _;rw [I] at D;rw [G,bs];show (C7 { BR f L with nodes:=f.nodes++[i] }).bind _=_;rw [H,bs];cases NM { f with nodes:=f.nodes++[i] }
    ·rw [d2 (by decide),d2 (by decide),C,K5 j]; rfl
    ·rw [d1 rfl,d1 rfl];show (BB m { BR f L with nodes:=f.nodes++[i] }).bind _=_;rw [D,bs];have J:slc (BR { BR f L with nodes:=f.nodes++[i] } (KB n { f with nodes:=f.nodes++[i] })).nodes 0 (f.nodes.length:Int)=some f.nodes:=C;rw [J]; rfl
   have K:Iu (BR f L).partial_.Nodes (f.nodes.length:Int)=some (AB f.partial_.Nodes f.nodes.length):=V6 (by omega) (by show (f.nodes.length:Int)<(f.partial_.Nodes.length:Int); rw [d.pn]; exact o);have M:AL (BR f L).p.Nodes (f.nodes.length:Int)=some (AB f.p.Nodes f.nodes.length):=AK (by omega) o;have hi:AL (BR f L).is (AB f.p.Nodes f.nodes.length)=some (AB f.is (AB f.p.Nodes f.nodes.length)):=AK q.1 q.2.1;have N:AL (AB f.is (AB f.p.Nodes f.nodes.length)) (AB f.g.Nodes i)=some (AB (AB f.is (AB f.p.Nodes f.nodes.length)) (AB f.g.Nodes i)):=AK u.1 u.2;have O:slices_Contains_int (BR f L).nodes i=some (f.nodes.any fun x=>decide (i=x)):=TC f.nodes i;have v:(BR f L).injective=f.injective:=rfl;have w:PI f i=((decide (AB f.partial_.Nodes f.nodes.length<0)||decide (AB f.partial_.Nodes f.nodes.length=i))&&AB (AB f.is (AB f.p.Nodes f.nodes.length)) (AB f.g.Nodes i)&&!(f.injective&&f.nodes.any fun x=>decide (i=x))):=rfl;rw [AK z B,bs,K,bs,M,bs,hi,bs,N,bs,O,key,v,w];generalize AB (AB f.is (AB f.p.Nodes f.nodes.length)) (AB f.g.Nodes i)=c2;have P:(decide (0<=AB f.partial_.Nodes f.nodes.length)&&!decide (AB f.partial_.Nodes f.nodes.length=i))=!(decide (AB f.partial_.Nodes f.nodes.length<0)||decide (AB f.partial_.Nodes f.nodes.length=i)):=by
    rw [Bool.not_or];congr 1;rw [←decide_not];exact decide_eq_decide.2 (by omega)
   rw [P];generalize (decide (AB f.partial_.Nodes f.nodes.length<0)||decide (AB f.partial_.Nodes f.nodes.length=i))=c1;generalize NM { f with nodes:=f.nodes++[i] }=c5;generalize KB n { f with nodes:=f.nodes++[i] }=A;cases c1
   ·simp only [Bool.false_and,Bool.false_eq_true,if_false,K5 j]; rfl
   ·cases c2
    ·simp only [Bool.and_false,Bool.false_and,Bool.false_eq_true,if_false,K5 j]; rfl
    ·cases f.injective
     ·rfl
     ·cases f.nodes.any fun x=>decide (i=x)
      ·rfl
      ·simp only [Bool.and_self,Bool.not_true,Bool.and_false,Bool.false_and,Bool.false_eq_true,if_false,K5 j]; rfl
theorem jB {f:AM} (a:MT f) (b:T4 f) (c:f.edges=[]) (d:f.nodes=[]):GU f=some (BR f (KB f.p.Nodes.length f)):=
 FV (f.p.Nodes.length+f.p.Edges.length+1) fun m e=>TH _ f a b c (by rw [d]; simp) m e
end Go.Sf.Sc
namespace Go.Sf.Sc
open Go Go.Sf
theorem CI (n:Nat):(A6 n).length=n:=by simp [A6]
theorem FL {n:Nat} {i:Int}:i∈A6 n↔0<=i∧i<n:=by
 unfold A6;rw [List.mem_map];constructor
 ·rintro ⟨k,a,rfl⟩;have:=List.mem_range.1 a;exact ⟨Int.natCast_nonneg k,Int.ofNat_lt.2 this⟩
 ·rintro ⟨b,c⟩;exact ⟨i.toNat,List.mem_range.2 (by omega),by show ((i.toNat:Nat):Int)=i; omega⟩
theorem I9 {n:Nat} {α:Type} [Inhabited α] (F:Int->α) {i:Int} (a:0<=i) (b:i<n):AB ((A6 n).map F) i=F i:=by
 unfold AB A6;rw [List.map_map,List.getD_eq_getElem?_getD,List.getElem?_map,List.getElem?_range (by omega)];show F (Int.ofNat i.toNat)=F i;congr 1;show ((i.toNat:Nat):Int)=i;omega
theorem KO {i:Int} (a:0<=i):A6 (i+1).toNat=A6 i.toNat++[i]:=by
 rw [show (i+1).toNat=i.toNat+1 by omega,LR,show ((i.toNat:Nat):Int)=i by omega]
def Ko (t:AC) (a:Int):d0:=(A6 t.Nodes.length).map fun k=>I4 t k a
def J5 (t:AC):List d0:=(A6 t.Nodes.length).map (Ko t)
theorem fb {t:AC} (c:BX t) (h:IA t) (hv:(BF t).2=0) {a:Int} (d:0<=a) (e:a<t.Nodes.length):Ic t a=some ((A6 t.Nodes.length).filter fun i=>I4 t i a,0):=by
 have j:=h.nodes;unfold Ic;have g:I3 t a=true:=by simp [I3,d,e]
 rw [UI c,bs,d2 (by simp [hv,g])];rw [E8 (fun i=>(A6 i.toNat).filter fun i=>I4 t i a) (by omega) (by rfl),bs,Int.toNat_natCast];intro i b f;rw [cR h b f,bs,KO b,List.filter_append];have k:((A6 i.toNat).filter fun i=>I4 t i a).length<=i.toNat:=by
  have:=List.length_filter_le (fun i=>I4 t i a) (A6 i.toNat)
  rwa [CI] at this
 by_cases hi:I4 t i a=true
 ·rw [d1 hi,CC (by simp; unfold BS; omega),bs];simp [hi]
 ·rw [d2 hi];simp [hi]
theorem gV {n:Nat} {l:Ne} (g:∀ x∈l,0<=x∧x<n):forA (fun (h:Int) (s2:d0)=>
  (AL l h).bind fun a=>
  (AL s2 a).bind fun _=>
  some (CJ s2 a true)) 0 (l.length:Int) (List.replicate n false)=some ((A6 n).map fun k=>l.any fun x=>decide (x=k)):=by
 rw [E8 (fun j=>(A6 n).map fun k=>(l.take j.toNat).any fun x=>decide (x=k)) (by omega) (by
  refine List.ext_getElem (by simp [CI]) (fun j c o=>by simp))]
 ·rw [Int.toNat_natCast,List.take_length]
 ·intro j d c;have f:=g _ (AS d c);rw [AK d c,bs,AK f.1 (by rw [d7,CI]; exact f.2),bs,GI d c];congr 1;unfold CJ;refine List.ext_getElem (by simp) (fun k p i=>?_);have m:k<n:=by simpa [CI] using i
  rw [List.getElem_set];have e:(A6 n)[k]'(by rw [CI]; exact m)=(k:Int):=by simp [A6]
  simp only [List.getElem_map,e,List.any_append,List.any_cons,List.any_nil,Bool.or_false];by_cases b:(AB l j).toNat=k
  ·rw [d1 b,decide_eq_true (show AB l j=(k:Int) by omega),Bool.or_true]
  ·rw [d2 b,decide_eq_false (show ¬ AB l j=(k:Int) by omega),Bool.or_false]
theorem dx {t:AC} (f:BX t) (h:IA t) (hv:(BF t).2=0):HH t=some (J5 t):=by
 have p:=h.nodes;unfold HH;rw [E8 (fun i=>(A6 i.toNat).map (Ko t)) (by omega) (by rfl),bs,Int.toNat_natCast]
 ·rfl
 ·intro i d j;have o:J7 (t.Nodes.length:Int) false=some (List.replicate t.Nodes.length false):=by
   unfold J7;rw [d1 (by omega),Int.toNat_natCast]
  rw [o,bs,fb f h hv d j,bs];have:=gV (n:=t.Nodes.length) (l:=(A6 t.Nodes.length).filter fun k=>I4 t k i) (fun x b=>FL.1 (List.mem_filter.1 b).1);show (forA (fun (g:Int) (s2:d0)=>
   (AL ((A6 t.Nodes.length).filter fun k=>I4 t k i) g).bind fun a=>
   (AL s2 a).bind fun _=>
   some (CJ s2 a true)) 0 (((A6 t.Nodes.length).filter fun k=>I4 t k i).length:Int) (List.replicate t.Nodes.length false)).bind _=_
  rw [this,bs,CC (by rw [d7,CI]; simp; unfold BS; omega),bs,KO d,List.map_append];congr 2;simp only [List.map_cons,List.map_nil];congr 1;unfold Ko;refine List.map_congr_left (fun k c=>?_);have c:=FL.1 c;rw [Bool.eq_iff_iff,List.any_eq_true];constructor
  ·rintro ⟨x,b,e⟩;rw [zzX] at e;subst e;exact (List.mem_filter.1 b).2
  ·intro m;exact ⟨k,List.mem_filter.2 ⟨FL.2 c,m⟩,by simp⟩
end Go.Sf.Sc
namespace Go.Sf.Sc
open Go Go.Sf
def G8:Nat->AM->List Morphism
 | 0,f=>E6 f.p.Edges.length f
 | n+1,f=>(A6 f.g.Nodes.length).flatMap fun k=>if PI f k=true then G8 n { f with nodes:=f.nodes++[k] } else []
def YV (f:AM) (i:Int):Prop:=0<=i∧i<f.p.Edges.length∧0<=(AB f.p.Edges i).From∧(AB f.p.Edges i).From<f.nodes.length∧0<=(AB f.p.Edges i).To∧(AB f.p.Edges i).To<f.nodes.length∧∀ k:Int,0<=k->k<f.g.Edges.length->Kw f i k=false
theorem QT (f:AM) (i k:Int):Kw f i k=((decide (AB f.partial_.Edges i<0)||decide (AB f.partial_.Edges i=k))&&decide (AB f.g.Edges k=⟨(AB f.p.Edges i).Type',AB f.nodes (AB f.p.Edges i).From,AB f.nodes (AB f.p.Edges i).To⟩)):=rfl
theorem Qp {α:Type} [Inhabited α] (l:List α) (x:α) {i:Int} (a:0<=i) (b:i<l.length):AB (l++[x]) i=AB l i:=by
 unfold AB;rw [List.getD_eq_getElem?_getD,List.getD_eq_getElem?_getD,List.getElem?_append_left (by omega)]
theorem Zs:∀ (n:Nat) (f:AM) (i:Int),YV f i->(f.edges.length:Int)<=i->i<f.edges.length+n->E6 n f=[]
 | 0,f,i,_,d,e=>by omega
 | n+1,f,i,b,d,e=>by
  rw [E6];refine List.flatMap_eq_nil_iff.2 (fun k a=>?_);have a:=FL.1 a;by_cases c:(f.edges.length:Int)=i
  ·have:PH f k=false:=by
    unfold PH;rw [c,b.2.2.2.2.2.2 k a.1 a.2]; rfl
   rw [d2 (by rw [this]; decide)]
  ·split
   ·exact Zs n { f with edges:=f.edges++[k] } i b (by show ((f.edges++[k]).length:Int)<=i; rw [d4]; simp; omega) (by show i<((f.edges++[k]).length:Int)+n; rw [d4]; simp; omega)
   ·rfl
theorem Vr:∀ (n:Nat) (f:AM) (i:Int),f.edges=[]->YV f i->G8 n f=[]
 | 0,f,i,b,a=>by
  rw [G8];exact Zs _ f i a (by rw [b]; simpa using a.1) (by rw [b]; simpa using a.2.1)
 | n+1,f,i,b,a=>by
  rw [G8];refine List.flatMap_eq_nil_iff.2 (fun k s=>?_);split
  ·refine Vr n { f with nodes:=f.nodes++[k] } i b ?_;obtain ⟨l,m,c,o,d,q,r⟩:=a;have t:((f.nodes++[k]).length:Int)=f.nodes.length+1:=by rw [d4]; simp
   refine ⟨l,m,c,?_,d,?_,fun j e h=>?_⟩
   ·show (AB f.p.Edges i).From<((f.nodes++[k]).length:Int); omega
   ·show (AB f.p.Edges i).To<((f.nodes++[k]).length:Int); omega
   ·have:=r j e h;rw [QT] at this ⊢;show ((decide (AB f.partial_.Edges i<0)||decide (AB f.partial_.Edges i=j))&&decide (AB f.g.Edges j=⟨(AB f.p.Edges i).Type',AB (f.nodes++[k]) (AB f.p.Edges i).From,AB (f.nodes++[k]) (AB f.p.Edges i).To⟩))=false;rw [Qp _ _ c o,Qp _ _ d q];exact this
  ·rfl
theorem cU {f:AM} (d:MT f) (h:NM f=false):∃ i,YV f i:=by
 unfold NM at h;rw [Bool.not_eq_false',II] at h;obtain ⟨i,b,c,h⟩:=h;rw [zzZ,zzX,Bool.not_eq_true',EQ] at h;have a:=d.ends _ (AS b c);exact ⟨i,b,c,a.1,by omega,a.2.2.1,by omega,h.2⟩
theorem Zl:∀ (n:Nat) (f:AM),MT f->f.edges=[]->KB n f=G8 n f
 | 0,_,_,_=>rfl
 | n+1,f,b,c=>by
  rw [KB,G8];refine congrArg (fun F=>(A6 f.g.Nodes.length).flatMap F) (funext fun k=>?_);have a:MT { f with nodes:=f.nodes++[k] }:=⟨b.pn,b.pe,b.ends,b.kinds,b.small⟩;cases PI f k
  ·rfl
  ·cases d:NM { f with nodes:=f.nodes++[k] }
   ·obtain ⟨i,e⟩:=cU a d;rw [Vr n { f with nodes:=f.nodes++[k] } i c e]; rfl
   ·simp only [Bool.and_self,if_true];exact Zl n _ a c
end Go.Sf.Sc
namespace Go.Sf.Sc
open Go Go.Sf
theorem T2 {σ ρ:Type} {f:σ × Int->Option (C2 (σ × Int) ρ)} (g:Int->σ) {a b:Int} {s:σ} (c:a<=b) (d:s=g a) (h:∀ i,a<=i->i<b->f (g i,i)=some (.next (g (i+1),i+1))) (e:f (g b,b)=some (.brk (g b,b))):Iw f (s,a)=some (.inl (g b,b)):=by
 subst d;have key:∀ (n:Nat) (i:Int),a<=i->i+n=b->ND f (g i,i) (.inl (g b,b)):=by
  intro n
  induction n with
  | zero=>
   intro i _ hi;have:i=b:=by omega
   subst this;exact .brk e
  | succ n k=>
   intro i j l;exact .next (h i j (by omega)) (k (i+1) (by omega) (by omega))
 exact (key (b - a).toNat a (Int.le_refl _) (by omega)).eq
def JA (s:AV) (nodes edges:Ne):AM:=⟨s.p,s.g,J5 s.t,s.partial_,s.injective,s.most+1,nodes,edges,s.found⟩
def DG (s:AV) (l:List Morphism):AV:={ s with found:=(s.found++l).take (s.most+1).toNat }
structure S2 (s:AV):Prop where
 m0:0<=s.most
 m1:s.most<=9999
 out:(s.found.length:Int)<=s.most+1
theorem Nr {s:AV} (h:S2 s):DG s []=s:=by
 unfold DG;rw [List.append_nil,List.take_of_length_le (by have:=h.out; have:=h.m0; omega)]
theorem Tu {s:AV} (h:(s.found.length:Int)=s.most+1) (l:List Morphism):DG s l=s:=by
 unfold DG;rw [List.take_append_of_le_length (by omega),List.take_of_length_le (by omega)]
theorem Tv {s:AV} (h:S2 s) (l:List Morphism):S2 (DG s l):=by
 refine ⟨h.m0,h.m1,?_⟩;have:=h.m0;show (((s.found++l).take (s.most+1).toNat).length:Int)<=s.most+1;rw [d5]; omega
theorem SQ (s:AV) (a b:List Morphism):DG (DG s a) b=DG s (a++b):=by
 show ({ s with found:=(((s.found++a).take (s.most+1).toNat)++b).take (s.most+1).toNat }:AV)=_;rw [VF,ea]; rfl
theorem aY (s:AV) {l:Ne} (j:l.length<=1000) (n:Int):D2 s l n=some (s.injective&&l.any fun x=>decide (n=x)):=by
 unfold D2;cases s.injective
 ·rw [Rm (fun _=>false) true (a:=0) (b:=0) (Int.le_refl _) (fun i c d=>by omega) (by rw [d2 (by simp)])];rfl
 ·rw [Rm (fun i=>decide (AB l i=n)) true (a:=0) (b:=l.length) (by omega) (fun i c d=>by
   rw [d1 (by simp; exact d),AK c d,bs,BC (by omega) (by omega),Jt]) (by rw [d2 (by simp)])]
  have e:anyR (fun i=>decide (AB l i=n)) 0 l.length=l.any fun x=>decide (n=x):=by
   rw [Bool.eq_iff_iff,II,List.any_eq_true];constructor
   ·rintro ⟨i,f,c,h⟩;exact ⟨_,AS f c,by simpa [eq_comm] using h⟩
   ·rintro ⟨x,g,h⟩;obtain ⟨i,f,c,rfl⟩:=EH g;exact ⟨i,f,c,by simpa [eq_comm] using h⟩
  rw [e,Bool.true_and];cases l.any fun x=>decide (n=x) <;> rfl
theorem U6:∀ (n:Nat) (s:AV) (nodes l:Ne),MT (JA s [] [])->S2 s->nodes.length=s.p.Nodes.length->l.length+n=s.p.Edges.length->∀ m,n+1<=m->DB m s nodes l=some (DG s (E6 n (JA s nodes l)))
 | n,s,nodes,l,e,t,y,z,m,B=>by
  obtain ⟨m,rfl⟩:∃ k,m=k+1:=⟨m - 1,by omega⟩;have u:=e.small;have R:s.p.Nodes.length<=1000:=u.1;have s2:s.p.Edges.length<=1000:=u.2.1;have S:s.g.Nodes.length<=1000:=u.2.2.1;have T:s.g.Edges.length<=1000:=u.2.2.2;have U:=t.m0;have V:=t.m1;have W:=t.out;rw [DB];by_cases f:(s.found.length:Int)=s.most+1
  ·rw [d1 (by simp; omega),Tu f]
  rw [d2 (by simp; omega)]
  match n,z,B with
  | 0,z,B=>
   rw [d1 (by simp; omega),IJ (by unfold BS; omega),bs,IJ (by unfold BS; omega),bs,CC (by simp; unfold BS; omega),bs];unfold DG;rw [List.take_of_length_le (by simp [E6]; omega)]; rfl
  | n+1,z,B=>
   have h:(0:Int)<=l.length:=by omega
   have r:(l.length:Int)<s.p.Edges.length:=by omega
   have d:=e.ends _ (AS (l:=s.p.Edges) h r);have H:(AB s.p.Edges l.length).From<nodes.length:=by rw [y]; exact d.2.1
   have I:(AB s.p.Edges l.length).To<nodes.length:=by rw [y]; exact d.2.2.2
   have v:(l.length:Int)<s.partial_.Edges.length:=by
    have:s.partial_.Edges.length=s.p.Edges.length:=e.pe;omega
   rw [d2 (by simp; omega),AK h r,bs];rw [T2 (fun i=>DG s ((A6 i.toNat).flatMap fun k=>if PH (JA s nodes l) k=true then E6 n (JA s nodes (l++[k])) else [])) (a:=0) (b:=(s.g.Edges.length:Int)) (s:=s) (by omega) (Nr t).symm (fun i C D=>by
    have J:∀ F,DG s ((A6 (i+1).toNat).flatMap F)=DG (DG s ((A6 i.toNat).flatMap F)) (F i):=by
     intro F;rw [SQ,KO C,List.flatMap_append]; simp
    rw [J];generalize (A6 i.toNat).flatMap (fun k=>if PH (JA s nodes l) k=true then E6 n (JA s nodes (l++[k])) else [])=L;have E:=Tv t L;rw [d1 (by rw [zzX]; exact D)];have K:AL (DG s L).g.Edges i=some (AB s.g.Edges i):=AK C D;have M:AL (DG s L).partial_.Edges (l.length:Int)=some (AB s.partial_.Edges l.length):=AK h v;have N:D2 (DG s L) l i=some (s.injective&&l.any fun x=>decide (i=x)):=aY (DG s L) (by omega) i;have key:((B2 [] l).bind fun j=>
      (B2 j [i]).bind fun o=>
      (DB m (DG s L) nodes o).bind fun q=>
      some (.next (q,A3 (i+1)):C2 (AV × Int) AV))=some (.next (DG (DG s L) (E6 n (JA s nodes (l++[i]))),i+1)):=by
     have G:=U6 n (DG s L) nodes (l++[i]) ⟨e.pn,e.pe,e.ends,e.kinds,e.small⟩ E y (by show (l++[i]).length+n=s.p.Edges.length; rw [d4]; simp; omega) m (by omega);have O:E6 n (JA (DG s L) nodes (l++[i]))=E6 n (JA s nodes (l++[i])):=OW n (JA s nodes (l++[i])) _;rw [O] at G;rw [IJ (by unfold BS; omega),bs,CC (by simp; unfold BS; omega),bs,G,bs,BC (by omega) (by omega)]
    rw [K,bs,M,bs,N,key];simp only [bs];rw [AK d.1 H,AK d.2.2.1 I,BC (n:=i+1) (by omega) (by omega)];simp only [bs];have w:PH (JA s nodes l) i=(((decide (AB s.partial_.Edges l.length<0)||decide (AB s.partial_.Edges l.length=i))&&decide (AB s.g.Edges i=⟨(AB s.p.Edges l.length).Type',AB nodes (AB s.p.Edges l.length).From,AB nodes (AB s.p.Edges l.length).To⟩))&&!(s.injective&&l.any fun x=>decide (i=x))):=rfl;have P:decide (AB s.g.Edges i=⟨(AB s.p.Edges l.length).Type',AB nodes (AB s.p.Edges l.length).From,AB nodes (AB s.p.Edges l.length).To⟩)=(decide ((AB s.p.Edges l.length).Type'=(AB s.g.Edges i).Type')&&decide ((AB s.g.Edges i).From=AB nodes (AB s.p.Edges l.length).From)&&decide ((AB s.g.Edges i).To=AB nodes (AB s.p.Edges l.length).To)):=by
     rw [Bool.eq_iff_iff];simp only [zzZ,zzX];generalize AB s.g.Edges i=x;obtain ⟨X,Y,Z⟩:=x;simp only [DK.mk.injEq];constructor
     ·rintro ⟨a,b,c⟩; exact ⟨⟨a.symm,b⟩,c⟩
     ·rintro ⟨⟨a,b⟩,c⟩; exact ⟨a.symm,b,c⟩
    have Q:(decide (AB s.partial_.Edges l.length<0)||decide (AB s.partial_.Edges l.length=i))=!(decide (0<=AB s.partial_.Edges l.length)&&!decide (AB s.partial_.Edges l.length=i)):=by
     rw [Bool.not_and,Bool.not_not];congr 1;rw [←decide_not];exact decide_eq_decide.2 (by omega)
    rw [w,P,Q];generalize E6 n (JA s nodes (l++[i]))=A;generalize decide (0<=AB s.partial_.Edges l.length)=c1;generalize decide (AB s.partial_.Edges l.length=i)=c2;generalize decide ((AB s.p.Edges l.length).Type'=(AB s.g.Edges i).Type')=c3;generalize decide ((AB s.g.Edges i).From=AB nodes (AB s.p.Edges l.length).From)=c4;generalize decide ((AB s.g.Edges i).To=AB nodes (AB s.p.Edges l.length).To)=c5;generalize (s.injective&&l.any fun x=>decide (i=x))=c6;cases c1 <;> cases c2 <;> cases c3 <;> cases c4 <;> cases c5 <;> cases c6 <;> first | rfl | (simp only [Bool.and_self,Bool.and_true,Bool.true_and,Bool.and_false,Bool.false_and,Bool.not_true,Bool.not_false,Bool.or_true,Bool.or_false,Bool.false_or,Bool.true_or,if_true,Bool.false_eq_true,if_false,Nr E,bs]; try rfl)) (by rw [d2 (by simp [DG])]),D5,Int.toNat_natCast,E6]
   rfl
end Go.Sf.Sc
namespace Go.Sf.Sc
open Go Go.Sf
def PP (s:AV) (l:Ne) (i k:Int):Bool:=decide (AB s.g.Edges k=⟨(AB s.p.Edges i).Type',AB l (AB s.p.Edges i).From,AB l (AB s.p.Edges i).To⟩)
def Py (s:AV) (l:Ne) (i:Int):Bool:=(decide ((AB s.p.Edges i).From<l.length)&&decide ((AB s.p.Edges i).To<l.length))&&!(A6 s.g.Edges.length).any (PP s l i)
theorem jO {s:AV} {l:Ne} (n:MT (JA s [] [])):G7 s l=some (!anyR (Py s l) 0 s.p.Edges.length):=by
 unfold G7;rw [CP (Py s l) false]
 ·cases anyR (Py s l) 0 s.p.Edges.length <;> rfl
 ·intro i f h _;have m:=n.ends _ (AS (l:=s.p.Edges) f h);rw [AK f h,bs];unfold Py;by_cases d:(AB s.p.Edges i).From<l.length
  ·by_cases e:(AB s.p.Edges i).To<l.length
   ·rw [d2 (by simp; omega),E8 (fun k=>(A6 k.toNat).any (PP s l i)) (by omega) (by rfl),bs,Int.toNat_natCast,decide_eq_true d,decide_eq_true e]
    ·cases (A6 s.g.Edges.length).any (PP s l i) <;> rfl
    ·intro k j o;rw [AK j o,bs,KO j,List.any_append];have q:PP s l i k=(decide ((AB s.p.Edges i).Type'=(AB s.g.Edges k).Type')&&decide ((AB s.g.Edges k).From=AB l (AB s.p.Edges i).From)&&decide ((AB s.g.Edges k).To=AB l (AB s.p.Edges i).To)):=by
      unfold PP;rw [Bool.eq_iff_iff];simp only [zzZ,zzX];generalize AB s.g.Edges k=x;obtain ⟨r,t,u⟩:=x;simp only [DK.mk.injEq];constructor
      ·rintro ⟨a,b,c⟩; exact ⟨⟨a.symm,b⟩,c⟩
      ·rintro ⟨⟨a,b⟩,c⟩; exact ⟨a.symm,b,c⟩
     rw [AK m.1 d,AK m.2.2.1 e];simp only [List.any_cons,List.any_nil,Bool.or_false,bs];rw [q];generalize (A6 k.toNat).any (PP s l i)=c1;generalize decide ((AB s.p.Edges i).Type'=(AB s.g.Edges k).Type')=c3;generalize decide ((AB s.g.Edges k).From=AB l (AB s.p.Edges i).From)=c4;generalize decide ((AB s.g.Edges k).To=AB l (AB s.p.Edges i).To)=c5;cases c1 <;> cases c3 <;> cases c4 <;> cases c5 <;> rfl
   ·rw [d1 (by simp; omega),decide_eq_false e]; simp
  ·rw [d1 (by simp; omega),decide_eq_false d]; simp
theorem jL {s:AV} {l:Ne} (d:MT (JA s [] [])) (h:anyR (Py s l) 0 s.p.Edges.length=true):∃ i,YV (JA s l []) i:=by
 rw [II] at h;obtain ⟨i,b,c,h⟩:=h;unfold Py at h;rw [zzZ,zzZ,zzX,zzX,Bool.not_eq_true',List.any_eq_false] at h;have a:=d.ends _ (AS (l:=s.p.Edges) b c);refine ⟨i,b,c,a.1,h.1.1,a.2.2.1,h.1.2,fun k f g=>?_⟩;have:=h.2 k (FL.2 ⟨f,g⟩);have e:PP s l i k=false:=by rw [←Bool.not_eq_true]; exact this
 rw [QT];show ((decide (AB s.partial_.Edges i<0)||decide (AB s.partial_.Edges i=k))&&PP s l i k)=false;rw [e,Bool.and_false]
end Go.Sf.Sc
namespace Go.Sf.Sc
open Go Go.Sf
theorem Vg:∀ (n:Nat) (f:AM) (o:List Morphism),G8 n (QJ f o)=G8 n f
 | 0,f,o=>OW _ f o
 | n+1,f,o=>by
  rw [G8,G8];refine congrArg (fun F=>(A6 f.g.Nodes.length).flatMap F) (funext fun k=>?_);have:=Vg n { f with nodes:=f.nodes++[k] } o;show (if PI f k=true then G8 n (QJ { f with nodes:=f.nodes++[k] } o) else [])=_;rw [this]
theorem U7:∀ (n:Nat) (s:AV) (l:Ne),IA s.t->MT (JA s [] [])->S2 s->l.length+n=s.p.Nodes.length->∀ m,n+1<=m->DC m s l=some (DG s (G8 n (JA s l [])))
 | n,s,l,O,c,r,J,m,z=>by
  obtain ⟨m,rfl⟩:∃ k,m=k+1:=⟨m - 1,by omega⟩;have K:=c.small;have Z:s.p.Nodes.length<=1000:=K.1;have s3:s.g.Nodes.length<=1000:=K.2.2.1;have h0:=r.m0;have h1:=r.m1;have h2:=r.out;rw [DC];by_cases j:(s.found.length:Int)=s.most+1
  ·rw [d1 (by simp; omega),Tu j]; rfl
  rw [d2 (by simp; omega),jO c];cases P:anyR (Py s l) 0 s.p.Edges.length
  case true=>
   obtain ⟨i,hi⟩:=jL c P;rw [Vr n (JA s l []) i rfl hi,Nr r]; rfl
  simp only [bs,Bool.not_false,Bool.not_true,Bool.false_eq_true,if_false]
  match n,J,z with
  | 0,J,z=>
   rw [d1 (by simp; omega),Option.bind_fun_some,G8];exact FV (s.p.Edges.length+1) fun m z=>U6 s.p.Edges.length s l [] c r (by omega) (by simp) m (by omega)
  | n+1,J,z=>
   have w:(l.length:Int)<s.p.Nodes.length:=by omega
   have o:(0:Int)<=l.length:=by omega
   have E:(l.length:Int)<s.partial_.Nodes.length:=by
    have:s.partial_.Nodes.length=s.p.Nodes.length:=c.pn;omega
   have Q:(J5 s.t).length=s.t.Nodes.length:=by unfold J5; rw [d7,CI]
   have d:=c.kinds _ (AS (l:=s.p.Nodes) o w);have G:AB s.p.Nodes l.length<s.t.Nodes.length:=by rw [←Q]; exact d.2.1
   have f:AB (J5 s.t) (AB s.p.Nodes l.length)=Ko s.t (AB s.p.Nodes l.length):=I9 (Ko s.t) d.1 G;rw [d2 (by simp; omega)];rw [T2 (fun i=>DG s ((A6 i.toNat).flatMap fun k=>if PI (JA s l []) k=true then G8 n (JA s (l++[k]) []) else [])) (a:=0) (b:=(s.g.Nodes.length:Int)) (s:=s) (by omega) (Nr r).symm (fun i B C=>by
    have R:∀ F,DG s ((A6 (i+1).toNat).flatMap F)=DG (DG s ((A6 i.toNat).flatMap F)) (F i):=by
     intro F;rw [SQ,KO B,List.flatMap_append]; simp
    rw [R];generalize (A6 i.toNat).flatMap (fun k=>if PI (JA s l []) k=true then G8 n (JA s (l++[k]) []) else [])=L;have M:=Tv r L;rw [d1 (by rw [zzX]; exact C)];have q:=d.2.2 _ (AS (l:=s.g.Nodes) B C);have y:AB s.g.Nodes i<s.t.Nodes.length:=by
     have h:=q.2;have e:AB (JA s [] []).is (AB s.p.Nodes l.length)=Ko s.t (AB s.p.Nodes l.length):=f;rw [e] at h;unfold Ko at h
     rwa [d7,CI] at h
    have H:H4 (DG s L).t (AB s.g.Nodes i) (AB s.p.Nodes l.length)=some (I4 s.t (AB s.g.Nodes i) (AB s.p.Nodes l.length)):=Rk O q.1 y d.1;have S:AL (DG s L).g.Nodes i=some (AB s.g.Nodes i):=AK B C;have T:AL (DG s L).partial_.Nodes (l.length:Int)=some (AB s.partial_.Nodes l.length):=AK o E;have U:D2 (DG s L) l i=some (s.injective&&l.any fun x=>decide (i=x)):=aY (DG s L) (by omega) i;have V:AL (DG s L).p.Nodes (l.length:Int)=some (AB s.p.Nodes l.length):=AK o w;have key:((B2 [] l).bind fun D=>
      (B2 D [i]).bind fun u=>
      (DC m (DG s L) u).bind fun v=>
      some (.next (v,A3 (i+1)):C2 (AV × Int) AV))=some (.next (DG (DG s L) (G8 n (JA s (l++[i]) [])),i+1)):=by
     have N:=U7 n (DG s L) (l++[i]) O ⟨c.pn,c.pe,c.ends,c.kinds,c.small⟩ M (by show (l++[i]).length+n=s.p.Nodes.length; rw [d4]; simp; omega) m (by omega);have W:G8 n (JA (DG s L) (l++[i]) [])=G8 n (JA s (l++[i]) []):=Vg n (JA s (l++[i]) []) _;rw [W] at N;rw [IJ (by unfold BS; omega),bs,CC (by simp; unfold BS; omega),bs,N,bs,BC (by omega) (by omega)]
    rw [T,bs,U,S,V,key];simp only [bs];rw [H,BC (n:=i+1) (by omega) (by omega)];simp only [bs];have I:PI (JA s l []) i=((decide (AB s.partial_.Nodes l.length<0)||decide (AB s.partial_.Nodes l.length=i))&&AB (AB (J5 s.t) (AB s.p.Nodes l.length)) (AB s.g.Nodes i)&&!(s.injective&&l.any fun x=>decide (i=x))):=rfl;have X:AB (AB (J5 s.t) (AB s.p.Nodes l.length)) (AB s.g.Nodes i)=I4 s.t (AB s.g.Nodes i) (AB s.p.Nodes l.length):=by
     rw [f];exact I9 (fun k=>I4 s.t k (AB s.p.Nodes l.length)) q.1 y
    have Y:(decide (AB s.partial_.Nodes l.length<0)||decide (AB s.partial_.Nodes l.length=i))=!(decide (0<=AB s.partial_.Nodes l.length)&&!decide (AB s.partial_.Nodes l.length=i)):=by
     rw [Bool.not_and,Bool.not_not];congr 1;rw [←decide_not];exact decide_eq_decide.2 (by omega)
    rw [I,X,Y];generalize G8 n (JA s (l++[i]) [])=A;generalize decide (0<=AB s.partial_.Nodes l.length)=c1;generalize decide (AB s.partial_.Nodes l.length=i)=c2;generalize I4 s.t (AB s.g.Nodes i) (AB s.p.Nodes l.length)=c3;generalize (s.injective&&l.any fun x=>decide (i=x))=c6;cases c1 <;> cases c2 <;> cases c3 <;> cases c6 <;> first | rfl | (simp only [Bool.and_self,Bool.and_true,Bool.true_and,Bool.and_false,Bool.false_and,Bool.not_true,Bool.not_false,Bool.or_true,Bool.or_false,if_true,Bool.false_eq_true,if_false,Nr M,bs]; try rfl)) (by rw [d2 (by simp [DG])]),D5,Int.toNat_natCast,G8]
   rfl
end Go.Sf.Sc
namespace Go.Sf.Sc
open Go Go.Sf
def FF (t:AC) (p g:Graph) (pa:Morphism) (inj:Bool):AM:=⟨p,g,J5 t,pa,inj,5001,[],[],[]⟩
def Lu (t:AC) (p g:Graph) (pa:Morphism) (inj:Bool):List Morphism:=(G8 p.Nodes.length (FF t p g pa inj)).take 5001
theorem fg {t:AC} {p g:Graph} {a:Morphism} {inj:Bool} (c:BX t) (hv:(BF t).2=0) (b:MT (FF t p g a inj)):H6 t p g a inj 5001=some (Lu t p g a inj):=by
 unfold H6;rw [dx c (HN hv) hv,bs];have h:=jB (f:=FF t p g a inj) b ⟨by show (0:Int)<=5001; omega,by show (5001:Int)<=10000; omega,by show ((0:Nat):Int)<=5001; omega⟩ rfl rfl;rw [Zl _ _ b rfl] at h;have e:AM.mk p g (J5 t) a inj 5001 [] [] []=FF t p g a inj:=rfl;rw [e,h]; rfl
theorem qG {t:AC} {p g:Graph} {a:Morphism} {inj:Bool} (hv:(BF t).2=0) (b:MT (FF t p g a inj)):Np t p g a inj 5000=some (Lu t p g a inj):=by
 unfold Np;have h:Jm ⟨t,p,g,a,inj,5000,[]⟩ []=some (DG ⟨t,p,g,a,inj,5000,[]⟩ (G8 p.Nodes.length (FF t p g a inj))):=
  FV (p.Nodes.length+1) fun m c=>U7 p.Nodes.length ⟨t,p,g,a,inj,5000,[]⟩ [] (HN hv) b ⟨by show (0:Int)<=5000; omega,by show (5000:Int)<=9999; omega,by show ((0:Nat):Int)<=5000+1; omega⟩ (by show 0+p.Nodes.length=p.Nodes.length; omega) m c
 rw [h]; rfl
end Go.Sf.Sc
namespace Go.Sf.Sc
open Go Go.Sf
def OY (n k:Int):Bool:=decide (k < -1)||decide (n<=k)
def NX (l:Ne) (n:Int):Int:=if l.any (OY n)=true then 6 else 0
theorem aJ (l:Ne) (n:Int):Hv l n=some (NX l n):=by
 unfold Hv NX;rw [show (fun b=>MJ b n)=(fun b=>some (OY n b)) from rfl,Vm (p:=OY n) (fun a _=>rfl),bs];cases l.any (OY n) <;> rfl
theorem Wi {l:Ne} {c:Int} (n:Int) (h:(l.length:Int)=c):J0 l c n=some (NX l n):=by
 unfold J0 NX;rw [d2 (by simp [h]),CP (fun i=>OY n (AB l i)) 6]
 ·have e:anyR (fun i=>OY n (AB l i)) 0 l.length=l.any (OY n):=by
   rw [Bool.eq_iff_iff,II,List.any_eq_true];constructor
   ·rintro ⟨i,a,b,h⟩;exact ⟨_,AS a b,h⟩
   ·rintro ⟨x,d,h⟩;obtain ⟨i,a,b,rfl⟩:=EH d;exact ⟨i,a,b,h⟩
  rw [e];cases l.any (OY n) <;> rfl
 ·intro i a b _;rw [AK a b,bs,bs];unfold OY;cases decide (AB l i < -1) <;> cases decide (n<=AB l i) <;> rfl
end Go.Sf.Sc
namespace Go.Sf.Sc
open Go Go.Sf
theorem Wa (t:AC) (g:Graph):GO t g=some (E5 t g):=by
 unfold GO E5;rw [show (fun b=>Ku b t)=(fun b=>some (decide ((t.Nodes.length:Int)<=b))) from rfl,Vm (p:=fun n=>decide ((t.Nodes.length:Int)<=n)) (fun a _=>rfl),bs,
  show (fun b=>Kv b t)=(fun b=>some (decide ((t.Edges.length:Int)<=b.Type'))) from rfl,Xj (p:=fun e=>decide ((t.Edges.length:Int)<=e.Type')) (fun a _=>rfl),bs]
 cases g.Nodes.any fun n=>decide ((t.Nodes.length:Int)<=n) <;> rfl
def GE (t:AC) (p g:Graph):Int:=if (BF t).2≠0 then (BF t).2 else if CZ p≠0 then CZ p else if CZ g≠0 then CZ g else if (E5 t p&&E5 t g)=true then 0 else 13
theorem X8 {t:AC} (e:BX t) (p g:Graph):HI t p g=some (GE t p g):=by
 unfold HI GE;rw [Rh e,bs];refine IR fun _=>?_;have h:forR (ρ:=Int) (fun (f:Int) (_:Unit)=>
   (AL [p,g] f).bind fun d=>
   (EU d).bind fun c=>
   if (!decide (c=0))=true then
   some (.ret c)
   else
   some (.next ())) 0 ([p,g].length:Int) ()=some (if CZ p≠0 then .inr (CZ p) else if CZ g≠0 then .inr (CZ g) else .inl ()):=by
  show forGo _ 2 0 ()=_;rw [Hr,show AL [p,g] 0=some p from rfl,bs,OM,bs];by_cases a:CZ p=0
  ·rw [d2 (by simp [a]),d2 (by simp [a])];show forGo _ 1 (0+1) ()=_;rw [Hr,show AL [p,g] (0+1)=some g from rfl,bs,OM,bs];by_cases b:CZ g=0
   ·rw [d2 (by simp [b]),d2 (by simp [b])]; rfl
   ·rw [d1 (by simp [b]),d1 b]
  ·rw [d1 (by simp [a]),d1 a]
 rw [h];by_cases a:CZ p=0
 ·by_cases b:CZ g=0
  ·simp only [a,b,ne_eq,not_true_eq_false,if_false,D5];rw [Wa,Wa,bs];cases E5 t p <;> cases E5 t g <;> rfl
  ·simp only [a,b,ne_eq,not_true_eq_false,not_false_eq_true,if_false,if_true,VG]
 ·simp only [a,ne_eq,not_false_eq_true,if_true,VG]
theorem Ss {t:AC} (a:BX t) (p g:Graph):Ja t p g=some (GE t p g):=by
 unfold Ja GE;rw [Rj a,bs];refine IR fun _=>?_;rw [NN,bs];refine IR fun b=>?_;rw [NN,bs];refine IR fun c=>?_;rw [UJ (E9 b),bs,UJ (E9 c)];cases E5 t p <;> cases E5 t g <;> rfl
end Go.Sf.Sc
namespace Go.Sf.Sc
open Go Go.Sf
theorem Vx {t:AC} {p g:Graph} {f:Morphism} {inj:Bool} (h:GE t p g=0) (j:f.Nodes.length=p.Nodes.length) (l:f.Edges.length=p.Edges.length):(BF t).2=0∧MT (FF t p g f inj):=by
 unfold GE at h;by_cases hv:(BF t).2=0
 ·rw [d2 (by simp [hv])] at h;by_cases c:CZ p=0
  ·rw [d2 (by simp [c])] at h;by_cases d:CZ g=0
   ·rw [d2 (by simp [d])] at h;by_cases a:(E5 t p&&E5 t g)=true
    ·rw [zzZ] at a;have op:=E9 c;have i:=E9 d;have tp:=NS op a.1;have q:=NS i a.2;have r:(J5 t).length=t.Nodes.length:=by unfold J5; rw [d7,CI]
     refine ⟨hv,j,l,fun e m=>?_,fun n o=>?_,Nat.le_trans op.nodes (by omega),Nat.le_trans op.edges (by omega),Nat.le_trans i.nodes (by omega),Nat.le_trans i.edges (by omega)⟩
     ·have:=op.fit e m;exact ⟨this.2.1.1,this.2.1.2,this.2.2.1,this.2.2.2⟩
     ·have:=tp.1 n o;refine ⟨this.1,by show n<((J5 t).length:Int); rw [r]; exact this.2,fun k b=>?_⟩;have b:=q.1 k b;refine ⟨b.1,?_⟩;show k<((AB (J5 t) n).length:Int);unfold J5;rw [I9 (Ko t) this.1 this.2];unfold Ko;rw [d7,CI]; exact b.2
    ·rw [d2 a] at h; cases h
   ·rw [d1 (by simp [d])] at h; exact absurd h d
  ·rw [d1 (by simp [c])] at h; exact absurd h c
 ·rw [d1 (by simp [hv])] at h; exact absurd h hv
def Ob (t:AC) (p g:Graph) (pa:Morphism) (inj:Bool):List Morphism × Int:=
 if GE t p g≠0 then ([],GE t p g) else if ¬ (pa.Nodes.length=p.Nodes.length∧pa.Edges.length=p.Edges.length) then ([],20) else
 if NX pa.Nodes g.Nodes.length≠0 then ([],NX pa.Nodes g.Nodes.length) else if NX pa.Edges g.Edges.length≠0 then ([],NX pa.Edges g.Edges.length) else
 if 5000<(Lu t p g pa inj).length then ([],3) else (Lu t p g pa inj,0)
theorem cQ {t:AC} (c:BX t) (p g:Graph) (b:Morphism) (inj:Bool):GN t p g b inj=some (Ob t p g b inj):=by
 unfold GN Ob;rw [X8 c,bs];refine K1 fun e=>?_;refine Pb (by simp only [Bool.or_eq_true,Bool.not_eq_true',decide_eq_false_iff_not]; omega) fun a=>?_;have a:=Classical.not_not.1 a;rw [aJ,bs];refine K1 fun h=>?_;rw [aJ,bs];refine K1 fun i=>?_;obtain ⟨hv,f⟩:=Vx (inj:=inj) e a.1 a.2;unfold KL;rw [fg c hv f,bs];by_cases d:5000<(Lu t p g b inj).length
 ·rw [d1 (by rw [zzX]; omega),d1 d]; rfl
 ·rw [d2 (by rw [zzX]; omega),d2 d]; rfl
theorem cW {t:AC} (d:BX t) (p g:Graph) (b:Morphism) (inj:Bool):LG t p g b inj=some (Ob t p g b inj):=by
 unfold LG Ob;rw [Ss d,bs];refine K1 fun e=>?_;refine Pb (by simp only [Bool.or_eq_true,Bool.not_eq_true',decide_eq_false_iff_not]; omega) fun a=>?_;have a:=Classical.not_not.1 a;rw [Wi _ (by omega),bs];refine K1 fun h=>?_;rw [Wi _ (by omega),bs];refine K1 fun i=>?_;obtain ⟨hv,f⟩:=Vx (inj:=inj) e a.1 a.2;rw [qG hv f,bs];by_cases c:5000<(Lu t p g b inj).length
 ·rw [d1 (by rw [zzX]; omega),d1 c]
 ·rw [d2 (by rw [zzX]; omega),d2 c]
end Go.Sf.Sc
