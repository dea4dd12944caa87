/- Plain lemmas: what the functions of the program and of the reference compute. -/
import Derived.Test.YtlbmpkmkmkgniaaGreatDoorP1
import Derived.Test.YtlbmpkmkmkgniaaGreatDoorEval
set_option linter.all false
set_option maxRecDepth 100000
namespace Go.Sf.Sc
open Go Go.Sf
theorem fw {t:AC} (b:BX t) (p:Pattern) {c:AA} (d:EI c):ES t p c=some (Ih t p c):=by
 by_cases a:(BF t).2=0
 ·exact jM b a p d
 ·unfold ES Ih;rw [Vz b,bs];refine Ie fun h=>?_;exfalso;unfold J6 at h;rw [d0 a] at h;exact a h
end Go.Sf.Sc
namespace Go.Sf.Sc
open Go Go.Sf
theorem gq {α:Type} [Inhabited α] (b:α->α->Bool) {l m:List α} (d:∀ x∈l,∀ y∈m,(b x y=true↔x=y)) (e:l.length=m.length):anyR (fun i=>!b (AB l i) (AB m i)) 0 l.length=false↔l=m:=by
 rw [E6];constructor
 ·intro h;refine aB e (fun i a c=>?_);have:=h i a c;rw [Bool.not_eq_false'] at this;exact (d _ (AQ a c) _ (AQ a (by omega))).1 this
 ·rintro rfl i a c;rw [Bool.not_eq_false'];exact (d _ (AQ a c) _ (AQ a c)).2 rfl
theorem fT {α:Type} [Inhabited α] [DecidableEq α] {l m:List α} (f:l.length=m.length) {k:Unit->QQ} {c:Bool->QQ}:thenR (forR (ρ:=Bool) (fun (d:Int) (_:Unit)=>
 (AM l d).bind fun a=>
 (AM m d).bind fun b=>
 if (!decide (a=b))=true then
 some (.ret false)
 else
 some (.next ())) 0 (l.length:Int) ()) k c=if l=m then k () else c false:=by
 rw [CR (fun i=>!decide (AB l i=AB m i)) false]
 ·have:=gq (fun x y:α=>decide (x=y)) (l:=l) (m:=m) (fun _ _ _ _=>decide_eq_true_iff) f;by_cases h:l=m
  ·rw [this.2 h,d0 h]; rfl
  ·rw [d1 h];cases j:anyR (fun i=>!decide (AB l i=AB m i)) 0 l.length
   ·exact absurd (this.1 j) h
   ·rfl
 ·intro i e g _;rw [AI e g,bs,AI e (by omega),bs,J4]
theorem Ud {α:Type} [Inhabited α] [DecidableEq α] (l m:List α):(if (!decide ((l.length:Int)=(m.length:Int)))=true then
 some false
 else
 thenR (forR (ρ:=Bool) (fun (d:Int) (_:Unit)=>
 (AM l d).bind fun a=>
 (AM m d).bind fun b=>
 if (!decide (a=b))=true then
 some (.ret false)
 else
 some (.next ())) 0 (l.length:Int) ()) (fun _=>
 some true) (fun f=>some f))=some (decide (l=m)):=by
 by_cases c:l.length=m.length
 ·rw [d1 (by simp [c]),fT c];by_cases h:l=m
  ·rw [d0 h,decide_eq_true h]
  ·rw [d1 h,decide_eq_false h]
 ·rw [d0 (by simp; omega),decide_eq_false (fun e=>c (by rw [e]))]
theorem eQ (l m:IO):slices_Equal_int l m=some (decide (l=m)):=Ud l m
theorem gE (l m:IO):LY l m=some (decide (l=m)):=Ud l m
theorem YW (l m:IO):J8 l m=some (decide (l=m)):=Ud l m
noncomputable def eH (a b:AA):Bool:=@decide (a=b) (Classical.propDecidable _)
end Go.Sf.Sc
namespace Go.Sf.Sc
open Go Go.Sf
mutual
def cnt:AA->Nat
 | ⟨_,kids,_,_⟩=>1+KO kids
def KO:List AA->Nat
 | []=>0
 | k::l=>cnt k+KO l
end
mutual
def U2:AA->Nat
 | ⟨k,kids,_,_⟩=>(if k=5 then 1 else 0)+RP kids
def RP:List AA->Nat
 | []=>0
 | k::l=>max (U2 k) (RP l)
end
theorem Mv (c:AA):cnt c=1+KO c.Kids:=by cases c; rfl
theorem WL (c:AA):U2 c=(if c.Kind=5 then 1 else 0)+RP c.Kids:=by cases c; rfl
theorem fS {l:List AA} {k:Int} (a:0<=k) (b:k<l.length):l.drop k.toNat=AB l k::l.drop (k+1).toNat:=by
 rw [show (k+1).toNat=k.toNat+1 by omega,List.drop_eq_getElem_cons (by omega)];unfold AB;rw [List.getD_eq_getElem?_getD,List.getElem?_eq_getElem (by omega)]; rfl
theorem U6:∀ (N:Nat) (c:AA),SizeOf.sizeOf c<=N->(AE c).Sm->∀ most:Int,0<=most->most<=1000->∃ r,(∀ n,N<=n->GI n c most=some r)∧-1<=r∧r<=most - 1∧(0<=r->EI c∧(cnt c:Int)+r<=most)
 | 0,c,h,_,_,_,_=>by have:=D5 c; omega
 | N+1,c,h,Q,most,m0,m1=>by
  obtain ⟨G,H,v⟩:=fQ Q;obtain ⟨I,q,J⟩:=Ue c.Pattern;obtain ⟨K,x,L⟩:=fV G;have step:∀ n,N+1<=n->∃ m,n=m+1∧N<=m:=fun n a=>⟨n - 1,by omega,by omega⟩;cases I
  ·refine ⟨-1,fun n a=>?_,by omega,by omega,fun h=>by omega⟩;obtain ⟨n,rfl,_⟩:=step n a;rw [GI,q]; rfl
  cases K
  ·refine ⟨-1,fun n a=>?_,by omega,by omega,fun h=>by omega⟩;obtain ⟨n,rfl,_⟩:=step n a;rw [GI,q,bs,x]; rfl
  have loop:∀ (m:Nat) (k left:Int),0<=k->k+m=c.Kids.length->-1<=left->left<=1000->∃ b i,(∀ n,N<=n->Mn (ρ:=Int) (fun (e:Int × Int)=>
    if ((decide (e.2<(c.Kids.length:Int)))&&(decide (0<=e.1)))=true then
    (AM c.Kids e.2).bind fun s=>
    (GI n s e.1).bind fun t=>
    some (.next (t,A4 (e.2+1)))
    else
    some (.brk (e.1,e.2))) (left,k) (.inl (b,i)))∧-1<=b∧b<=left∧(0<=b->(∀ j,k<=j->j<c.Kids.length->EI (AB c.Kids j))∧(KO (c.Kids.drop k.toNat):Int)+b<=left):=by
   intro m
   induction m with
   | zero=>
    intro k left p D w l1;refine ⟨left,k,fun n a=>.brk ?_,w,by omega,fun _=>⟨fun j u o=>by omega,?_⟩⟩
    ·rw [d1 (by simp; omega)]
    ·rw [List.drop_of_length_le (by omega),KO]; omega
   | succ m P=>
    intro k left p D w l1;by_cases E:0<=left
    ·have d:=AQ (l:=c.Kids) p (by omega);have:=EP d;obtain ⟨r,M,O,R,B⟩:=U6 N _ (by omega) (v _ d) left E l1;obtain ⟨b,i,y,z,C,g⟩:=P (k+1) r (by omega) (by omega) O (by omega);refine ⟨b,i,fun n a=>.next (s':=(r,k+1)) ?_ (y n a),z,by omega,fun f=>⟨fun j u o=>?_,?_⟩⟩
     ·rw [d0 (by simp; omega),AI p (by omega),bs,M n a,bs,BG (by omega) (by omega)]
     ·by_cases F:j=k
      ·subst F; exact (B (by omega)).1
      ·exact (g f).1 j (by omega) o
     ·have q:=(B (by omega)).2;have x:=(g f).2;rw [fS p (by omega),KO];omega
    ·refine ⟨left,k,fun n a=>.brk ?_,w,by omega,fun h=>by omega⟩;rw [d1 (by simp; omega)]
  obtain ⟨b,i,y,z,C,g⟩:=loop c.Kids.length 0 (most - 1) (by omega) (by omega) (by omega) (by omega);refine ⟨b,fun n a=>?_,z,C,fun f=>⟨.mk c (J rfl) (L rfl) (fun k v=>?_),?_⟩⟩
  ·obtain ⟨n,rfl,A⟩:=step n a;rw [GI,q,bs,x];simp only [bs,Bool.not_true,Bool.false_eq_true,if_false];rw [BG (n:=most - 1) (by omega) (by omega),(y n A).eq,DT]
  ·obtain ⟨j,u,o,rfl⟩:=EH v;exact (g f).1 j u o
  ·have:=(g f).2;rw [show (0:Int).toNat=0 from rfl,List.drop_zero] at this;rw [Mv];omega
theorem U5 {c:AA} (a:(AE c).Sm):∃ b,N8 c=some b∧(b=true->EI c∧cnt c<=40):=by
 obtain ⟨r,d,_,_,f⟩:=U6 (SizeOf.sizeOf c) c (d2 _) a 40 (by omega) (by omega);have e:Qs c 40=some r:=FJ (SizeOf.sizeOf c) d;unfold N8;rw [e];exact ⟨_,rfl,fun h=>by have:=f (by simpa using h); exact ⟨this.1,by have:=this.2; simp at h; omega⟩⟩
theorem Ox:∀ {l:List AA} {k:AA},k∈l->cnt k<=KO l
 | x::l,k,h=>by
  rw [KO];rcases List.mem_cons.1 h with rfl | h
  ·omega
  ·have:=Ox h; omega
theorem YA:∀ (N:Nat) (c:AA),SizeOf.sizeOf c<=N->U2 c<=cnt c
 | 0,c,h=>by have:=D5 c; omega
 | N+1,c,h=>by
  have key:∀ l:List AA,(∀ k∈l,k∈c.Kids)->RP l<=KO l:=by
   intro l
   induction l with
   | nil=>intro _; exact d2 _
   | cons k l d=>
    intro a;have e:=d (fun x b=>a x (List.mem_cons_of_mem _ b));have:=EP (a k List.mem_cons_self);have f:=YA N k (by omega);rw [RP,KO];omega
  have:=key c.Kids (fun _ h=>h);rw [WL,Mv];split <;> omega
theorem YO:∀ (N:Nat) (c:AA),SizeOf.sizeOf c<=N->cnt c<=1000->KS N c=((cnt c:Int),(U2 c:Int))
 | 0,c,h,_=>by have:=D5 c; omega
 | N+1,c,h,p=>by
  have key:∀ (l:List AA) (a b:Nat),(∀ k∈l,k∈c.Kids)->a+KO l<=1000->l.foldl (fun s k=>(A4 (s.1+(KS N k).1),max s.2 (KS N k).2)) (((a:Int),(b:Int)):Int × Int)=(((a+KO l:Nat):Int),((max b (RP l):Nat):Int)):=by
   intro l
   induction l with
   | nil=>intro a b _ _; simp [KO,RP]
   | cons k l o=>
    intro a b f j;rw [KO] at j;have:=EP (f k List.mem_cons_self);rw [List.foldl_cons,YO N k (by omega) (by omega)];have m:A4 ((a:Int)+(cnt k:Int))=((a+cnt k:Nat):Int):=by rw [BG (by omega) (by omega)]; omega
    have n:max (b:Int) (U2 k:Int)=((max b (U2 k):Nat):Int):=by omega
    simp only [m,n];rw [o (a+cnt k) (max b (U2 k)) (fun x i=>f x (List.mem_cons_of_mem _ i)) (by omega),KO,RP,Nat.add_assoc,Nat.max_assoc]
  have d:=p;rw [Mv] at d;have:=key c.Kids 1 0 (fun _ h=>h) d;have g:=YA (N+1) c h;rw [KS];rw [show ((1,0):Int × Int)=(((1:Nat):Int),((0:Nat):Int)) from rfl,this,Mv,WL];rw [WL] at g;by_cases e:c.Kind=5
  ·rw [d0 e] at g ⊢;rw [d0 e];rw [BG (by simp only [Nat.zero_max]; omega) (by simp only [Nat.zero_max]; omega)];simp only [Nat.zero_max,Prod.mk.injEq,true_and];omega
  ·rw [d1 e,d1 e];simp
theorem cl {c:AA} (h:cnt c<=1000):Qf c=((cnt c:Int),(U2 c:Int)):=YO _ c (d2 _) h
end Go.Sf.Sc
namespace Go.Sf.Sc
open Go Go.Sf
structure MV (f:AN):Prop where
 pn:f.partial_.Nodes.length=f.p.Nodes.length
 pe:f.partial_.Edges.length=f.p.Edges.length
 ends : ∀ e ∈ f.p.Edges, 0 ≤ e.From ∧ e.From < f.p.Nodes.length ∧ 0 ≤ e.To ∧ e.To < f.p.Nodes.length
 kinds:∀ n∈f.p.Nodes,0<=n∧n<f.is.length∧∀ t∈f.g.Nodes,0<=t∧t<(AB f.is n).length
 small:f.p.Nodes.length<=1000∧f.p.Edges.length<=1000∧f.g.Nodes.length<=1000∧f.g.Edges.length<=1000
def K1 (f:AN) (i k:Int):Bool:=
 (decide (AB f.partial_.Edges i<0)||decide (AB f.partial_.Edges i=k))&&decide (AB f.g.Edges k=⟨(AB f.p.Edges i).Type',AB f.nodes (AB f.p.Edges i).From,AB f.nodes (AB f.p.Edges i).To⟩)
theorem aY {α:Type} {l:List α} (h:l≠[]):Wm l=some ():=by
 unfold Wm;cases l with
 | nil=>exact absurd rfl h
 | cons _ _=>rfl
theorem WZ {l:IO} {i:Int} (b:0<=i) (a:i<l.length):I8 l i=some (AB l i):=by
 unfold I8;rw [aY (by intro h; subst h; simp at a; omega),bs,AI b a,bs]
theorem ak {f:AN} (d:MV f) {i k:Int} (b:0<=i) (c:i<f.p.Edges.length) (j:0<=k) (l:k<f.g.Edges.length) (m:(AB f.p.Edges i).From<f.nodes.length) (n:(AB f.p.Edges i).To<f.nodes.length):E9 f i k=some (K1 f i k):=by
 have e:=d.ends _ (AQ b c);unfold E9 K1;rw [AI b c,bs,WZ b (by rw [d.pe]; exact c),bs,AI j l,bs,AI e.1 m,bs,AI e.2.2.1 n,bs];by_cases h:AB f.partial_.Edges i<0
 ·rw [d1 (by simp; omega)]; simp [h]
 ·by_cases a:AB f.partial_.Edges i=k
  ·rw [d1 (by simp [a])]; simp [a]
  ·rw [d0 (by simp [a]; omega)]; simp [h,a]
def Ng (f:AN):Bool:=!anyR (fun i=>decide (max (AB f.p.Edges i).From (AB f.p.Edges i).To=(f.nodes.length:Int) - 1)&&!anyR (fun k=>K1 f i k) 0 f.g.Edges.length) 0 f.p.Edges.length
theorem fI {f:Int->Bool->Option (CY Bool Bool)} (p:Int->Bool) {b:Int} (h:∀ i,0<=i->i<b->f i false=some (if p i=true then .brk true else .next false)):forR f 0 b false=some (.inl (anyR p 0 b)):=by
 have key:∀ (m:Nat) (i:Int),0<=i->i+m=b->forGo f m i false=some (.inl (anyR p i b)):=by
  intro m
  induction m with
  | zero=>
   intro i k hi;have:anyR p i b=false:=by rw [E6]; intro j g a; omega
   rw [this]; rfl
  | succ m l=>
   intro i k hi;rw [H4,h i k (by omega)];by_cases c:p i=true
   ·have:anyR p i b=true:=by rw [IY]; exact ⟨i,Int.le_refl _,by omega,c⟩
    rw [d0 c,this]
   ·have e:anyR p i b=anyR p (i+1) b:=by
     rw [Bool.eq_iff_iff,IY,IY];constructor
     ·rintro ⟨j,g,a,d⟩;have:j≠i:=fun e=>c (e ▸ d);exact ⟨j,by omega,a,d⟩
     ·rintro ⟨j,g,a,d⟩;exact ⟨j,by omega,a,d⟩
    rw [d1 c,e];exact l (i+1) (by omega) (by omega)
 unfold forR;by_cases n:0<=b
 ·exact key _ 0 (Int.le_refl _) (by omega)
 ·have:anyR p 0 b=false:=by rw [E6]; intro j g a; omega
  rw [this,show (b - 0).toNat=0 by omega]; rfl
theorem ZS {f:AN} (e:MV f) (m:0<f.nodes.length) (h:f.nodes.length<=1000):C6 f=some (Ng f):=by
 unfold C6 Ng;rw [CR (fun i=>decide (max (AB f.p.Edges i).From (AB f.p.Edges i).To=(f.nodes.length:Int) - 1)&&!anyR (fun k=>K1 f i k) 0 f.g.Edges.length) false]
 ·generalize anyR (fun i=>decide (max (AB f.p.Edges i).From (AB f.p.Edges i).To=(f.nodes.length:Int) - 1)&&!anyR (fun k=>K1 f i k) 0 f.g.Edges.length) 0 f.p.Edges.length=b;cases b <;> rfl
 ·intro i c d _;rw [AI c d,bs,BG (n:=(f.nodes.length:Int) - 1) (by omega) (by omega)];by_cases a:max (AB f.p.Edges i).From (AB f.p.Edges i).To=(f.nodes.length:Int) - 1
  ·rw [d1 (by simp [a]),fI (fun k=>K1 f i k) (fun k j l=>by
    rw [ak e c d j l (by omega) (by omega),bs,J4])]
   generalize anyR (fun k=>K1 f i k) 0 f.g.Edges.length=b;rw [decide_eq_true a];cases b <;> rfl
  ·rw [d0 (by simp [a]),d1 (by simp [a])]
def BW (n:Nat):IO:=(List.range n).map Int.ofNat
theorem Pn (n:Nat):BW (n+1)=BW n++[(n:Int)]:=by
 unfold BW;rw [List.range_succ,List.map_append]; rfl
def Pf (f:AN) (k:Int):Bool:=(decide (AB f.partial_.Nodes f.nodes.length<0)||decide (AB f.partial_.Nodes f.nodes.length=k))&&AB (AB f.is (AB f.p.Nodes f.nodes.length)) (AB f.g.Nodes k)&&!(f.injective&&f.nodes.any fun x=>decide (k=x))
def Pe (f:AN) (k:Int):Bool:=K1 f f.edges.length k&&!(f.injective&&f.edges.any fun x=>decide (k=x))
def E8:Nat->AN->List Morphism
 | 0,f=>[⟨f.nodes,f.edges⟩]
 | n+1,f=>(BW f.g.Edges.length).flatMap fun k=>if Pe f k=true then E8 n { f with edges:=f.edges++[k] } else []
def KL:Nat->AN->List Morphism
 | 0,f=>E8 f.p.Edges.length f
 | n+1,f=>(BW f.g.Nodes.length).flatMap fun k=>if (Pf f k&&Ng { f with nodes:=f.nodes++[k] })=true then KL n { f with nodes:=f.nodes++[k] } else []
theorem Vj {α:Type} (a b:List α) (m:Nat):((a.take m)++b).take m=(a++b).take m:=by
 by_cases h:a.length<=m
 ·rw [List.take_of_length_le h]
 ·rw [List.take_append_of_le_length (by simp; omega),List.take_append_of_le_length (by omega),List.take_take,Nat.min_self]
end Go.Sf.Sc
namespace Go.Sf.Sc
open Go Go.Sf
def Qm (f:AN) (o:List Morphism):AN:={ f with out:=o }
theorem MV.out {f:AN} (h:MV f) (o:List Morphism):MV (Qm f o):=⟨h.pn,h.pe,h.ends,h.kinds,h.small⟩
theorem Ot:∀ (n:Nat) (f:AN) (o:List Morphism),E8 n (Qm f o)=E8 n f
 | 0,_,_=>rfl
 | n+1,f,o=>by
  rw [E8,E8];refine congrArg (fun F=>(BW f.g.Edges.length).flatMap F) (funext fun k=>?_);have:=Ot n { f with edges:=f.edges++[k] } o;show (if Pe f k=true then E8 n (Qm { f with edges:=f.edges++[k] } o) else [])=_;rw [this]
theorem V7:∀ (n:Nat) (f:AN) (o:List Morphism),KL n (Qm f o)=KL n f
 | 0,f,o=>Ot _ f o
 | n+1,f,o=>by
  rw [KL,KL];refine congrArg (fun F=>(BW f.g.Nodes.length).flatMap F) (funext fun k=>?_);have:=V7 n { f with nodes:=f.nodes++[k] } o;show (if (Pf f k&&Ng { f with nodes:=f.nodes++[k] })=true then KL n (Qm { f with nodes:=f.nodes++[k] } o) else [])=_;rw [this]
def BU (f:AN) (l:List Morphism):AN:=Qm f ((f.out++l).take f.most.toNat)
structure UY (f:AN):Prop where
 m0:0<=f.most
 m1:f.most<=10000
 out:(f.out.length:Int)<=f.most
theorem K9 {f:AN} (h:UY f):BU f []=f:=by
 unfold BU;rw [List.append_nil,List.take_of_length_le (by have:=h.out; have:=h.m0; omega)]; rfl
theorem VH {f:AN} (h:(f.out.length:Int)=f.most) (l:List Morphism):BU f l=f:=by
 unfold BU;rw [List.take_append_of_le_length (by omega),List.take_of_length_le (by omega)]; rfl
theorem VK {f:AN} (h:UY f) (l:List Morphism):UY (BU f l):=by
 refine ⟨h.m0,h.m1,?_⟩;have:=h.m0;show (((f.out++l).take f.most.toNat).length:Int)<=f.most;rw [d4]; omega
theorem VJ (f:AN) (a b:List Morphism):BU (BU f a) b=BU f (a++b):=by
 show Qm f ((((f.out++a).take f.most.toNat)++b).take f.most.toNat)=_;rw [Vj,d7]; rfl
theorem Tp:∀ (n:Nat) (f:AN),MV f->UY f->f.nodes.length=f.p.Nodes.length->f.edges.length+n=f.p.Edges.length->∀ m,n+1<=m->BD m f=some (BU f (E8 n f))
 | n,f,d,r,K,v,m,w=>by
  obtain ⟨m,rfl⟩:∃ k,m=k+1:=⟨m - 1,by omega⟩;have M:=d.small;have N:=r.m0;have O:=r.m1;have P:=r.out;rw [BD];by_cases c:(f.out.length:Int)=f.most
  ·rw [d0 (by simpa using c),VH c]; rfl
  rw [d1 (by simpa using c),d1 (by simp; omega)]
  match n,v,w with
  | 0,v,w=>
   rw [d1 (by simp; omega)];unfold slices_Clone_int;rw [FE (by unfold BN; omega),bs,FE (by unfold BN; omega),bs,CF (by simp; unfold BN; omega),bs,bs];unfold BU;rw [List.take_of_length_le (by simp [E8]; omega)]; rfl
  | n+1,v,w=>
   rw [d0 (by simp; omega)];have F:∀ k,Pe f k=true->MV { f with edges:=f.edges++[k] }:=fun k _=>⟨d.pn,d.pe,d.ends,d.kinds,d.small⟩;rw [DO (a:=0) (s:=f) (fun i=>BU f ((BW i.toNat).flatMap fun k=>if Pe f k=true then E8 n { f with edges:=f.edges++[k] } else [])) (by omega) (K9 r)]
   ·rw [bs,bs,Int.toNat_natCast,E8]
   ·intro i B C;have D:BW (i+1).toNat=BW i.toNat++[i]:=by
     rw [show (i+1).toNat=i.toNat+1 by omega,Pn];rw [show ((i.toNat:Nat):Int)=i by omega]
    have E:∀ l,BU f ((BW (i+1).toNat).flatMap l)=BU (BU f ((BW i.toNat).flatMap l)) (l i):=by
     intro l;rw [VJ,D,List.flatMap_append]; simp
    rw [E];generalize (BW i.toNat).flatMap (fun k=>if Pe f k=true then E8 n { f with edges:=f.edges++[k] } else [])=L;have j:=VK r L;have t:MV (BU f L):=d.out _;have y:=d.ends _ (AQ (l:=f.p.Edges) (i:=(f.edges.length:Int)) (by omega) (by omega));rw [ak t (i:=(f.edges.length:Int)) (k:=i) (by omega) (by show _<(f.p.Edges.length:Int); omega) B (by exact C) (by show (AB f.p.Edges f.edges.length).From<(f.nodes.length:Int); omega) (by show (AB f.p.Edges f.edges.length).To<(f.nodes.length:Int); omega),bs];have G:slices_Contains_int (BU f L).edges i=some (f.edges.any fun x=>decide (i=x)):=Tg f.edges i;rw [G];have o:K1 (BU f L) f.edges.length i=K1 f f.edges.length i:=rfl;have key:((BV (BU f L).edges [i]).bind fun e=>
      (BD m (AN.mk (BU f L).p (BU f L).g (BU f L).is (BU f L).partial_ (BU f L).injective (BU f L).most (BU f L).nodes e (BU f L).out)).bind fun b=>
      (slc b.edges 0 (f.edges.length:Int)).bind fun h=>
      some (AN.mk b.p b.g b.is b.partial_ b.injective b.most b.nodes h b.out))=some (BU (BU f L) (E8 n { f with edges:=f.edges++[i] })):=by
     have H:BV (BU f L).edges [i]=some (f.edges++[i]):=CF (by show f.edges.length+1<=BN; unfold BN; omega);have z:=Tp n { BU f L with edges:=f.edges++[i] } ⟨d.pn,d.pe,d.ends,d.kinds,d.small⟩ ⟨j.m0,j.m1,j.out⟩ K (by show (f.edges++[i]).length+n=f.p.Edges.length; simp; omega) m (by omega);have I:E8 n { BU f L with edges:=f.edges++[i] }=E8 n { f with edges:=f.edges++[i] }:=Ot n { f with edges:=f.edges++[i] } _;rw [I] at z;rw [H,bs];show (BD m { BU f L with edges:=f.edges++[i] }).bind _=_;rw [z,bs];have J:slc (BU { BU f L with edges:=f.edges++[i] } (E8 n { f with edges:=f.edges++[i] })).edges 0 (f.edges.length:Int)=some f.edges:=by
      show slc (f.edges++[i]) 0 (f.edges.length:Int)=_;rw [MU (by omega) (by rw [d3]; omega),Int.toNat_natCast,List.take_left]
     rw [J]; rfl
    rw [key,o];have u:Pe f i=(K1 f f.edges.length i&&!(f.injective&&f.edges.any fun x=>decide (i=x))):=rfl;have q:(BU f L).injective=f.injective:=rfl;rw [u,q];generalize Q:E8 n { f with edges:=f.edges++[i] }=A;cases K1 f f.edges.length i
    ·simp only [Bool.false_and,Bool.false_eq_true,if_false,K9 j]; rfl
    ·cases f.injective
     ·rfl
     ·cases f.edges.any fun x=>decide (i=x)
      ·rfl
      ·simp only [Bool.and_self,Bool.not_true,Bool.and_false,Bool.false_eq_true,if_false,K9 j]; rfl
end Go.Sf.Sc
namespace Go.Sf.Sc
open Go Go.Sf
theorem Tq:∀ (n:Nat) (f:AN),MV f->UY f->f.edges=[]->f.nodes.length+n=f.p.Nodes.length->∀ m,n+f.p.Edges.length+1<=m->BD m f=some (BU f (KL n f))
 | 0,f,d,r,y,Q,m,R=>by
  rw [KL];exact Tp _ f d r (by omega) (by rw [y]; simp) m (by omega)
 | n+1,f,d,r,y,Q,m,R=>by
  obtain ⟨m,rfl⟩:∃ k,m=k+1:=⟨m - 1,by omega⟩;have S:=d.small;have T:=r.m0;have U:=r.m1;have V:=r.out;rw [BD];by_cases c:(f.out.length:Int)=f.most
  ·rw [d0 (by simpa using c),VH c]; rfl
  rw [d1 (by simpa using c),d0 (by simp; omega)];rw [DO (a:=0) (s:=f) (fun i=>BU f ((BW i.toNat).flatMap fun k=>if (Pf f k&&Ng { f with nodes:=f.nodes++[k] })=true then KL n { f with nodes:=f.nodes++[k] } else [])) (by omega) (K9 r)]
  ·rw [bs,bs,Int.toNat_natCast,KL]
  ·intro i z B;have E:BW (i+1).toNat=BW i.toNat++[i]:=by
    rw [show (i+1).toNat=i.toNat+1 by omega,Pn];rw [show ((i.toNat:Nat):Int)=i by omega]
   have F:∀ l,BU f ((BW (i+1).toNat).flatMap l)=BU (BU f ((BW i.toNat).flatMap l)) (l i):=by
    intro l;rw [VJ,E,List.flatMap_append]; simp
   rw [F];generalize (BW i.toNat).flatMap (fun k=>if (Pf f k&&Ng { f with nodes:=f.nodes++[k] })=true then KL n { f with nodes:=f.nodes++[k] } else [])=L;have j:=VK r L;have o:(f.nodes.length:Int)<(f.p.Nodes.length:Int):=by omega
   have q:=d.kinds _ (AQ (l:=f.p.Nodes) (i:=(f.nodes.length:Int)) (by omega) o);have u:=q.2.2 _ (AQ z B);have key:((BV (BU f L).nodes [i]).bind fun e=>
     (C6 (AN.mk (BU f L).p (BU f L).g (BU f L).is (BU f L).partial_ (BU f L).injective (BU f L).most e (BU f L).edges (BU f L).out)).bind fun t=>
     if t=true then
     (BD m (AN.mk (BU f L).p (BU f L).g (BU f L).is (BU f L).partial_ (BU f L).injective (BU f L).most e (BU f L).edges (BU f L).out)).bind fun b=>
     (slc b.nodes 0 (f.nodes.length:Int)).bind fun h=>
     some (AN.mk b.p b.g b.is b.partial_ b.injective b.most h b.edges b.out)
     else
     (slc e 0 (f.nodes.length:Int)).bind fun h=>
     some (AN.mk (BU f L).p (BU f L).g (BU f L).is (BU f L).partial_ (BU f L).injective (BU f L).most h (BU f L).edges (BU f L).out))=some (BU (BU f L) (if Ng { f with nodes:=f.nodes++[i] }=true then KL n { f with nodes:=f.nodes++[i] } else [])):=by
    have G:BV (BU f L).nodes [i]=some (f.nodes++[i]):=CF (by show f.nodes.length+1<=BN; unfold BN; omega);have C:slc (f.nodes++[i]) 0 (f.nodes.length:Int)=some f.nodes:=by
     rw [MU (by omega) (by rw [d3]; omega),Int.toNat_natCast,List.take_left]
    have H:C6 { BU f L with nodes:=f.nodes++[i] }=some (Ng { f with nodes:=f.nodes++[i] }):=ZS (f:={ BU f L with nodes:=f.nodes++[i] }) ⟨d.pn,d.pe,d.ends,d.kinds,d.small⟩ (by show 0<(f.nodes++[i]).length; simp) (by show (f.nodes++[i]).length<=1000; rw [d3]; simp; omega);have D:=Tq n { BU f L with nodes:=f.nodes++[i] } ⟨d.pn,d.pe,d.ends,d.kinds,d.small⟩ ⟨j.m0,j.m1,j.out⟩ y (by show (f.nodes++[i]).length+n=f.p.Nodes.length; rw [d3]; simp; omega) m (by show n+f.p.Edges.length+1<=m; omega);have I:KL n { BU f L with nodes:=f.nodes++[i] }=KL n { f with nodes:=f.nodes++[i] }:=V7 n { f with nodes:=f.nodes++[i] } _;rw [I] at D;rw [G,bs];show (C6 { BU f L with nodes:=f.nodes++[i] }).bind _=_;rw [H,bs];cases Ng { f with nodes:=f.nodes++[i] }
    ·rw [d1 (by decide),d1 (by decide),C,K9 j]; rfl
    ·rw [d0 rfl,d0 rfl];show (BD m { BU f L with nodes:=f.nodes++[i] }).bind _=_;rw [D,bs];have J:slc (BU { BU f L with nodes:=f.nodes++[i] } (KL n { f with nodes:=f.nodes++[i] })).nodes 0 (f.nodes.length:Int)=some f.nodes:=C;rw [J]; rfl
   have K:I8 (BU f L).partial_.Nodes (f.nodes.length:Int)=some (AB f.partial_.Nodes f.nodes.length):=WZ (by omega) (by show (f.nodes.length:Int)<(f.partial_.Nodes.length:Int); rw [d.pn]; exact o);have M:AM (BU f L).p.Nodes (f.nodes.length:Int)=some (AB f.p.Nodes f.nodes.length):=AI (by omega) o;have hi:AM (BU f L).is (AB f.p.Nodes f.nodes.length)=some (AB f.is (AB f.p.Nodes f.nodes.length)):=AI q.1 q.2.1;have N:AM (AB f.is (AB f.p.Nodes f.nodes.length)) (AB f.g.Nodes i)=some (AB (AB f.is (AB f.p.Nodes f.nodes.length)) (AB f.g.Nodes i)):=AI u.1 u.2;have O:slices_Contains_int (BU f L).nodes i=some (f.nodes.any fun x=>decide (i=x)):=Tg f.nodes i;have v:(BU f L).injective=f.injective:=rfl;have w:Pf f i=((decide (AB f.partial_.Nodes f.nodes.length<0)||decide (AB f.partial_.Nodes f.nodes.length=i))&&AB (AB f.is (AB f.p.Nodes f.nodes.length)) (AB f.g.Nodes i)&&!(f.injective&&f.nodes.any fun x=>decide (i=x))):=rfl;rw [AI z B,bs,K,bs,M,bs,hi,bs,N,bs,O,key,v,w];generalize AB (AB f.is (AB f.p.Nodes f.nodes.length)) (AB f.g.Nodes i)=c2;have P:(decide (0<=AB f.partial_.Nodes f.nodes.length)&&!decide (AB f.partial_.Nodes f.nodes.length=i))=!(decide (AB f.partial_.Nodes f.nodes.length<0)||decide (AB f.partial_.Nodes f.nodes.length=i)):=by
    rw [Bool.not_or];congr 1;rw [←decide_not];exact decide_eq_decide.2 (by omega)
   rw [P];generalize (decide (AB f.partial_.Nodes f.nodes.length<0)||decide (AB f.partial_.Nodes f.nodes.length=i))=c1;generalize Ng { f with nodes:=f.nodes++[i] }=c5;generalize KL n { f with nodes:=f.nodes++[i] }=A;cases c1
   ·simp only [Bool.false_and,Bool.false_eq_true,if_false,K9 j]; rfl
   ·cases c2
    ·simp only [Bool.and_false,Bool.false_and,Bool.false_eq_true,if_false,K9 j]; rfl
    ·cases f.injective
     ·rfl
     ·cases f.nodes.any fun x=>decide (i=x)
      ·rfl
      ·simp only [Bool.and_self,Bool.not_true,Bool.and_false,Bool.false_and,Bool.false_eq_true,if_false,K9 j]; rfl
theorem jP {f:AN} (a:MV f) (b:UY f) (c:f.edges=[]) (d:f.nodes=[]):GZ f=some (BU f (KL f.p.Nodes.length f)):=
 FJ (f.p.Nodes.length+f.p.Edges.length+1) fun m e=>Tq _ f a b c (by rw [d]; simp) m e
end Go.Sf.Sc
namespace Go.Sf.Sc
open Go Go.Sf
theorem D2 (n:Nat):(BW n).length=n:=by simp [BW]
theorem Hr {n:Nat} {i:Int}:i∈BW n↔0<=i∧i<n:=by
 unfold BW;rw [List.mem_map];constructor
 ·rintro ⟨k,a,rfl⟩;have:=List.mem_range.1 a;exact ⟨Int.natCast_nonneg k,Int.ofNat_lt.2 this⟩
 ·rintro ⟨b,c⟩;exact ⟨i.toNat,List.mem_range.2 (by omega),by show ((i.toNat:Nat):Int)=i; omega⟩
theorem Mj {n:Nat} {α:Type} [Inhabited α] (F:Int->α) {i:Int} (a:0<=i) (b:i<n):AB ((BW n).map F) i=F i:=by
 unfold AB BW;rw [List.map_map,List.getD_eq_getElem?_getD,List.getElem?_map,List.getElem?_range (by omega)];show F (Int.ofNat i.toNat)=F i;congr 1;show ((i.toNat:Nat):Int)=i;omega
theorem Jf {i:Int} (a:0<=i):BW (i+1).toNat=BW i.toNat++[i]:=by
 rw [show (i+1).toNat=i.toNat+1 by omega,Pn,show ((i.toNat:Nat):Int)=i by omega]
def Kx (t:AC) (a:Int):dD:=(BW t.Nodes.length).map fun k=>JH t k a
def KF (t:AC):List dD:=(BW t.Nodes.length).map (Kx t)
theorem ft {t:AC} (c:BX t) (h:IP t) (hv:(BF t).2=0) {a:Int} (d:0<=a) (e:a<t.Nodes.length):Iq t a=some ((BW t.Nodes.length).filter fun i=>JH t i a,0):=by
 have j:=h.nodes;unfold Iq;have g:JG t a=true:=by simp [JG,d,e]
 rw [Ul c,bs,d1 (by simp [hv,g])];rw [DO (fun i=>(BW i.toNat).filter fun i=>JH t i a) (by omega) (by rfl),bs,Int.toNat_natCast];intro i b f;rw [cr h b f,bs,Jf b,List.filter_append];have k:((BW i.toNat).filter fun i=>JH t i a).length<=i.toNat:=by
  have:=List.length_filter_le (fun i=>JH t i a) (BW i.toNat)
  rwa [D2] at this
 by_cases hi:JH t i a=true
 ·rw [d0 hi,CF (by simp; unfold BN; omega),bs];simp [hi]
 ·rw [d1 hi];simp [hi]
theorem gr {n:Nat} {l:IO} (g:∀ x∈l,0<=x∧x<n):forA (fun (h:Int) (s2:dD)=>
  (AM l h).bind fun a=>
  (AM s2 a).bind fun _=>
  some (BZ s2 a true)) 0 (l.length:Int) (List.replicate n false)=some ((BW n).map fun k=>l.any fun x=>decide (x=k)):=by
 rw [DO (fun j=>(BW n).map fun k=>(l.take j.toNat).any fun x=>decide (x=k)) (by omega) (by
  refine List.ext_getElem (by simp [D2]) (fun j c o=>by simp))]
 ·rw [Int.toNat_natCast,List.take_length]
 ·intro j d c;have f:=g _ (AQ d c);rw [AI d c,bs,AI f.1 (by rw [d6,D2]; exact f.2),bs,GJ d c];congr 1;unfold BZ;refine List.ext_getElem (by simp) (fun k p i=>?_);have m:k<n:=by simpa [D2] using i
  rw [List.getElem_set];have e:(BW n)[k]'(by rw [D2]; exact m)=(k:Int):=by simp [BW]
  simp only [List.getElem_map,e,List.any_append,List.any_cons,List.any_nil,Bool.or_false];by_cases b:(AB l j).toNat=k
  ·rw [d0 b,decide_eq_true (show AB l j=(k:Int) by omega),Bool.or_true]
  ·rw [d1 b,decide_eq_false (show ¬ AB l j=(k:Int) by omega),Bool.or_false]
theorem eP {t:AC} (f:BX t) (h:IP t) (hv:(BF t).2=0):HV t=some (KF t):=by
 have p:=h.nodes;unfold HV;rw [DO (fun i=>(BW i.toNat).map (Kx t)) (by omega) (by rfl),bs,Int.toNat_natCast]
 ·rfl
 ·intro i d j;have o:Jp (t.Nodes.length:Int) false=some (List.replicate t.Nodes.length false):=by
   unfold Jp;rw [d0 (by omega),Int.toNat_natCast]
  rw [o,bs,ft f h hv d j,bs];have:=gr (n:=t.Nodes.length) (l:=(BW t.Nodes.length).filter fun k=>JH t k i) (fun x b=>Hr.1 (List.mem_filter.1 b).1);show (forA (fun (g:Int) (s2:dD)=>
   (AM ((BW t.Nodes.length).filter fun k=>JH t k i) g).bind fun a=>
   (AM s2 a).bind fun _=>
   some (BZ s2 a true)) 0 (((BW t.Nodes.length).filter fun k=>JH t k i).length:Int) (List.replicate t.Nodes.length false)).bind _=_
  rw [this,bs,CF (by rw [d6,D2]; simp; unfold BN; omega),bs,Jf d,List.map_append];congr 2;simp only [List.map_cons,List.map_nil];congr 1;unfold Kx;refine List.map_congr_left (fun k c=>?_);have c:=Hr.1 c;rw [Bool.eq_iff_iff,List.any_eq_true];constructor
  ·rintro ⟨x,b,e⟩;rw [zzX] at e;subst e;exact (List.mem_filter.1 b).2
  ·intro m;exact ⟨k,List.mem_filter.2 ⟨Hr.2 c,m⟩,by simp⟩
end Go.Sf.Sc
namespace Go.Sf.Sc
open Go Go.Sf
def HL:Nat->AN->List Morphism
 | 0,f=>E8 f.p.Edges.length f
 | n+1,f=>(BW f.g.Nodes.length).flatMap fun k=>if Pf f k=true then HL n { f with nodes:=f.nodes++[k] } else []
def Yt (f:AN) (i:Int):Prop:=0<=i∧i<f.p.Edges.length∧0<=(AB f.p.Edges i).From∧(AB f.p.Edges i).From<f.nodes.length∧0<=(AB f.p.Edges i).To∧(AB f.p.Edges i).To<f.nodes.length∧∀ k:Int,0<=k->k<f.g.Edges.length->K1 f i k=false
theorem Qx (f:AN) (i k:Int):K1 f i k=((decide (AB f.partial_.Edges i<0)||decide (AB f.partial_.Edges i=k))&&decide (AB f.g.Edges k=⟨(AB f.p.Edges i).Type',AB f.nodes (AB f.p.Edges i).From,AB f.nodes (AB f.p.Edges i).To⟩)):=rfl
theorem RE {α:Type} [Inhabited α] (l:List α) (x:α) {i:Int} (a:0<=i) (b:i<l.length):AB (l++[x]) i=AB l i:=by
 unfold AB;rw [List.getD_eq_getElem?_getD,List.getD_eq_getElem?_getD,List.getElem?_append_left (by omega)]
theorem aH:∀ (n:Nat) (f:AN) (i:Int),Yt f i->(f.edges.length:Int)<=i->i<f.edges.length+n->E8 n f=[]
 | 0,f,i,_,d,e=>by omega
 | n+1,f,i,b,d,e=>by
  rw [E8];refine List.flatMap_eq_nil_iff.2 (fun k a=>?_);have a:=Hr.1 a;by_cases c:(f.edges.length:Int)=i
  ·have:Pe f k=false:=by
    unfold Pe;rw [c,b.2.2.2.2.2.2 k a.1 a.2]; rfl
   rw [d1 (by rw [this]; decide)]
  ·split
   ·exact aH n { f with edges:=f.edges++[k] } i b (by show ((f.edges++[k]).length:Int)<=i; rw [d3]; simp; omega) (by show i<((f.edges++[k]).length:Int)+n; rw [d3]; simp; omega)
   ·rfl
theorem WJ:∀ (n:Nat) (f:AN) (i:Int),f.edges=[]->Yt f i->HL n f=[]
 | 0,f,i,b,a=>by
  rw [HL];exact aH _ f i a (by rw [b]; simpa using a.1) (by rw [b]; simpa using a.2.1)
 | n+1,f,i,b,a=>by
  rw [HL];refine List.flatMap_eq_nil_iff.2 (fun k s=>?_);split
  ·refine WJ n { f with nodes:=f.nodes++[k] } i b ?_;obtain ⟨l,m,c,o,d,q,r⟩:=a;have t:((f.nodes++[k]).length:Int)=f.nodes.length+1:=by rw [d3]; simp
   refine ⟨l,m,c,?_,d,?_,fun j e h=>?_⟩
   ·show (AB f.p.Edges i).From<((f.nodes++[k]).length:Int); omega
   ·show (AB f.p.Edges i).To<((f.nodes++[k]).length:Int); omega
   ·have:=r j e h;rw [Qx] at this ⊢;show ((decide (AB f.partial_.Edges i<0)||decide (AB f.partial_.Edges i=j))&&decide (AB f.g.Edges j=⟨(AB f.p.Edges i).Type',AB (f.nodes++[k]) (AB f.p.Edges i).From,AB (f.nodes++[k]) (AB f.p.Edges i).To⟩))=false;rw [RE _ _ c o,RE _ _ d q];exact this
  ·rfl
theorem ct {f:AN} (d:MV f) (h:Ng f=false):∃ i,Yt f i:=by
 unfold Ng at h;rw [Bool.not_eq_false',IY] at h;obtain ⟨i,b,c,h⟩:=h;rw [zzZ,zzX,Bool.not_eq_true',E6] at h;have a:=d.ends _ (AQ b c);exact ⟨i,b,c,a.1,by omega,a.2.2.1,by omega,h.2⟩
theorem aA:∀ (n:Nat) (f:AN),MV f->f.edges=[]->KL n f=HL n f
 | 0,_,_,_=>rfl
 | n+1,f,b,c=>by
  rw [KL,HL];refine congrArg (fun F=>(BW f.g.Nodes.length).flatMap F) (funext fun k=>?_);have a:MV { f with nodes:=f.nodes++[k] }:=⟨b.pn,b.pe,b.ends,b.kinds,b.small⟩;cases Pf f k
  ·rfl
  ·cases d:Ng { f with nodes:=f.nodes++[k] }
   ·obtain ⟨i,e⟩:=ct a d;rw [WJ n { f with nodes:=f.nodes++[k] } i c e]; rfl
   ·simp only [Bool.and_self,if_true];exact aA n _ a c
end Go.Sf.Sc
namespace Go.Sf.Sc
open Go Go.Sf
theorem UW {σ ρ:Type} {f:σ × Int->Option (CY (σ × Int) ρ)} (g:Int->σ) {a b:Int} {s:σ} (c:a<=b) (d:s=g a) (h:∀ i,a<=i->i<b->f (g i,i)=some (.next (g (i+1),i+1))) (e:f (g b,b)=some (.brk (g b,b))):It f (s,a)=some (.inl (g b,b)):=by
 subst d;have key:∀ (n:Nat) (i:Int),a<=i->i+n=b->Mn f (g i,i) (.inl (g b,b)):=by
  intro n
  induction n with
  | zero=>
   intro i _ hi;have:i=b:=by omega
   subst this;exact .brk e
  | succ n k=>
   intro i j l;exact .next (h i j (by omega)) (k (i+1) (by omega) (by omega))
 exact (key (b - a).toNat a (Int.le_refl _) (by omega)).eq
def FS (s:AW) (nodes edges:IO):AN:=⟨s.p,s.g,KF s.t,s.partial_,s.injective,s.most+1,nodes,edges,s.found⟩
def DH (s:AW) (l:List Morphism):AW:={ s with found:=(s.found++l).take (s.most+1).toNat }
structure TX (s:AW):Prop where
 m0:0<=s.most
 m1:s.most<=9999
 out:(s.found.length:Int)<=s.most+1
theorem N9 {s:AW} (h:TX s):DH s []=s:=by
 unfold DH;rw [List.append_nil,List.take_of_length_le (by have:=h.out; have:=h.m0; omega)]
theorem UP {s:AW} (h:(s.found.length:Int)=s.most+1) (l:List Morphism):DH s l=s:=by
 unfold DH;rw [List.take_append_of_le_length (by omega),List.take_of_length_le (by omega)]
theorem UQ {s:AW} (h:TX s) (l:List Morphism):TX (DH s l):=by
 refine ⟨h.m0,h.m1,?_⟩;have:=h.m0;show (((s.found++l).take (s.most+1).toNat).length:Int)<=s.most+1;rw [d4]; omega
theorem SV (s:AW) (a b:List Morphism):DH (DH s a) b=DH s (a++b):=by
 show ({ s with found:=(((s.found++a).take (s.most+1).toNat)++b).take (s.most+1).toNat }:AW)=_;rw [Vj,d7]; rfl
theorem bC (s:AW) {l:IO} (j:l.length<=1000) (n:Int):EB s l n=some (s.injective&&l.any fun x=>decide (n=x)):=by
 unfold EB;cases s.injective
 ·rw [SD (fun _=>false) true (a:=0) (b:=0) (Int.le_refl _) (fun i c d=>by omega) (by rw [d1 (by simp)])];rfl
 ·rw [SD (fun i=>decide (AB l i=n)) true (a:=0) (b:=l.length) (by omega) (fun i c d=>by
   rw [d0 (by simp; exact d),AI c d,bs,BG (by omega) (by omega),J4]) (by rw [d1 (by simp)])]
  have e:anyR (fun i=>decide (AB l i=n)) 0 l.length=l.any fun x=>decide (n=x):=by
   rw [Bool.eq_iff_iff,IY,List.any_eq_true];constructor
   ·rintro ⟨i,f,c,h⟩;exact ⟨_,AQ f c,by simpa [eq_comm] using h⟩
   ·rintro ⟨x,g,h⟩;obtain ⟨i,f,c,rfl⟩:=EH g;exact ⟨i,f,c,by simpa [eq_comm] using h⟩
  rw [e,Bool.true_and];cases l.any fun x=>decide (n=x) <;> rfl
theorem Vb:∀ (n:Nat) (s:AW) (nodes l:IO),MV (FS s [] [])->TX s->nodes.length=s.p.Nodes.length->l.length+n=s.p.Edges.length->∀ m,n+1<=m->DC m s nodes l=some (DH s (E8 n (FS s nodes l)))
 | n,s,nodes,l,e,t,y,z,m,B=>by
  obtain ⟨m,rfl⟩:∃ k,m=k+1:=⟨m - 1,by omega⟩;have u:=e.small;have R:s.p.Nodes.length<=1000:=u.1;have s2:s.p.Edges.length<=1000:=u.2.1;have S:s.g.Nodes.length<=1000:=u.2.2.1;have T:s.g.Edges.length<=1000:=u.2.2.2;have U:=t.m0;have V:=t.m1;have W:=t.out;rw [DC];by_cases f:(s.found.length:Int)=s.most+1
  ·rw [d0 (by simp; omega),UP f]
  rw [d1 (by simp; omega)]
  match n,z,B with
  | 0,z,B=>
   rw [d0 (by simp; omega),FE (by unfold BN; omega),bs,FE (by unfold BN; omega),bs,CF (by simp; unfold BN; omega),bs];unfold DH;rw [List.take_of_length_le (by simp [E8]; omega)]; rfl
  | n+1,z,B=>
   have h:(0:Int)<=l.length:=by omega
   have r:(l.length:Int)<s.p.Edges.length:=by omega
   have d:=e.ends _ (AQ (l:=s.p.Edges) h r);have H:(AB s.p.Edges l.length).From<nodes.length:=by rw [y]; exact d.2.1
   have I:(AB s.p.Edges l.length).To<nodes.length:=by rw [y]; exact d.2.2.2
   have v:(l.length:Int)<s.partial_.Edges.length:=by
    have:s.partial_.Edges.length=s.p.Edges.length:=e.pe;omega
   rw [d1 (by simp; omega),AI h r,bs];rw [UW (fun i=>DH s ((BW i.toNat).flatMap fun k=>if Pe (FS s nodes l) k=true then E8 n (FS s nodes (l++[k])) else [])) (a:=0) (b:=(s.g.Edges.length:Int)) (s:=s) (by omega) (N9 t).symm (fun i C D=>by
    have J:∀ F,DH s ((BW (i+1).toNat).flatMap F)=DH (DH s ((BW i.toNat).flatMap F)) (F i):=by
     intro F;rw [SV,Jf C,List.flatMap_append]; simp
    rw [J];generalize (BW i.toNat).flatMap (fun k=>if Pe (FS s nodes l) k=true then E8 n (FS s nodes (l++[k])) else [])=L;have E:=UQ t L;rw [d0 (by rw [zzX]; exact D)];have K:AM (DH s L).g.Edges i=some (AB s.g.Edges i):=AI C D;have M:AM (DH s L).partial_.Edges (l.length:Int)=some (AB s.partial_.Edges l.length):=AI h v;have N:EB (DH s L) l i=some (s.injective&&l.any fun x=>decide (i=x)):=bC (DH s L) (by omega) i;have key:((BV [] l).bind fun j=>
      (BV j [i]).bind fun o=>
      (DC m (DH s L) nodes o).bind fun q=>
      some (.next (q,A4 (i+1)):CY (AW × Int) AW))=some (.next (DH (DH s L) (E8 n (FS s nodes (l++[i]))),i+1)):=by
     have G:=Vb n (DH s L) nodes (l++[i]) ⟨e.pn,e.pe,e.ends,e.kinds,e.small⟩ E y (by show (l++[i]).length+n=s.p.Edges.length; rw [d3]; simp; omega) m (by omega);have O:E8 n (FS (DH s L) nodes (l++[i]))=E8 n (FS s nodes (l++[i])):=Ot n (FS s nodes (l++[i])) _;rw [O] at G;rw [FE (by unfold BN; omega),bs,CF (by simp; unfold BN; omega),bs,G,bs,BG (by omega) (by omega)]
    rw [K,bs,M,bs,N,key];simp only [bs];rw [AI d.1 H,AI d.2.2.1 I,BG (n:=i+1) (by omega) (by omega)];simp only [bs];have w:Pe (FS s nodes l) i=(((decide (AB s.partial_.Edges l.length<0)||decide (AB s.partial_.Edges l.length=i))&&decide (AB s.g.Edges i=⟨(AB s.p.Edges l.length).Type',AB nodes (AB s.p.Edges l.length).From,AB nodes (AB s.p.Edges l.length).To⟩))&&!(s.injective&&l.any fun x=>decide (i=x))):=rfl;have P:decide (AB s.g.Edges i=⟨(AB s.p.Edges l.length).Type',AB nodes (AB s.p.Edges l.length).From,AB nodes (AB s.p.Edges l.length).To⟩)=(decide ((AB s.p.Edges l.length).Type'=(AB s.g.Edges i).Type')&&decide ((AB s.g.Edges i).From=AB nodes (AB s.p.Edges l.length).From)&&decide ((AB s.g.Edges i).To=AB nodes (AB s.p.Edges l.length).To)):=by
     rw [Bool.eq_iff_iff];simp only [zzZ,zzX];generalize AB s.g.Edges i=x;obtain ⟨X,Y,Z⟩:=x;simp only [DU.mk.injEq];constructor
     ·rintro ⟨a,b,c⟩; exact ⟨⟨a.symm,b⟩,c⟩
     ·rintro ⟨⟨a,b⟩,c⟩; exact ⟨a.symm,b,c⟩
    have Q:(decide (AB s.partial_.Edges l.length<0)||decide (AB s.partial_.Edges l.length=i))=!(decide (0<=AB s.partial_.Edges l.length)&&!decide (AB s.partial_.Edges l.length=i)):=by
     rw [Bool.not_and,Bool.not_not];congr 1;rw [←decide_not];exact decide_eq_decide.2 (by omega)
    rw [w,P,Q];generalize E8 n (FS s nodes (l++[i]))=A;generalize decide (0<=AB s.partial_.Edges l.length)=c1;generalize decide (AB s.partial_.Edges l.length=i)=c2;generalize decide ((AB s.p.Edges l.length).Type'=(AB s.g.Edges i).Type')=c3;generalize decide ((AB s.g.Edges i).From=AB nodes (AB s.p.Edges l.length).From)=c4;generalize decide ((AB s.g.Edges i).To=AB nodes (AB s.p.Edges l.length).To)=c5;generalize (s.injective&&l.any fun x=>decide (i=x))=c6;cases c1 <;> cases c2 <;> cases c3 <;> cases c4 <;> cases c5 <;> cases c6 <;> first | rfl | (simp only [Bool.and_self,Bool.and_true,Bool.true_and,Bool.and_false,Bool.false_and,Bool.not_true,Bool.not_false,Bool.or_true,Bool.or_false,Bool.false_or,Bool.true_or,if_true,Bool.false_eq_true,if_false,N9 E,bs]; try rfl)) (by rw [d1 (by simp [DH])]),DT,Int.toNat_natCast,E8]
   rfl
end Go.Sf.Sc
namespace Go.Sf.Sc
open Go Go.Sf
def Pm (s:AW) (l:IO) (i k:Int):Bool:=decide (AB s.g.Edges k=⟨(AB s.p.Edges i).Type',AB l (AB s.p.Edges i).From,AB l (AB s.p.Edges i).To⟩)
def QP (s:AW) (l:IO) (i:Int):Bool:=(decide ((AB s.p.Edges i).From<l.length)&&decide ((AB s.p.Edges i).To<l.length))&&!(BW s.g.Edges.length).any (Pm s l i)
theorem ja {s:AW} {l:IO} (n:MV (FS s [] [])):HK s l=some (!anyR (QP s l) 0 s.p.Edges.length):=by
 unfold HK;rw [CR (QP s l) false]
 ·cases anyR (QP s l) 0 s.p.Edges.length <;> rfl
 ·intro i f h _;have m:=n.ends _ (AQ (l:=s.p.Edges) f h);rw [AI f h,bs];unfold QP;by_cases d:(AB s.p.Edges i).From<l.length
  ·by_cases e:(AB s.p.Edges i).To<l.length
   ·rw [d1 (by simp; omega),DO (fun k=>(BW k.toNat).any (Pm s l i)) (by omega) (by rfl),bs,Int.toNat_natCast,decide_eq_true d,decide_eq_true e]
    ·cases (BW s.g.Edges.length).any (Pm s l i) <;> rfl
    ·intro k j o;rw [AI j o,bs,Jf j,List.any_append];have q:Pm s l i k=(decide ((AB s.p.Edges i).Type'=(AB s.g.Edges k).Type')&&decide ((AB s.g.Edges k).From=AB l (AB s.p.Edges i).From)&&decide ((AB s.g.Edges k).To=AB l (AB s.p.Edges i).To)):=by
      unfold Pm;rw [Bool.eq_iff_iff];simp only [zzZ,zzX];generalize AB s.g.Edges k=x;obtain ⟨r,t,u⟩:=x;simp only [DU.mk.injEq];constructor
      ·rintro ⟨a,b,c⟩; exact ⟨⟨a.symm,b⟩,c⟩
      ·rintro ⟨⟨a,b⟩,c⟩; exact ⟨a.symm,b,c⟩
     rw [AI m.1 d,AI m.2.2.1 e];simp only [List.any_cons,List.any_nil,Bool.or_false,bs];rw [q];generalize (BW k.toNat).any (Pm s l i)=c1;generalize decide ((AB s.p.Edges i).Type'=(AB s.g.Edges k).Type')=c3;generalize decide ((AB s.g.Edges k).From=AB l (AB s.p.Edges i).From)=c4;generalize decide ((AB s.g.Edges k).To=AB l (AB s.p.Edges i).To)=c5;cases c1 <;> cases c3 <;> cases c4 <;> cases c5 <;> rfl
   ·rw [d0 (by simp; omega),decide_eq_false e]; simp
  ·rw [d0 (by simp; omega),decide_eq_false d]; simp
theorem jY {s:AW} {l:IO} (d:MV (FS s [] [])) (h:anyR (QP s l) 0 s.p.Edges.length=true):∃ i,Yt (FS s l []) i:=by
 rw [IY] at h;obtain ⟨i,b,c,h⟩:=h;unfold QP at h;rw [zzZ,zzZ,zzX,zzX,Bool.not_eq_true',List.any_eq_false] at h;have a:=d.ends _ (AQ (l:=s.p.Edges) b c);refine ⟨i,b,c,a.1,h.1.1,a.2.2.1,h.1.2,fun k f g=>?_⟩;have:=h.2 k (Hr.2 ⟨f,g⟩);have e:Pm s l i k=false:=by rw [←Bool.not_eq_true]; exact this
 rw [Qx];show ((decide (AB s.partial_.Edges i<0)||decide (AB s.partial_.Edges i=k))&&Pm s l i k)=false;rw [e,Bool.and_false]
end Go.Sf.Sc
namespace Go.Sf.Sc
open Go Go.Sf
theorem V8:∀ (n:Nat) (f:AN) (o:List Morphism),HL n (Qm f o)=HL n f
 | 0,f,o=>Ot _ f o
 | n+1,f,o=>by
  rw [HL,HL];refine congrArg (fun F=>(BW f.g.Nodes.length).flatMap F) (funext fun k=>?_);have:=V8 n { f with nodes:=f.nodes++[k] } o;show (if Pf f k=true then HL n (Qm { f with nodes:=f.nodes++[k] } o) else [])=_;rw [this]
theorem Vc:∀ (n:Nat) (s:AW) (l:IO),IP s.t->MV (FS s [] [])->TX s->l.length+n=s.p.Nodes.length->∀ m,n+1<=m->DD m s l=some (DH s (HL n (FS s l [])))
 | n,s,l,O,c,r,J,m,z=>by
  obtain ⟨m,rfl⟩:∃ k,m=k+1:=⟨m - 1,by omega⟩;have K:=c.small;have Z:s.p.Nodes.length<=1000:=K.1;have s3:s.g.Nodes.length<=1000:=K.2.2.1;have h0:=r.m0;have h1:=r.m1;have h2:=r.out;rw [DD];by_cases j:(s.found.length:Int)=s.most+1
  ·rw [d0 (by simp; omega),UP j]; rfl
  rw [d1 (by simp; omega),ja c];cases P:anyR (QP s l) 0 s.p.Edges.length
  case true=>
   obtain ⟨i,hi⟩:=jY c P;rw [WJ n (FS s l []) i rfl hi,N9 r]; rfl
  simp only [bs,Bool.not_false,Bool.not_true,Bool.false_eq_true,if_false]
  match n,J,z with
  | 0,J,z=>
   rw [d0 (by simp; omega),Option.bind_fun_some,HL];exact FJ (s.p.Edges.length+1) fun m z=>Vb s.p.Edges.length s l [] c r (by omega) (by simp) m (by omega)
  | n+1,J,z=>
   have w:(l.length:Int)<s.p.Nodes.length:=by omega
   have o:(0:Int)<=l.length:=by omega
   have E:(l.length:Int)<s.partial_.Nodes.length:=by
    have:s.partial_.Nodes.length=s.p.Nodes.length:=c.pn;omega
   have Q:(KF s.t).length=s.t.Nodes.length:=by unfold KF; rw [d6,D2]
   have d:=c.kinds _ (AQ (l:=s.p.Nodes) o w);have G:AB s.p.Nodes l.length<s.t.Nodes.length:=by rw [←Q]; exact d.2.1
   have f:AB (KF s.t) (AB s.p.Nodes l.length)=Kx s.t (AB s.p.Nodes l.length):=Mj (Kx s.t) d.1 G;rw [d1 (by simp; omega)];rw [UW (fun i=>DH s ((BW i.toNat).flatMap fun k=>if Pf (FS s l []) k=true then HL n (FS s (l++[k]) []) else [])) (a:=0) (b:=(s.g.Nodes.length:Int)) (s:=s) (by omega) (N9 r).symm (fun i B C=>by
    have R:∀ F,DH s ((BW (i+1).toNat).flatMap F)=DH (DH s ((BW i.toNat).flatMap F)) (F i):=by
     intro F;rw [SV,Jf B,List.flatMap_append]; simp
    rw [R];generalize (BW i.toNat).flatMap (fun k=>if Pf (FS s l []) k=true then HL n (FS s (l++[k]) []) else [])=L;have M:=UQ r L;rw [d0 (by rw [zzX]; exact C)];have q:=d.2.2 _ (AQ (l:=s.g.Nodes) B C);have y:AB s.g.Nodes i<s.t.Nodes.length:=by
     have h:=q.2;have e:AB (FS s [] []).is (AB s.p.Nodes l.length)=Kx s.t (AB s.p.Nodes l.length):=f;rw [e] at h;unfold Kx at h
     rwa [d6,D2] at h
    have H:IG (DH s L).t (AB s.g.Nodes i) (AB s.p.Nodes l.length)=some (JH s.t (AB s.g.Nodes i) (AB s.p.Nodes l.length)):=SB O q.1 y d.1;have S:AM (DH s L).g.Nodes i=some (AB s.g.Nodes i):=AI B C;have T:AM (DH s L).partial_.Nodes (l.length:Int)=some (AB s.partial_.Nodes l.length):=AI o E;have U:EB (DH s L) l i=some (s.injective&&l.any fun x=>decide (i=x)):=bC (DH s L) (by omega) i;have V:AM (DH s L).p.Nodes (l.length:Int)=some (AB s.p.Nodes l.length):=AI o w;have key:((BV [] l).bind fun D=>
      (BV D [i]).bind fun u=>
      (DD m (DH s L) u).bind fun v=>
      some (.next (v,A4 (i+1)):CY (AW × Int) AW))=some (.next (DH (DH s L) (HL n (FS s (l++[i]) [])),i+1)):=by
     have N:=Vc n (DH s L) (l++[i]) O ⟨c.pn,c.pe,c.ends,c.kinds,c.small⟩ M (by show (l++[i]).length+n=s.p.Nodes.length; rw [d3]; simp; omega) m (by omega);have W:HL n (FS (DH s L) (l++[i]) [])=HL n (FS s (l++[i]) []):=V8 n (FS s (l++[i]) []) _;rw [W] at N;rw [FE (by unfold BN; omega),bs,CF (by simp; unfold BN; omega),bs,N,bs,BG (by omega) (by omega)]
    rw [T,bs,U,S,V,key];simp only [bs];rw [H,BG (n:=i+1) (by omega) (by omega)];simp only [bs];have I:Pf (FS s l []) i=((decide (AB s.partial_.Nodes l.length<0)||decide (AB s.partial_.Nodes l.length=i))&&AB (AB (KF s.t) (AB s.p.Nodes l.length)) (AB s.g.Nodes i)&&!(s.injective&&l.any fun x=>decide (i=x))):=rfl;have X:AB (AB (KF s.t) (AB s.p.Nodes l.length)) (AB s.g.Nodes i)=JH s.t (AB s.g.Nodes i) (AB s.p.Nodes l.length):=by
     rw [f];exact Mj (fun k=>JH s.t k (AB s.p.Nodes l.length)) q.1 y
    have Y:(decide (AB s.partial_.Nodes l.length<0)||decide (AB s.partial_.Nodes l.length=i))=!(decide (0<=AB s.partial_.Nodes l.length)&&!decide (AB s.partial_.Nodes l.length=i)):=by
     rw [Bool.not_and,Bool.not_not];congr 1;rw [←decide_not];exact decide_eq_decide.2 (by omega)
    rw [I,X,Y];generalize HL n (FS s (l++[i]) [])=A;generalize decide (0<=AB s.partial_.Nodes l.length)=c1;generalize decide (AB s.partial_.Nodes l.length=i)=c2;generalize JH s.t (AB s.g.Nodes i) (AB s.p.Nodes l.length)=c3;generalize (s.injective&&l.any fun x=>decide (i=x))=c6;cases c1 <;> cases c2 <;> cases c3 <;> cases c6 <;> first | rfl | (simp only [Bool.and_self,Bool.and_true,Bool.true_and,Bool.and_false,Bool.false_and,Bool.not_true,Bool.not_false,Bool.or_true,Bool.or_false,if_true,Bool.false_eq_true,if_false,N9 M,bs]; try rfl)) (by rw [d1 (by simp [DH])]),DT,Int.toNat_natCast,HL]
   rfl
end Go.Sf.Sc
namespace Go.Sf.Sc
open Go Go.Sf
def FF (t:AC) (p g:Graph) (pa:Morphism) (inj:Bool):AN:=⟨p,g,KF t,pa,inj,5001,[],[],[]⟩
def Lr (t:AC) (p g:Graph) (pa:Morphism) (inj:Bool):List Morphism:=(HL p.Nodes.length (FF t p g pa inj)).take 5001
theorem fx {t:AC} {p g:Graph} {a:Morphism} {inj:Bool} (c:BX t) (hv:(BF t).2=0) (b:MV (FF t p g a inj)):IK t p g a inj 5001=some (Lr t p g a inj):=by
 unfold IK;rw [eP c (G8 hv) hv,bs];have h:=jP (f:=FF t p g a inj) b ⟨by show (0:Int)<=5001; omega,by show (5001:Int)<=10000; omega,by show ((0:Nat):Int)<=5001; omega⟩ rfl rfl;rw [aA _ _ b rfl] at h;have e:AN.mk p g (KF t) a inj 5001 [] [] []=FF t p g a inj:=rfl;rw [e,h]; rfl
theorem qS {t:AC} {p g:Graph} {a:Morphism} {inj:Bool} (hv:(BF t).2=0) (b:MV (FF t p g a inj)):N7 t p g a inj 5000=some (Lr t p g a inj):=by
 unfold N7;have h:Jx ⟨t,p,g,a,inj,5000,[]⟩ []=some (DH ⟨t,p,g,a,inj,5000,[]⟩ (HL p.Nodes.length (FF t p g a inj))):=
  FJ (p.Nodes.length+1) fun m c=>Vc p.Nodes.length ⟨t,p,g,a,inj,5000,[]⟩ [] (G8 hv) b ⟨by show (0:Int)<=5000; omega,by show (5000:Int)<=9999; omega,by show ((0:Nat):Int)<=5000+1; omega⟩ (by show 0+p.Nodes.length=p.Nodes.length; omega) m c
 rw [h]; rfl
end Go.Sf.Sc
namespace Go.Sf.Sc
open Go Go.Sf
def Ou (n k:Int):Bool:=decide (k < -1)||decide (n<=k)
def Nr (l:IO) (n:Int):Int:=if l.any (Ou n)=true then 6 else 0
theorem ai (l:IO) (n:Int):H8 l n=some (Nr l n):=by
 unfold H8 Nr;rw [show (fun b=>MJ b n)=(fun b=>some (Ou n b)) from rfl,WG (p:=Ou n) (fun a _=>rfl),bs];cases l.any (Ou n) <;> rfl
theorem XA {l:IO} {c:Int} (n:Int) (h:(l.length:Int)=c):KA l c n=some (Nr l n):=by
 unfold KA Nr;rw [d1 (by simp [h]),CR (fun i=>Ou n (AB l i)) 6]
 ·have e:anyR (fun i=>Ou n (AB l i)) 0 l.length=l.any (Ou n):=by
   rw [Bool.eq_iff_iff,IY,List.any_eq_true];constructor
   ·rintro ⟨i,a,b,h⟩;exact ⟨_,AQ a b,h⟩
   ·rintro ⟨x,d,h⟩;obtain ⟨i,a,b,rfl⟩:=EH d;exact ⟨i,a,b,h⟩
  rw [e];cases l.any (Ou n) <;> rfl
 ·intro i a b _;rw [AI a b,bs,bs];unfold Ou;cases decide (AB l i < -1) <;> cases decide (n<=AB l i) <;> rfl
end Go.Sf.Sc
namespace Go.Sf.Sc
open Go Go.Sf
theorem Wy (t:AC) (g:Graph):GT t g=some (GK t g):=by
 unfold GT GK;rw [show (fun b=>Kz b t)=(fun b=>some (decide ((t.Nodes.length:Int)<=b))) from rfl,WG (p:=fun n=>decide ((t.Nodes.length:Int)<=n)) (fun a _=>rfl),bs,
  show (fun b=>K0 b t)=(fun b=>some (decide ((t.Edges.length:Int)<=b.Type'))) from rfl,X8 (p:=fun e=>decide ((t.Edges.length:Int)<=e.Type')) (fun a _=>rfl),bs]
 cases g.Nodes.any fun n=>decide ((t.Nodes.length:Int)<=n) <;> rfl
def HP (t:AC) (p g:Graph):Int:=if (BF t).2≠0 then (BF t).2 else if DJ p≠0 then DJ p else if DJ g≠0 then DJ g else if (GK t p&&GK t g)=true then 0 else 13
theorem YV {t:AC} (e:BX t) (p g:Graph):HY t p g=some (HP t p g):=by
 unfold HY HP;rw [R8 e,bs];refine Ie fun _=>?_;have h:forR (ρ:=Int) (fun (f:Int) (_:Unit)=>
   (AM [p,g] f).bind fun d=>
   (EZ d).bind fun c=>
   if (!decide (c=0))=true then
   some (.ret c)
   else
   some (.next ())) 0 ([p,g].length:Int) ()=some (if DJ p≠0 then .inr (DJ p) else if DJ g≠0 then .inr (DJ g) else .inl ()):=by
  show forGo _ 2 0 ()=_;rw [H4,show AM [p,g] 0=some p from rfl,bs,Oh,bs];by_cases a:DJ p=0
  ·rw [d1 (by simp [a]),d1 (by simp [a])];show forGo _ 1 (0+1) ()=_;rw [H4,show AM [p,g] (0+1)=some g from rfl,bs,Oh,bs];by_cases b:DJ g=0
   ·rw [d1 (by simp [b]),d1 (by simp [b])]; rfl
   ·rw [d0 (by simp [b]),d0 b]
  ·rw [d0 (by simp [a]),d0 a]
 rw [h];by_cases a:DJ p=0
 ·by_cases b:DJ g=0
  ·simp only [a,b,ne_eq,not_true_eq_false,if_false,DT];rw [Wy,Wy,bs];cases GK t p <;> cases GK t g <;> rfl
  ·simp only [a,b,ne_eq,not_true_eq_false,not_false_eq_true,if_false,if_true,Vk]
 ·simp only [a,ne_eq,not_false_eq_true,if_true,Vk]
theorem TM {t:AC} (a:BX t) (p g:Graph):Jk t p g=some (HP t p g):=by
 unfold Jk HP;rw [SA a,bs];refine Ie fun _=>?_;rw [Oj,bs];refine Ie fun b=>?_;rw [Oj,bs];refine Ie fun c=>?_;rw [Um (GA b),bs,Um (GA c)];cases GK t p <;> cases GK t g <;> rfl
end Go.Sf.Sc
namespace Go.Sf.Sc
open Go Go.Sf
theorem WR {t:AC} {p g:Graph} {f:Morphism} {inj:Bool} (h:HP t p g=0) (j:f.Nodes.length=p.Nodes.length) (l:f.Edges.length=p.Edges.length):(BF t).2=0∧MV (FF t p g f inj):=by
 unfold HP at h;by_cases hv:(BF t).2=0
 ·rw [d1 (by simp [hv])] at h;by_cases c:DJ p=0
  ·rw [d1 (by simp [c])] at h;by_cases d:DJ g=0
   ·rw [d1 (by simp [d])] at h;by_cases a:(GK t p&&GK t g)=true
    ·rw [zzZ] at a;have op:=GA c;have i:=GA d;have tp:=Nj op a.1;have q:=Nj i a.2;have r:(KF t).length=t.Nodes.length:=by unfold KF; rw [d6,D2]
     refine ⟨hv,j,l,fun e m=>?_,fun n o=>?_,Nat.le_trans op.nodes (by omega),Nat.le_trans op.edges (by omega),Nat.le_trans i.nodes (by omega),Nat.le_trans i.edges (by omega)⟩
     ·have:=op.fit e m;exact ⟨this.2.1.1,this.2.1.2,this.2.2.1,this.2.2.2⟩
     ·have:=tp.1 n o;refine ⟨this.1,by show n<((KF t).length:Int); rw [r]; exact this.2,fun k b=>?_⟩;have b:=q.1 k b;refine ⟨b.1,?_⟩;show k<((AB (KF t) n).length:Int);unfold KF;rw [Mj (Kx t) this.1 this.2];unfold Kx;rw [d6,D2]; exact b.2
    ·rw [d1 a] at h; cases h
   ·rw [d0 (by simp [d])] at h; exact absurd h d
  ·rw [d0 (by simp [c])] at h; exact absurd h c
 ·rw [d0 (by simp [hv])] at h; exact absurd h hv
def Oz (t:AC) (p g:Graph) (pa:Morphism) (inj:Bool):List Morphism × Int:=
 if HP t p g≠0 then ([],HP t p g) else if ¬ (pa.Nodes.length=p.Nodes.length∧pa.Edges.length=p.Edges.length) then ([],20) else
 if Nr pa.Nodes g.Nodes.length≠0 then ([],Nr pa.Nodes g.Nodes.length) else if Nr pa.Edges g.Edges.length≠0 then ([],Nr pa.Edges g.Edges.length) else
 if 5000<(Lr t p g pa inj).length then ([],3) else (Lr t p g pa inj,0)
theorem Wt {t:AC} (c:BX t) (p g:Graph) (b:Morphism) (inj:Bool):GR t p g b inj=some (Oz t p g b inj):=by
 unfold GR Oz;rw [YV c,bs];refine K7 fun e=>?_;refine P1 (by simp only [Bool.or_eq_true,Bool.not_eq_true',decide_eq_false_iff_not]; omega) fun a=>?_;have a:=Classical.not_not.1 a;rw [ai,bs];refine K7 fun h=>?_;rw [ai,bs];refine K7 fun i=>?_;obtain ⟨hv,f⟩:=WR (inj:=inj) e a.1 a.2;unfold KV;rw [fx c hv f,bs];by_cases d:5000<(Lr t p g b inj).length
 ·rw [d0 (by rw [zzX]; omega),d0 d]; rfl
 ·rw [d1 (by rw [zzX]; omega),d1 d]; rfl
theorem cw {t:AC} (d:BX t) (p g:Graph) (b:Morphism) (inj:Bool):LH t p g b inj=some (Oz t p g b inj):=by
 unfold LH Oz;rw [TM d,bs];refine K7 fun e=>?_;refine P1 (by simp only [Bool.or_eq_true,Bool.not_eq_true',decide_eq_false_iff_not]; omega) fun a=>?_;have a:=Classical.not_not.1 a;rw [XA _ (by omega),bs];refine K7 fun h=>?_;rw [XA _ (by omega),bs];refine K7 fun i=>?_;obtain ⟨hv,f⟩:=WR (inj:=inj) e a.1 a.2;rw [qS hv f,bs];by_cases c:5000<(Lr t p g b inj).length
 ·rw [d0 (by rw [zzX]; omega),d0 c]
 ·rw [d1 (by rw [zzX]; omega),d1 c]
end Go.Sf.Sc
