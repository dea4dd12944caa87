/- Plain lemmas: what the functions of the program and of the reference compute. -/
import Derived.Test.YtlbmpkmkmkgniaaGreatDoorP1
import Derived.Test.YtlbmpkmkmkgniaaGreatDoorEval
set_option linter.all false
set_option maxRecDepth 100000
namespace Go.Sf.Sc
open Go Go.Sf
theorem fx {t:AC} (b:BX t) (p:Pattern) {c:AA} (d:EI c):ES t p c=some (Ih t p c):=by
 by_cases a:(BF t).2=0
 ·exact jN b a p d
 ·unfold ES Ih;rw [V0 b,bs];refine Ie fun h=>?_;exfalso;unfold J7 at h;rw [d1 a] at h;exact a h
end Go.Sf.Sc
namespace Go.Sf.Sc
open Go Go.Sf
theorem gr {α:Type} [Inhabited α] (b:α->α->Bool) {l m:List α} (d:∀ x∈l,∀ y∈m,(b x y=true↔x=y)) (e:l.length=m.length):anyR (fun i=>!b (AB l i) (AB m i)) 0 l.length=false↔l=m:=by
 rw [E6];constructor
 ·intro h;refine aC e (fun i a c=>?_);have:=h i a c;rw [Bool.not_eq_false'] at this;exact (d _ (AQ a c) _ (AQ a (by omega))).1 this
 ·rintro rfl i a c;rw [Bool.not_eq_false'];exact (d _ (AQ a c) _ (AQ a c)).2 rfl
theorem fU {α:Type} [Inhabited α] [DecidableEq α] {l m:List α} (f:l.length=m.length) {k:Unit->ca} {c:Bool->ca}:thenR (forR (ρ:=Bool) (fun (d:Int) (_:Unit)=>
 (AM l d).bind fun a=>
 (AM m d).bind fun b=>
 if (!decide (a=b))=true then
 some (.ret false)
 else
 some (.next ())) 0 (l.length:Int) ()) k c=if l=m then k () else c false:=by
 rw [CR (fun i=>!decide (AB l i=AB m i)) false]
 ·have:=gr (fun x y:α=>decide (x=y)) (l:=l) (m:=m) (fun _ _ _ _=>decide_eq_true_iff) f;by_cases h:l=m
  ·rw [this.2 h,d1 h]; rfl
  ·rw [d2 h];cases j:anyR (fun i=>!decide (AB l i=AB m i)) 0 l.length
   ·exact absurd (this.1 j) h
   ·rfl
 ·intro i e g _;rw [AI e g,bs,AI e (by omega),bs,J5]
theorem Ue {α:Type} [Inhabited α] [DecidableEq α] (l m:List α):(if (!decide ((l.length:Int)=(m.length:Int)))=true then
 some false
 else
 thenR (forR (ρ:=Bool) (fun (d:Int) (_:Unit)=>
 (AM l d).bind fun a=>
 (AM m d).bind fun b=>
 if (!decide (a=b))=true then
 some (.ret false)
 else
 some (.next ())) 0 (l.length:Int) ()) (fun _=>
 some true) (fun f=>some f))=some (decide (l=m)):=by
 by_cases c:l.length=m.length
 ·rw [d2 (by simp [c]),fU c];by_cases h:l=m
  ·rw [d1 h,decide_eq_true h]
  ·rw [d2 h,decide_eq_false h]
 ·rw [d1 (by simp; omega),decide_eq_false (fun e=>c (by rw [e]))]
theorem eR (l m:Ne):slices_Equal_int l m=some (decide (l=m)):=Ue l m
theorem gF (l m:Ne):LZ l m=some (decide (l=m)):=Ue l m
theorem YX (l m:Ne):J9 l m=some (decide (l=m)):=Ue l m
noncomputable def eJ (a b:AA):Bool:=@decide (a=b) (Classical.propDecidable _)
end Go.Sf.Sc
namespace Go.Sf.Sc
open Go Go.Sf
mutual
def cnt:AA->Nat
 | ⟨_,kids,_,_⟩=>1+KP kids
def KP:List AA->Nat
 | []=>0
 | k::l=>cnt k+KP l
end
mutual
def U3:AA->Nat
 | ⟨k,kids,_,_⟩=>(if k=5 then 1 else 0)+RQ kids
def RQ:List AA->Nat
 | []=>0
 | k::l=>max (U3 k) (RQ l)
end
theorem Mw (c:AA):cnt c=1+KP c.Kids:=by cases c; rfl
theorem WM (c:AA):U3 c=(if c.Kind=5 then 1 else 0)+RQ c.Kids:=by cases c; rfl
theorem fT {l:List AA} {k:Int} (a:0<=k) (b:k<l.length):l.drop k.toNat=AB l k::l.drop (k+1).toNat:=by
 rw [show (k+1).toNat=k.toNat+1 by omega,List.drop_eq_getElem_cons (by omega)];unfold AB;rw [List.getD_eq_getElem?_getD,List.getElem?_eq_getElem (by omega)]; rfl
theorem U7:∀ (N:Nat) (c:AA),SizeOf.sizeOf c<=N->(AE c).Sm->∀ most:Int,0<=most->most<=1000->∃ r,(∀ n,N<=n->GI n c most=some r)∧-1<=r∧r<=most - 1∧(0<=r->EI c∧(cnt c:Int)+r<=most)
 | 0,c,h,_,_,_,_=>by have:=D5 c; omega
 | N+1,c,h,Q,most,m0,m1=>by
  obtain ⟨G,H,v⟩:=fR Q;obtain ⟨I,q,J⟩:=Uf c.Pattern;obtain ⟨K,x,L⟩:=fW G;have step:∀ n,N+1<=n->∃ m,n=m+1∧N<=m:=fun n a=>⟨n - 1,by omega,by omega⟩;cases I
  ·refine ⟨-1,fun n a=>?_,by omega,by omega,fun h=>by omega⟩;obtain ⟨n,rfl,_⟩:=step n a;rw [GI,q]; rfl
  cases K
  ·refine ⟨-1,fun n a=>?_,by omega,by omega,fun h=>by omega⟩;obtain ⟨n,rfl,_⟩:=step n a;rw [GI,q,bs,x]; rfl
  have loop:∀ (m:Nat) (k left:Int),0<=k->k+m=c.Kids.length->-1<=left->left<=1000->∃ b i,(∀ n,N<=n->Mp (ρ:=Int) (fun (e:Int × Int)=>
    if ((decide (e.2<(c.Kids.length:Int)))&&(decide (0<=e.1)))=true then
    (AM c.Kids e.2).bind fun s=>
    (GI n s e.1).bind fun t=>
    some (.next (t,A4 (e.2+1)))
    else
    some (.brk (e.1,e.2))) (left,k) (.inl (b,i)))∧-1<=b∧b<=left∧(0<=b->(∀ j,k<=j->j<c.Kids.length->EI (AB c.Kids j))∧(KP (c.Kids.drop k.toNat):Int)+b<=left):=by
   intro m
   induction m with
   | zero=>
    intro k left p D w l1;refine ⟨left,k,fun n a=>.brk ?_,w,by omega,fun _=>⟨fun j u o=>by omega,?_⟩⟩
    ·rw [d2 (by simp; omega)]
    ·rw [List.drop_of_length_le (by omega),KP]; omega
   | succ m P=>
    intro k left p D w l1;by_cases E:0<=left
    ·have d:=AQ (l:=c.Kids) p (by omega);have:=EP d;obtain ⟨r,M,O,R,B⟩:=U7 N _ (by omega) (v _ d) left E l1;obtain ⟨b,i,y,z,C,g⟩:=P (k+1) r (by omega) (by omega) O (by omega);refine ⟨b,i,fun n a=>.next (s':=(r,k+1)) ?_ (y n a),z,by omega,fun f=>⟨fun j u o=>?_,?_⟩⟩
     ·rw [d1 (by simp; omega),AI p (by omega),bs,M n a,bs,BG (by omega) (by omega)]
     ·by_cases F:j=k
      ·subst F; exact (B (by omega)).1
      ·exact (g f).1 j (by omega) o
     ·have q:=(B (by omega)).2;have x:=(g f).2;rw [fT p (by omega),KP];omega
    ·refine ⟨left,k,fun n a=>.brk ?_,w,by omega,fun h=>by omega⟩;rw [d2 (by simp; omega)]
  obtain ⟨b,i,y,z,C,g⟩:=loop c.Kids.length 0 (most - 1) (by omega) (by omega) (by omega) (by omega);refine ⟨b,fun n a=>?_,z,C,fun f=>⟨.mk c (J rfl) (L rfl) (fun k v=>?_),?_⟩⟩
  ·obtain ⟨n,rfl,A⟩:=step n a;rw [GI,q,bs,x];simp only [bs,Bool.not_true,Bool.false_eq_true,if_false];rw [BG (n:=most - 1) (by omega) (by omega),(y n A).eq,DT]
  ·obtain ⟨j,u,o,rfl⟩:=EH v;exact (g f).1 j u o
  ·have:=(g f).2;rw [show (0:Int).toNat=0 from rfl,List.drop_zero] at this;rw [Mw];omega
theorem U6 {c:AA} (a:(AE c).Sm):∃ b,N9 c=some b∧(b=true->EI c∧cnt c<=40):=by
 obtain ⟨r,d,_,_,f⟩:=U7 (SizeOf.sizeOf c) c (d3 _) a 40 (by omega) (by omega);have e:Qt c 40=some r:=FJ (SizeOf.sizeOf c) d;unfold N9;rw [e];exact ⟨_,rfl,fun h=>by have:=f (by simpa using h); exact ⟨this.1,by have:=this.2; simp at h; omega⟩⟩
theorem Oy:∀ {l:List AA} {k:AA},k∈l->cnt k<=KP l
 | x::l,k,h=>by
  rw [KP];rcases List.mem_cons.1 h with rfl | h
  ·omega
  ·have:=Oy h; omega
theorem YB:∀ (N:Nat) (c:AA),SizeOf.sizeOf c<=N->U3 c<=cnt c
 | 0,c,h=>by have:=D5 c; omega
 | N+1,c,h=>by
  have key:∀ l:List AA,(∀ k∈l,k∈c.Kids)->RQ l<=KP l:=by
   intro l
   induction l with
   | nil=>intro _; exact d3 _
   | cons k l d=>
    intro a;have e:=d (fun x b=>a x (List.mem_cons_of_mem _ b));have:=EP (a k List.mem_cons_self);have f:=YB N k (by omega);rw [RQ,KP];omega
  have:=key c.Kids (fun _ h=>h);rw [WM,Mw];split <;> omega
theorem YP:∀ (N:Nat) (c:AA),SizeOf.sizeOf c<=N->cnt c<=1000->KT N c=((cnt c:Int),(U3 c:Int))
 | 0,c,h,_=>by have:=D5 c; omega
 | N+1,c,h,p=>by
  have key:∀ (l:List AA) (a b:Nat),(∀ k∈l,k∈c.Kids)->a+KP l<=1000->l.foldl (fun s k=>(A4 (s.1+(KT N k).1),max s.2 (KT N k).2)) (((a:Int),(b:Int)):Int × Int)=(((a+KP l:Nat):Int),((max b (RQ l):Nat):Int)):=by
   intro l
   induction l with
   | nil=>intro a b _ _; simp [KP,RQ]
   | cons k l o=>
    intro a b f j;rw [KP] at j;have:=EP (f k List.mem_cons_self);rw [List.foldl_cons,YP N k (by omega) (by omega)];have m:A4 ((a:Int)+(cnt k:Int))=((a+cnt k:Nat):Int):=by rw [BG (by omega) (by omega)]; omega
    have n:max (b:Int) (U3 k:Int)=((max b (U3 k):Nat):Int):=by omega
    simp only [m,n];rw [o (a+cnt k) (max b (U3 k)) (fun x i=>f x (List.mem_cons_of_mem _ i)) (by omega),KP,RQ,Nat.add_assoc,Nat.max_assoc]
  have d:=p;rw [Mw] at d;have:=key c.Kids 1 0 (fun _ h=>h) d;have g:=YB (N+1) c h;rw [KT];rw [show ((1,0):Int × Int)=(((1:Nat):Int),((0:Nat):Int)) from rfl,this,Mw,WM];rw [WM] at g;by_cases e:c.Kind=5
  ·rw [d1 e] at g ⊢;rw [d1 e];rw [BG (by simp only [Nat.zero_max]; omega) (by simp only [Nat.zero_max]; omega)];simp only [Nat.zero_max,Prod.mk.injEq,true_and];omega
  ·rw [d2 e,d2 e];simp
theorem cm {c:AA} (h:cnt c<=1000):Qg c=((cnt c:Int),(U3 c:Int)):=YP _ c (d3 _) h
end Go.Sf.Sc
namespace Go.Sf.Sc
open Go Go.Sf
structure MW (f:AN):Prop where
 pn:f.partial_.Nodes.length=f.p.Nodes.length
 pe:f.partial_.Edges.length=f.p.Edges.length
 ends : ∀ e ∈ f.p.Edges, 0 ≤ e.From ∧ e.From < f.p.Nodes.length ∧ 0 ≤ e.To ∧ e.To < f.p.Nodes.length
 kinds:∀ n∈f.p.Nodes,0<=n∧n<f.is.length∧∀ t∈f.g.Nodes,0<=t∧t<(AB f.is n).length
 small:f.p.Nodes.length<=1000∧f.p.Edges.length<=1000∧f.g.Nodes.length<=1000∧f.g.Edges.length<=1000
def K3 (f:AN) (i k:Int):Bool:=
 (decide (AB f.partial_.Edges i<0)||decide (AB f.partial_.Edges i=k))&&decide (AB f.g.Edges k=⟨(AB f.p.Edges i).Type',AB f.nodes (AB f.p.Edges i).From,AB f.nodes (AB f.p.Edges i).To⟩)
theorem aZ {α:Type} {l:List α} (h:l≠[]):Wn l=some ():=by
 unfold Wn;cases l with
 | nil=>exact absurd rfl h
 | cons _ _=>rfl
theorem Wa {l:Ne} {i:Int} (b:0<=i) (a:i<l.length):I8 l i=some (AB l i):=by
 unfold I8;rw [aZ (by intro h; subst h; simp at a; omega),bs,AI b a,bs]
theorem al {f:AN} (d:MW f) {i k:Int} (b:0<=i) (c:i<f.p.Edges.length) (j:0<=k) (l:k<f.g.Edges.length) (m:(AB f.p.Edges i).From<f.nodes.length) (n:(AB f.p.Edges i).To<f.nodes.length):E9 f i k=some (K3 f i k):=by
 have e:=d.ends _ (AQ b c);unfold E9 K3;rw [AI b c,bs,Wa b (by rw [d.pe]; exact c),bs,AI j l,bs,AI e.1 m,bs,AI e.2.2.1 n,bs];by_cases h:AB f.partial_.Edges i<0
 ·rw [d2 (by simp; omega)]; simp [h]
 ·by_cases a:AB f.partial_.Edges i=k
  ·rw [d2 (by simp [a])]; simp [a]
  ·rw [d1 (by simp [a]; omega)]; simp [h,a]
def Nh (f:AN):Bool:=!anyR (fun i=>decide (max (AB f.p.Edges i).From (AB f.p.Edges i).To=(f.nodes.length:Int) - 1)&&!anyR (fun k=>K3 f i k) 0 f.g.Edges.length) 0 f.p.Edges.length
theorem fJ {f:Int->Bool->Option (CY Bool Bool)} (p:Int->Bool) {b:Int} (h:∀ i,0<=i->i<b->f i false=some (if p i=true then .brk true else .next false)):forR f 0 b false=some (.inl (anyR p 0 b)):=by
 have key:∀ (m:Nat) (i:Int),0<=i->i+m=b->forGo f m i false=some (.inl (anyR p i b)):=by
  intro m
  induction m with
  | zero=>
   intro i k hi;have:anyR p i b=false:=by rw [E6]; intro j g a; omega
   rw [this]; rfl
  | succ m l=>
   intro i k hi;rw [H4,h i k (by omega)];by_cases c:p i=true
   ·have:anyR p i b=true:=by rw [IY]; exact ⟨i,Int.le_refl _,by omega,c⟩
    rw [d1 c,this]
   ·have e:anyR p i b=anyR p (i+1) b:=by
     rw [Bool.eq_iff_iff,IY,IY];constructor
     ·rintro ⟨j,g,a,d⟩;have:j≠i:=fun e=>c (e ▸ d);exact ⟨j,by omega,a,d⟩
     ·rintro ⟨j,g,a,d⟩;exact ⟨j,by omega,a,d⟩
    rw [d2 c,e];exact l (i+1) (by omega) (by omega)
 unfold forR;by_cases n:0<=b
 ·exact key _ 0 (Int.le_refl _) (by omega)
 ·have:anyR p 0 b=false:=by rw [E6]; intro j g a; omega
  rw [this,show (b - 0).toNat=0 by omega]; rfl
theorem ZT {f:AN} (e:MW f) (m:0<f.nodes.length) (h:f.nodes.length<=1000):C6 f=some (Nh f):=by
 unfold C6 Nh;rw [CR (fun i=>decide (max (AB f.p.Edges i).From (AB f.p.Edges i).To=(f.nodes.length:Int) - 1)&&!anyR (fun k=>K3 f i k) 0 f.g.Edges.length) false]
 ·generalize anyR (fun i=>decide (max (AB f.p.Edges i).From (AB f.p.Edges i).To=(f.nodes.length:Int) - 1)&&!anyR (fun k=>K3 f i k) 0 f.g.Edges.length) 0 f.p.Edges.length=b;cases b <;> rfl
 ·intro i c d _;rw [AI c d,bs,BG (n:=(f.nodes.length:Int) - 1) (by omega) (by omega)];by_cases a:max (AB f.p.Edges i).From (AB f.p.Edges i).To=(f.nodes.length:Int) - 1
  ·rw [d2 (by simp [a]),fJ (fun k=>K3 f i k) (fun k j l=>by
    rw [al e c d j l (by omega) (by omega),bs,J5])]
   generalize anyR (fun k=>K3 f i k) 0 f.g.Edges.length=b;rw [decide_eq_true a];cases b <;> rfl
  ·rw [d1 (by simp [a]),d2 (by simp [a])]
def BW (n:Nat):Ne:=(List.range n).map Int.ofNat
theorem Po (n:Nat):BW (n+1)=BW n++[(n:Int)]:=by
 unfold BW;rw [List.range_succ,List.map_append]; rfl
def Pg (f:AN) (k:Int):Bool:=(decide (AB f.partial_.Nodes f.nodes.length<0)||decide (AB f.partial_.Nodes f.nodes.length=k))&&AB (AB f.is (AB f.p.Nodes f.nodes.length)) (AB f.g.Nodes k)&&!(f.injective&&f.nodes.any fun x=>decide (k=x))
def Pf (f:AN) (k:Int):Bool:=K3 f f.edges.length k&&!(f.injective&&f.edges.any fun x=>decide (k=x))
def E8:Nat->AN->List Morphism
 | 0,f=>[⟨f.nodes,f.edges⟩]
 | n+1,f=>(BW f.g.Edges.length).flatMap fun k=>if Pf f k=true then E8 n { f with edges:=f.edges++[k] } else []
def KM:Nat->AN->List Morphism
 | 0,f=>E8 f.p.Edges.length f
 | n+1,f=>(BW f.g.Nodes.length).flatMap fun k=>if (Pg f k&&Nh { f with nodes:=f.nodes++[k] })=true then KM n { f with nodes:=f.nodes++[k] } else []
theorem Vk {α:Type} (a b:List α) (m:Nat):((a.take m)++b).take m=(a++b).take m:=by
 by_cases h:a.length<=m
 ·rw [List.take_of_length_le h]
 ·rw [List.take_append_of_le_length (by simp; omega),List.take_append_of_le_length (by omega),List.take_take,Nat.min_self]
end Go.Sf.Sc
namespace Go.Sf.Sc
open Go Go.Sf
def Qn (f:AN) (o:List Morphism):AN:={ f with out:=o }
theorem MW.out {f:AN} (h:MW f) (o:List Morphism):MW (Qn f o):=⟨h.pn,h.pe,h.ends,h.kinds,h.small⟩
theorem Ou:∀ (n:Nat) (f:AN) (o:List Morphism),E8 n (Qn f o)=E8 n f
 | 0,_,_=>rfl
 | n+1,f,o=>by
  rw [E8,E8];refine congrArg (fun F=>(BW f.g.Edges.length).flatMap F) (funext fun k=>?_);have:=Ou n { f with edges:=f.edges++[k] } o;show (if Pf f k=true then E8 n (Qn { f with edges:=f.edges++[k] } o) else [])=_;rw [this]
theorem V8:∀ (n:Nat) (f:AN) (o:List Morphism),KM n (Qn f o)=KM n f
 | 0,f,o=>Ou _ f o
 | n+1,f,o=>by
  rw [KM,KM];refine congrArg (fun F=>(BW f.g.Nodes.length).flatMap F) (funext fun k=>?_);have:=V8 n { f with nodes:=f.nodes++[k] } o;show (if (Pg f k&&Nh { f with nodes:=f.nodes++[k] })=true then KM n (Qn { f with nodes:=f.nodes++[k] } o) else [])=_;rw [this]
def BU (f:AN) (l:List Morphism):AN:=Qn f ((f.out++l).take f.most.toNat)
structure UZ (f:AN):Prop where
 m0:0<=f.most
 m1:f.most<=10000
 out:(f.out.length:Int)<=f.most
theorem LA {f:AN} (h:UZ f):BU f []=f:=by
 unfold BU;rw [List.append_nil,List.take_of_length_le (by have:=h.out; have:=h.m0; omega)]; rfl
theorem VJ {f:AN} (h:(f.out.length:Int)=f.most) (l:List Morphism):BU f l=f:=by
 unfold BU;rw [List.take_append_of_le_length (by omega),List.take_of_length_le (by omega)]; rfl
theorem VL {f:AN} (h:UZ f) (l:List Morphism):UZ (BU f l):=by
 refine ⟨h.m0,h.m1,?_⟩;have:=h.m0;show (((f.out++l).take f.most.toNat).length:Int)<=f.most;rw [d5]; omega
theorem VK (f:AN) (a b:List Morphism):BU (BU f a) b=BU f (a++b):=by
 show Qn f ((((f.out++a).take f.most.toNat)++b).take f.most.toNat)=_;rw [Vk,ea]; rfl
theorem Tq:∀ (n:Nat) (f:AN),MW f->UZ f->f.nodes.length=f.p.Nodes.length->f.edges.length+n=f.p.Edges.length->∀ m,n+1<=m->BD m f=some (BU f (E8 n f))
 | n,f,d,r,K,v,m,w=>by
  obtain ⟨m,rfl⟩:∃ k,m=k+1:=⟨m - 1,by omega⟩;have M:=d.small;have N:=r.m0;have O:=r.m1;have P:=r.out;rw [BD];by_cases c:(f.out.length:Int)=f.most
  ·rw [d1 (by simpa using c),VJ c]; rfl
  rw [d2 (by simpa using c),d2 (by simp; omega)]
  match n,v,w with
  | 0,v,w=>
   rw [d2 (by simp; omega)];unfold slices_Clone_int;rw [FE (by unfold BN; omega),bs,FE (by unfold BN; omega),bs,CF (by simp; unfold BN; omega),bs,bs];unfold BU;rw [List.take_of_length_le (by simp [E8]; omega)]; rfl
  | n+1,v,w=>
   rw [d1 (by simp; omega)];have F:∀ k,Pf f k=true->MW { f with edges:=f.edges++[k] }:=fun k _=>⟨d.pn,d.pe,d.ends,d.kinds,d.small⟩;rw [DO (a:=0) (s:=f) (fun i=>BU f ((BW i.toNat).flatMap fun k=>if Pf f k=true then E8 n { f with edges:=f.edges++[k] } else [])) (by omega) (LA r)]
   ·rw [bs,bs,Int.toNat_natCast,E8]
   ·intro i B C;have D:BW (i+1).toNat=BW i.toNat++[i]:=by
     rw [show (i+1).toNat=i.toNat+1 by omega,Po];rw [show ((i.toNat:Nat):Int)=i by omega]
    have E:∀ l,BU f ((BW (i+1).toNat).flatMap l)=BU (BU f ((BW i.toNat).flatMap l)) (l i):=by
     intro l;rw [VK,D,List.flatMap_append]; simp
    rw [E];generalize (BW i.toNat).flatMap (fun k=>if Pf f k=true then E8 n { f with edges:=f.edges++[k] } else [])=L;have j:=VL r L;have t:MW (BU f L):=d.out _;have y:=d.ends _ (AQ (l:=f.p.Edges) (i:=(f.edges.length:Int)) (by omega) (by omega));rw [al t (i:=(f.edges.length:Int)) (k:=i) (by omega) (by show _<(f.p.Edges.length:Int); omega) B (by exact C) (by show (AB f.p.Edges f.edges.length).From<(f.nodes.length:Int); omega) (by show (AB f.p.Edges f.edges.length).To<(f.nodes.length:Int); omega),bs];have G:slices_Contains_int (BU f L).edges i=some (f.edges.any fun x=>decide (i=x)):=Th f.edges i;rw [G];have o:K3 (BU f L) f.edges.length i=K3 f f.edges.length i:=rfl;have key:((BV (BU f L).edges [i]).bind fun e=>
      (BD m (AN.mk (BU f L).p (BU f L).g (BU f L).is (BU f L).partial_ (BU f L).injective (BU f L).most (BU f L).nodes e (BU f L).out)).bind fun b=>
      (slc b.edges 0 (f.edges.length:Int)).bind fun h=>
      some (AN.mk b.p b.g b.is b.partial_ b.injective b.most b.nodes h b.out))=some (BU (BU f L) (E8 n { f with edges:=f.edges++[i] })):=by
     have H:BV (BU f L).edges [i]=some (f.edges++[i]):=CF (by show f.edges.length+1<=BN; unfold BN; omega);have z:=Tq n { BU f L with edges:=f.edges++[i] } ⟨d.pn,d.pe,d.ends,d.kinds,d.small⟩ ⟨j.m0,j.m1,j.out⟩ K (by show (f.edges++[i]).length+n=f.p.Edges.length; simp; omega) m (by omega);have I:E8 n { BU f L with edges:=f.edges++[i] }=E8 n { f with edges:=f.edges++[i] }:=Ou n { f with edges:=f.edges++[i] } _;rw [I] at z;rw [H,bs];show (BD m { BU f L with edges:=f.edges++[i] }).bind _=_;rw [z,bs];have J:slc (BU { BU f L with edges:=f.edges++[i] } (E8 n { f with edges:=f.edges++[i] })).edges 0 (f.edges.length:Int)=some f.edges:=by
      show slc (f.edges++[i]) 0 (f.edges.length:Int)=_;rw [MV (by omega) (by rw [d4]; omega),Int.toNat_natCast,List.take_left]
     rw [J]; rfl
    rw [key,o];have u:Pf f i=(K3 f f.edges.length i&&!(f.injective&&f.edges.any fun x=>decide (i=x))):=rfl;have q:(BU f L).injective=f.injective:=rfl;rw [u,q];generalize Q:E8 n { f with edges:=f.edges++[i] }=A;cases K3 f f.edges.length i
    ·simp only [Bool.false_and,Bool.false_eq_true,if_false,LA j]; rfl
    ·cases f.injective
     ·rfl
     ·cases f.edges.any fun x=>decide (i=x)
      ·rfl
      ·simp only [Bool.and_self,Bool.not_true,Bool.and_false,Bool.false_eq_true,if_false,LA j]; rfl
end Go.Sf.Sc
namespace Go.Sf.Sc
open Go Go.Sf
theorem Tr:∀ (n:Nat) (f:AN),MW f->UZ f->f.edges=[]->f.nodes.length+n=f.p.Nodes.length->∀ m,n+f.p.Edges.length+1<=m->BD m f=some (BU f (KM n f))
 | 0,f,d,r,y,Q,m,R=>by
  rw [KM];exact Tq _ f d r (by omega) (by rw [y]; simp) m (by omega)
 | n+1,f,d,r,y,Q,m,R=>by
  obtain ⟨m,rfl⟩:∃ k,m=k+1:=⟨m - 1,by omega⟩;have S:=d.small;have T:=r.m0;have U:=r.m1;have V:=r.out;rw [BD];by_cases c:(f.out.length:Int)=f.most
  ·rw [d1 (by simpa using c),VJ c]; rfl
  rw [d2 (by simpa using c),d1 (by simp; omega)];rw [DO (a:=0) (s:=f) (fun i=>BU f ((BW i.toNat).flatMap fun k=>if (Pg f k&&Nh { f with nodes:=f.nodes++[k] })=true then KM n { f with nodes:=f.nodes++[k] } else [])) (by omega) (LA r)]
  ·rw [bs,bs,Int.toNat_natCast,KM]
  ·intro i z B;have E:BW (i+1).toNat=BW i.toNat++[i]:=by
    rw [show (i+1).toNat=i.toNat+1 by omega,Po];rw [show ((i.toNat:Nat):Int)=i by omega]
   have F:∀ l,BU f ((BW (i+1).toNat).flatMap l)=BU (BU f ((BW i.toNat).flatMap l)) (l i):=by
    intro l;rw [VK,E,List.flatMap_append]; simp
   rw [F];generalize (BW i.toNat).flatMap (fun k=>if (Pg f k&&Nh { f with nodes:=f.nodes++[k] })=true then KM n { f with nodes:=f.nodes++[k] } else [])=L;have j:=VL r L;have o:(f.nodes.length:Int)<(f.p.Nodes.length:Int):=by omega
   have q:=d.kinds _ (AQ (l:=f.p.Nodes) (i:=(f.nodes.length:Int)) (by omega) o);have u:=q.2.2 _ (AQ z B);have key:((BV (BU f L).nodes [i]).bind fun e=>
     (C6 (AN.mk (BU f L).p (BU f L).g (BU f L).is (BU f L).partial_ (BU f L).injective (BU f L).most e (BU f L).edges (BU f L).out)).bind fun t=>
     if t=true then
     (BD m (AN.mk (BU f L).p (BU f L).g (BU f L).is (BU f L).partial_ (BU f L).injective (BU f L).most e (BU f L).edges (BU f L).out)).bind fun b=>
     (slc b.nodes 0 (f.nodes.length:Int)).bind fun h=>
     some (AN.mk b.p b.g b.is b.partial_ b.injective b.most h b.edges b.out)
     else
     (slc e 0 (f.nodes.length:Int)).bind fun h=>
     some (AN.mk (BU f L).p (BU f L).g (BU f L).is (BU f L).partial_ (BU f L).injective (BU f L).most h (BU f L).edges (BU f L).out))=some (BU (BU f L) (if Nh { f with nodes:=f.nodes++[i] }=true then KM n { f with nodes:=f.nodes++[i] } else [])):=by
    have G:BV (BU f L).nodes [i]=some (f.nodes++[i]):=CF (by show f.nodes.length+1<=BN; unfold BN; omega);have C:slc (f.nodes++[i]) 0 (f.nodes.length:Int)=some f.nodes:=by
     rw [MV (by omega) (by rw [d4]; omega),Int.toNat_natCast,List.take_left]
    have H:C6 { BU f L with nodes:=f.nodes++[i] }=some (Nh { f with nodes:=f.nodes++[i] }):=ZT (f:={ BU f L with nodes:=f.nodes++[i] }) ⟨d.pn,d.pe,d.ends,d.kinds,d.small⟩ (by show 0<(f.nodes++[i]).length; simp) (by show (f.nodes++[i]).length<=1000; rw [d4]; simp; omega);have D:=Tr n { BU f L with nodes:=f.nodes++[i] } ⟨d.pn,d.pe,d.ends,d.kinds,d.small⟩ ⟨j.m0,j.m1,j.out⟩ y (by show (f.nodes++[i]).length+n=f.p.Nodes.length; rw [d4]; simp; omega) m (by show n+f.p.Edges.length+1<=m; omega);have I:KM n { BU f L with nodes:=f.nodes++[i] }=KM n { f with nodes:=f.nodes++[i] }:=V8 n { f with nodes:=f.nodes++[i] } _;rw [I] at D;rw [G,bs];show (C6 { BU f L with nodes:=f.nodes++[i] }).bind _=_;rw [H,bs];cases Nh { f with nodes:=f.nodes++[i] }
    ·rw [d2 (by decide),d2 (by decide),C,LA j]; rfl
    ·rw [d1 rfl,d1 rfl];show (BD m { BU f L with nodes:=f.nodes++[i] }).bind _=_;rw [D,bs];have J:slc (BU { BU f L with nodes:=f.nodes++[i] } (KM n { f with nodes:=f.nodes++[i] })).nodes 0 (f.nodes.length:Int)=some f.nodes:=C;rw [J]; rfl
   have K:I8 (BU f L).partial_.Nodes (f.nodes.length:Int)=some (AB f.partial_.Nodes f.nodes.length):=Wa (by omega) (by show (f.nodes.length:Int)<(f.partial_.Nodes.length:Int); rw [d.pn]; exact o);have M:AM (BU f L).p.Nodes (f.nodes.length:Int)=some (AB f.p.Nodes f.nodes.length):=AI (by omega) o;have hi:AM (BU f L).is (AB f.p.Nodes f.nodes.length)=some (AB f.is (AB f.p.Nodes f.nodes.length)):=AI q.1 q.2.1;have N:AM (AB f.is (AB f.p.Nodes f.nodes.length)) (AB f.g.Nodes i)=some (AB (AB f.is (AB f.p.Nodes f.nodes.length)) (AB f.g.Nodes i)):=AI u.1 u.2;have O:slices_Contains_int (BU f L).nodes i=some (f.nodes.any fun x=>decide (i=x)):=Th f.nodes i;have v:(BU f L).injective=f.injective:=rfl;have w:Pg f i=((decide (AB f.partial_.Nodes f.nodes.length<0)||decide (AB f.partial_.Nodes f.nodes.length=i))&&AB (AB f.is (AB f.p.Nodes f.nodes.length)) (AB f.g.Nodes i)&&!(f.injective&&f.nodes.any fun x=>decide (i=x))):=rfl;rw [AI z B,bs,K,bs,M,bs,hi,bs,N,bs,O,key,v,w];generalize AB (AB f.is (AB f.p.Nodes f.nodes.length)) (AB f.g.Nodes i)=c2;have P:(decide (0<=AB f.partial_.Nodes f.nodes.length)&&!decide (AB f.partial_.Nodes f.nodes.length=i))=!(decide (AB f.partial_.Nodes f.nodes.length<0)||decide (AB f.partial_.Nodes f.nodes.length=i)):=by
    rw [Bool.not_or];congr 1;rw [←decide_not];exact decide_eq_decide.2 (by omega)
   rw [P];generalize (decide (AB f.partial_.Nodes f.nodes.length<0)||decide (AB f.partial_.Nodes f.nodes.length=i))=c1;generalize Nh { f with nodes:=f.nodes++[i] }=c5;generalize KM n { f with nodes:=f.nodes++[i] }=A;cases c1
   ·simp only [Bool.false_and,Bool.false_eq_true,if_false,LA j]; rfl
   ·cases c2
    ·simp only [Bool.and_false,Bool.false_and,Bool.false_eq_true,if_false,LA j]; rfl
    ·cases f.injective
     ·rfl
     ·cases f.nodes.any fun x=>decide (i=x)
      ·rfl
      ·simp only [Bool.and_self,Bool.not_true,Bool.and_false,Bool.false_and,Bool.false_eq_true,if_false,LA j]; rfl
theorem jQ {f:AN} (a:MW f) (b:UZ f) (c:f.edges=[]) (d:f.nodes=[]):GZ f=some (BU f (KM f.p.Nodes.length f)):=
 FJ (f.p.Nodes.length+f.p.Edges.length+1) fun m e=>Tr _ f a b c (by rw [d]; simp) m e
end Go.Sf.Sc
namespace Go.Sf.Sc
open Go Go.Sf
theorem D2 (n:Nat):(BW n).length=n:=by simp [BW]
theorem Hr {n:Nat} {i:Int}:i∈BW n↔0<=i∧i<n:=by
 unfold BW;rw [List.mem_map];constructor
 ·rintro ⟨k,a,rfl⟩;have:=List.mem_range.1 a;exact ⟨Int.natCast_nonneg k,Int.ofNat_lt.2 this⟩
 ·rintro ⟨b,c⟩;exact ⟨i.toNat,List.mem_range.2 (by omega),by show ((i.toNat:Nat):Int)=i; omega⟩
theorem Mk {n:Nat} {α:Type} [Inhabited α] (F:Int->α) {i:Int} (a:0<=i) (b:i<n):AB ((BW n).map F) i=F i:=by
 unfold AB BW;rw [List.map_map,List.getD_eq_getElem?_getD,List.getElem?_map,List.getElem?_range (by omega)];show F (Int.ofNat i.toNat)=F i;congr 1;show ((i.toNat:Nat):Int)=i;omega
theorem Jg {i:Int} (a:0<=i):BW (i+1).toNat=BW i.toNat++[i]:=by
 rw [show (i+1).toNat=i.toNat+1 by omega,Po,show ((i.toNat:Nat):Int)=i by omega]
def Ky (t:AC) (a:Int):d0:=(BW t.Nodes.length).map fun k=>JH t k a
def KG (t:AC):List d0:=(BW t.Nodes.length).map (Ky t)
theorem fu {t:AC} (c:BX t) (h:IP t) (hv:(BF t).2=0) {a:Int} (d:0<=a) (e:a<t.Nodes.length):Iq t a=some ((BW t.Nodes.length).filter fun i=>JH t i a,0):=by
 have j:=h.nodes;unfold Iq;have g:JG t a=true:=by simp [JG,d,e]
 rw [Um c,bs,d2 (by simp [hv,g])];rw [DO (fun i=>(BW i.toNat).filter fun i=>JH t i a) (by omega) (by rfl),bs,Int.toNat_natCast];intro i b f;rw [ct h b f,bs,Jg b,List.filter_append];have k:((BW i.toNat).filter fun i=>JH t i a).length<=i.toNat:=by
  have:=List.length_filter_le (fun i=>JH t i a) (BW i.toNat)
  rwa [D2] at this
 by_cases hi:JH t i a=true
 ·rw [d1 hi,CF (by simp; unfold BN; omega),bs];simp [hi]
 ·rw [d2 hi];simp [hi]
theorem gu {n:Nat} {l:Ne} (g:∀ x∈l,0<=x∧x<n):forA (fun (h:Int) (s2:d0)=>
  (AM l h).bind fun a=>
  (AM s2 a).bind fun _=>
  some (BZ s2 a true)) 0 (l.length:Int) (List.replicate n false)=some ((BW n).map fun k=>l.any fun x=>decide (x=k)):=by
 rw [DO (fun j=>(BW n).map fun k=>(l.take j.toNat).any fun x=>decide (x=k)) (by omega) (by
  refine List.ext_getElem (by simp [D2]) (fun j c o=>by simp))]
 ·rw [Int.toNat_natCast,List.take_length]
 ·intro j d c;have f:=g _ (AQ d c);rw [AI d c,bs,AI f.1 (by rw [d7,D2]; exact f.2),bs,GJ d c];congr 1;unfold BZ;refine List.ext_getElem (by simp) (fun k p i=>?_);have m:k<n:=by simpa [D2] using i
  rw [List.getElem_set];have e:(BW n)[k]'(by rw [D2]; exact m)=(k:Int):=by simp [BW]
  simp only [List.getElem_map,e,List.any_append,List.any_cons,List.any_nil,Bool.or_false];by_cases b:(AB l j).toNat=k
  ·rw [d1 b,decide_eq_true (show AB l j=(k:Int) by omega),Bool.or_true]
  ·rw [d2 b,decide_eq_false (show ¬ AB l j=(k:Int) by omega),Bool.or_false]
theorem eQ {t:AC} (f:BX t) (h:IP t) (hv:(BF t).2=0):HV t=some (KG t):=by
 have p:=h.nodes;unfold HV;rw [DO (fun i=>(BW i.toNat).map (Ky t)) (by omega) (by rfl),bs,Int.toNat_natCast]
 ·rfl
 ·intro i d j;have o:Jq (t.Nodes.length:Int) false=some (List.replicate t.Nodes.length false):=by
   unfold Jq;rw [d1 (by omega),Int.toNat_natCast]
  rw [o,bs,fu f h hv d j,bs];have:=gu (n:=t.Nodes.length) (l:=(BW t.Nodes.length).filter fun k=>JH t k i) (fun x b=>Hr.1 (List.mem_filter.1 b).1);show (forA (fun (g:Int) (s2:d0)=>
   (AM ((BW t.Nodes.length).filter fun k=>JH t k i) g).bind fun a=>
   (AM s2 a).bind fun _=>
   some (BZ s2 a true)) 0 (((BW t.Nodes.length).filter fun k=>JH t k i).length:Int) (List.replicate t.Nodes.length false)).bind _=_
  rw [this,bs,CF (by rw [d7,D2]; simp; unfold BN; omega),bs,Jg d,List.map_append];congr 2;simp only [List.map_cons,List.map_nil];congr 1;unfold Ky;refine List.map_congr_left (fun k c=>?_);have c:=Hr.1 c;rw [Bool.eq_iff_iff,List.any_eq_true];constructor
  ·rintro ⟨x,b,e⟩;rw [zzX] at e;subst e;exact (List.mem_filter.1 b).2
  ·intro m;exact ⟨k,List.mem_filter.2 ⟨Hr.2 c,m⟩,by simp⟩
end Go.Sf.Sc
namespace Go.Sf.Sc
open Go Go.Sf
def HL:Nat->AN->List Morphism
 | 0,f=>E8 f.p.Edges.length f
 | n+1,f=>(BW f.g.Nodes.length).flatMap fun k=>if Pg f k=true then HL n { f with nodes:=f.nodes++[k] } else []
def Yu (f:AN) (i:Int):Prop:=0<=i∧i<f.p.Edges.length∧0<=(AB f.p.Edges i).From∧(AB f.p.Edges i).From<f.nodes.length∧0<=(AB f.p.Edges i).To∧(AB f.p.Edges i).To<f.nodes.length∧∀ k:Int,0<=k->k<f.g.Edges.length->K3 f i k=false
theorem Qy (f:AN) (i k:Int):K3 f i k=((decide (AB f.partial_.Edges i<0)||decide (AB f.partial_.Edges i=k))&&decide (AB f.g.Edges k=⟨(AB f.p.Edges i).Type',AB f.nodes (AB f.p.Edges i).From,AB f.nodes (AB f.p.Edges i).To⟩)):=rfl
theorem RF {α:Type} [Inhabited α] (l:List α) (x:α) {i:Int} (a:0<=i) (b:i<l.length):AB (l++[x]) i=AB l i:=by
 unfold AB;rw [List.getD_eq_getElem?_getD,List.getD_eq_getElem?_getD,List.getElem?_append_left (by omega)]
theorem aI:∀ (n:Nat) (f:AN) (i:Int),Yu f i->(f.edges.length:Int)<=i->i<f.edges.length+n->E8 n f=[]
 | 0,f,i,_,d,e=>by omega
 | n+1,f,i,b,d,e=>by
  rw [E8];refine List.flatMap_eq_nil_iff.2 (fun k a=>?_);have a:=Hr.1 a;by_cases c:(f.edges.length:Int)=i
  ·have:Pf f k=false:=by
    unfold Pf;rw [c,b.2.2.2.2.2.2 k a.1 a.2]; rfl
   rw [d2 (by rw [this]; decide)]
  ·split
   ·exact aI n { f with edges:=f.edges++[k] } i b (by show ((f.edges++[k]).length:Int)<=i; rw [d4]; simp; omega) (by show i<((f.edges++[k]).length:Int)+n; rw [d4]; simp; omega)
   ·rfl
theorem WK:∀ (n:Nat) (f:AN) (i:Int),f.edges=[]->Yu f i->HL n f=[]
 | 0,f,i,b,a=>by
  rw [HL];exact aI _ f i a (by rw [b]; simpa using a.1) (by rw [b]; simpa using a.2.1)
 | n+1,f,i,b,a=>by
  rw [HL];refine List.flatMap_eq_nil_iff.2 (fun k s=>?_);split
  ·refine WK n { f with nodes:=f.nodes++[k] } i b ?_;obtain ⟨l,m,c,o,d,q,r⟩:=a;have t:((f.nodes++[k]).length:Int)=f.nodes.length+1:=by rw [d4]; simp
   refine ⟨l,m,c,?_,d,?_,fun j e h=>?_⟩
   ·show (AB f.p.Edges i).From<((f.nodes++[k]).length:Int); omega
   ·show (AB f.p.Edges i).To<((f.nodes++[k]).length:Int); omega
   ·have:=r j e h;rw [Qy] at this ⊢;show ((decide (AB f.partial_.Edges i<0)||decide (AB f.partial_.Edges i=j))&&decide (AB f.g.Edges j=⟨(AB f.p.Edges i).Type',AB (f.nodes++[k]) (AB f.p.Edges i).From,AB (f.nodes++[k]) (AB f.p.Edges i).To⟩))=false;rw [RF _ _ c o,RF _ _ d q];exact this
  ·rfl
theorem cu {f:AN} (d:MW f) (h:Nh f=false):∃ i,Yu f i:=by
 unfold Nh at h;rw [Bool.not_eq_false',IY] at h;obtain ⟨i,b,c,h⟩:=h;rw [zzZ,zzX,Bool.not_eq_true',E6] at h;have a:=d.ends _ (AQ b c);exact ⟨i,b,c,a.1,by omega,a.2.2.1,by omega,h.2⟩
theorem aB:∀ (n:Nat) (f:AN),MW f->f.edges=[]->KM n f=HL n f
 | 0,_,_,_=>rfl
 | n+1,f,b,c=>by
  rw [KM,HL];refine congrArg (fun F=>(BW f.g.Nodes.length).flatMap F) (funext fun k=>?_);have a:MW { f with nodes:=f.nodes++[k] }:=⟨b.pn,b.pe,b.ends,b.kinds,b.small⟩;cases Pg f k
  ·rfl
  ·cases d:Nh { f with nodes:=f.nodes++[k] }
   ·obtain ⟨i,e⟩:=cu a d;rw [WK n { f with nodes:=f.nodes++[k] } i c e]; rfl
   ·simp only [Bool.and_self,if_true];exact aB n _ a c
end Go.Sf.Sc
namespace Go.Sf.Sc
open Go Go.Sf
theorem UX {σ ρ:Type} {f:σ × Int->Option (CY (σ × Int) ρ)} (g:Int->σ) {a b:Int} {s:σ} (c:a<=b) (d:s=g a) (h:∀ i,a<=i->i<b->f (g i,i)=some (.next (g (i+1),i+1))) (e:f (g b,b)=some (.brk (g b,b))):It f (s,a)=some (.inl (g b,b)):=by
 subst d;have key:∀ (n:Nat) (i:Int),a<=i->i+n=b->Mp f (g i,i) (.inl (g b,b)):=by
  intro n
  induction n with
  | zero=>
   intro i _ hi;have:i=b:=by omega
   subst this;exact .brk e
  | succ n k=>
   intro i j l;exact .next (h i j (by omega)) (k (i+1) (by omega) (by omega))
 exact (key (b - a).toNat a (Int.le_refl _) (by omega)).eq
def JK (s:AW) (nodes edges:Ne):AN:=⟨s.p,s.g,KG s.t,s.partial_,s.injective,s.most+1,nodes,edges,s.found⟩
def DH (s:AW) (l:List Morphism):AW:={ s with found:=(s.found++l).take (s.most+1).toNat }
structure TY (s:AW):Prop where
 m0:0<=s.most
 m1:s.most<=9999
 out:(s.found.length:Int)<=s.most+1
theorem OA {s:AW} (h:TY s):DH s []=s:=by
 unfold DH;rw [List.append_nil,List.take_of_length_le (by have:=h.out; have:=h.m0; omega)]
theorem UQ {s:AW} (h:(s.found.length:Int)=s.most+1) (l:List Morphism):DH s l=s:=by
 unfold DH;rw [List.take_append_of_le_length (by omega),List.take_of_length_le (by omega)]
theorem UR {s:AW} (h:TY s) (l:List Morphism):TY (DH s l):=by
 refine ⟨h.m0,h.m1,?_⟩;have:=h.m0;show (((s.found++l).take (s.most+1).toNat).length:Int)<=s.most+1;rw [d5]; omega
theorem SW (s:AW) (a b:List Morphism):DH (DH s a) b=DH s (a++b):=by
 show ({ s with found:=(((s.found++a).take (s.most+1).toNat)++b).take (s.most+1).toNat }:AW)=_;rw [Vk,ea]; rfl
theorem bE (s:AW) {l:Ne} (j:l.length<=1000) (n:Int):EB s l n=some (s.injective&&l.any fun x=>decide (n=x)):=by
 unfold EB;cases s.injective
 ·rw [SE (fun _=>false) true (a:=0) (b:=0) (Int.le_refl _) (fun i c d=>by omega) (by rw [d2 (by simp)])];rfl
 ·rw [SE (fun i=>decide (AB l i=n)) true (a:=0) (b:=l.length) (by omega) (fun i c d=>by
   rw [d1 (by simp; exact d),AI c d,bs,BG (by omega) (by omega),J5]) (by rw [d2 (by simp)])]
  have e:anyR (fun i=>decide (AB l i=n)) 0 l.length=l.any fun x=>decide (n=x):=by
   rw [Bool.eq_iff_iff,IY,List.any_eq_true];constructor
   ·rintro ⟨i,f,c,h⟩;exact ⟨_,AQ f c,by simpa [eq_comm] using h⟩
   ·rintro ⟨x,g,h⟩;obtain ⟨i,f,c,rfl⟩:=EH g;exact ⟨i,f,c,by simpa [eq_comm] using h⟩
  rw [e,Bool.true_and];cases l.any fun x=>decide (n=x) <;> rfl
theorem Vc:∀ (n:Nat) (s:AW) (nodes l:Ne),MW (JK s [] [])->TY s->nodes.length=s.p.Nodes.length->l.length+n=s.p.Edges.length->∀ m,n+1<=m->DC m s nodes l=some (DH s (E8 n (JK s nodes l)))
 | n,s,nodes,l,e,t,y,z,m,B=>by
  obtain ⟨m,rfl⟩:∃ k,m=k+1:=⟨m - 1,by omega⟩;have u:=e.small;have R:s.p.Nodes.length<=1000:=u.1;have s2:s.p.Edges.length<=1000:=u.2.1;have S:s.g.Nodes.length<=1000:=u.2.2.1;have T:s.g.Edges.length<=1000:=u.2.2.2;have U:=t.m0;have V:=t.m1;have W:=t.out;rw [DC];by_cases f:(s.found.length:Int)=s.most+1
  ·rw [d1 (by simp; omega),UQ f]
  rw [d2 (by simp; omega)]
  match n,z,B with
  | 0,z,B=>
   rw [d1 (by simp; omega),FE (by unfold BN; omega),bs,FE (by unfold BN; omega),bs,CF (by simp; unfold BN; omega),bs];unfold DH;rw [List.take_of_length_le (by simp [E8]; omega)]; rfl
  | n+1,z,B=>
   have h:(0:Int)<=l.length:=by omega
   have r:(l.length:Int)<s.p.Edges.length:=by omega
   have d:=e.ends _ (AQ (l:=s.p.Edges) h r);have H:(AB s.p.Edges l.length).From<nodes.length:=by rw [y]; exact d.2.1
   have I:(AB s.p.Edges l.length).To<nodes.length:=by rw [y]; exact d.2.2.2
   have v:(l.length:Int)<s.partial_.Edges.length:=by
    have:s.partial_.Edges.length=s.p.Edges.length:=e.pe;omega
   rw [d2 (by simp; omega),AI h r,bs];rw [UX (fun i=>DH s ((BW i.toNat).flatMap fun k=>if Pf (JK s nodes l) k=true then E8 n (JK s nodes (l++[k])) else [])) (a:=0) (b:=(s.g.Edges.length:Int)) (s:=s) (by omega) (OA t).symm (fun i C D=>by
    have J:∀ F,DH s ((BW (i+1).toNat).flatMap F)=DH (DH s ((BW i.toNat).flatMap F)) (F i):=by
     intro F;rw [SW,Jg C,List.flatMap_append]; simp
    rw [J];generalize (BW i.toNat).flatMap (fun k=>if Pf (JK s nodes l) k=true then E8 n (JK s nodes (l++[k])) else [])=L;have E:=UR t L;rw [d1 (by rw [zzX]; exact D)];have K:AM (DH s L).g.Edges i=some (AB s.g.Edges i):=AI C D;have M:AM (DH s L).partial_.Edges (l.length:Int)=some (AB s.partial_.Edges l.length):=AI h v;have N:EB (DH s L) l i=some (s.injective&&l.any fun x=>decide (i=x)):=bE (DH s L) (by omega) i;have key:((BV [] l).bind fun j=>
      (BV j [i]).bind fun o=>
      (DC m (DH s L) nodes o).bind fun q=>
      some (.next (q,A4 (i+1)):CY (AW × Int) AW))=some (.next (DH (DH s L) (E8 n (JK s nodes (l++[i]))),i+1)):=by
     have G:=Vc n (DH s L) nodes (l++[i]) ⟨e.pn,e.pe,e.ends,e.kinds,e.small⟩ E y (by show (l++[i]).length+n=s.p.Edges.length; rw [d4]; simp; omega) m (by omega);have O:E8 n (JK (DH s L) nodes (l++[i]))=E8 n (JK s nodes (l++[i])):=Ou n (JK s nodes (l++[i])) _;rw [O] at G;rw [FE (by unfold BN; omega),bs,CF (by simp; unfold BN; omega),bs,G,bs,BG (by omega) (by omega)]
    rw [K,bs,M,bs,N,key];simp only [bs];rw [AI d.1 H,AI d.2.2.1 I,BG (n:=i+1) (by omega) (by omega)];simp only [bs];have w:Pf (JK s nodes l) i=(((decide (AB s.partial_.Edges l.length<0)||decide (AB s.partial_.Edges l.length=i))&&decide (AB s.g.Edges i=⟨(AB s.p.Edges l.length).Type',AB nodes (AB s.p.Edges l.length).From,AB nodes (AB s.p.Edges l.length).To⟩))&&!(s.injective&&l.any fun x=>decide (i=x))):=rfl;have P:decide (AB s.g.Edges i=⟨(AB s.p.Edges l.length).Type',AB nodes (AB s.p.Edges l.length).From,AB nodes (AB s.p.Edges l.length).To⟩)=(decide ((AB s.p.Edges l.length).Type'=(AB s.g.Edges i).Type')&&decide ((AB s.g.Edges i).From=AB nodes (AB s.p.Edges l.length).From)&&decide ((AB s.g.Edges i).To=AB nodes (AB s.p.Edges l.length).To)):=by
     rw [Bool.eq_iff_iff];simp only [zzZ,zzX];generalize AB s.g.Edges i=x;obtain ⟨X,Y,Z⟩:=x;simp only [DU.mk.injEq];constructor
     ·rintro ⟨a,b,c⟩; exact ⟨⟨a.symm,b⟩,c⟩
     ·rintro ⟨⟨a,b⟩,c⟩; exact ⟨a.symm,b,c⟩
    have Q:(decide (AB s.partial_.Edges l.length<0)||decide (AB s.partial_.Edges l.length=i))=!(decide (0<=AB s.partial_.Edges l.length)&&!decide (AB s.partial_.Edges l.length=i)):=by
     rw [Bool.not_and,Bool.not_not];congr 1;rw [←decide_not];exact decide_eq_decide.2 (by omega)
    rw [w,P,Q];generalize E8 n (JK s nodes (l++[i]))=A;generalize decide (0<=AB s.partial_.Edges l.length)=c1;generalize decide (AB s.partial_.Edges l.length=i)=c2;generalize decide ((AB s.p.Edges l.length).Type'=(AB s.g.Edges i).Type')=c3;generalize decide ((AB s.g.Edges i).From=AB nodes (AB s.p.Edges l.length).From)=c4;generalize decide ((AB s.g.Edges i).To=AB nodes (AB s.p.Edges l.length).To)=c5;generalize (s.injective&&l.any fun x=>decide (i=x))=c6;cases c1 <;> cases c2 <;> cases c3 <;> cases c4 <;> cases c5 <;> cases c6 <;> first | rfl | (simp only [Bool.and_self,Bool.and_true,Bool.true_and,Bool.and_false,Bool.false_and,Bool.not_true,Bool.not_false,Bool.or_true,Bool.or_false,Bool.false_or,Bool.true_or,if_true,Bool.false_eq_true,if_false,OA E,bs]; try rfl)) (by rw [d2 (by simp [DH])]),DT,Int.toNat_natCast,E8]
   rfl
end Go.Sf.Sc
namespace Go.Sf.Sc
open Go Go.Sf
def Pn (s:AW) (l:Ne) (i k:Int):Bool:=decide (AB s.g.Edges k=⟨(AB s.p.Edges i).Type',AB l (AB s.p.Edges i).From,AB l (AB s.p.Edges i).To⟩)
def QR (s:AW) (l:Ne) (i:Int):Bool:=(decide ((AB s.p.Edges i).From<l.length)&&decide ((AB s.p.Edges i).To<l.length))&&!(BW s.g.Edges.length).any (Pn s l i)
theorem jc {s:AW} {l:Ne} (n:MW (JK s [] [])):HK s l=some (!anyR (QR s l) 0 s.p.Edges.length):=by
 unfold HK;rw [CR (QR s l) false]
 ·cases anyR (QR s l) 0 s.p.Edges.length <;> rfl
 ·intro i f h _;have m:=n.ends _ (AQ (l:=s.p.Edges) f h);rw [AI f h,bs];unfold QR;by_cases d:(AB s.p.Edges i).From<l.length
  ·by_cases e:(AB s.p.Edges i).To<l.length
   ·rw [d2 (by simp; omega),DO (fun k=>(BW k.toNat).any (Pn s l i)) (by omega) (by rfl),bs,Int.toNat_natCast,decide_eq_true d,decide_eq_true e]
    ·cases (BW s.g.Edges.length).any (Pn s l i) <;> rfl
    ·intro k j o;rw [AI j o,bs,Jg j,List.any_append];have q:Pn s l i k=(decide ((AB s.p.Edges i).Type'=(AB s.g.Edges k).Type')&&decide ((AB s.g.Edges k).From=AB l (AB s.p.Edges i).From)&&decide ((AB s.g.Edges k).To=AB l (AB s.p.Edges i).To)):=by
      unfold Pn;rw [Bool.eq_iff_iff];simp only [zzZ,zzX];generalize AB s.g.Edges k=x;obtain ⟨r,t,u⟩:=x;simp only [DU.mk.injEq];constructor
      ·rintro ⟨a,b,c⟩; exact ⟨⟨a.symm,b⟩,c⟩
      ·rintro ⟨⟨a,b⟩,c⟩; exact ⟨a.symm,b,c⟩
     rw [AI m.1 d,AI m.2.2.1 e];simp only [List.any_cons,List.any_nil,Bool.or_false,bs];rw [q];generalize (BW k.toNat).any (Pn s l i)=c1;generalize decide ((AB s.p.Edges i).Type'=(AB s.g.Edges k).Type')=c3;generalize decide ((AB s.g.Edges k).From=AB l (AB s.p.Edges i).From)=c4;generalize decide ((AB s.g.Edges k).To=AB l (AB s.p.Edges i).To)=c5;cases c1 <;> cases c3 <;> cases c4 <;> cases c5 <;> rfl
   ·rw [d1 (by simp; omega),decide_eq_false e]; simp
  ·rw [d1 (by simp; omega),decide_eq_false d]; simp
theorem jZ {s:AW} {l:Ne} (d:MW (JK s [] [])) (h:anyR (QR s l) 0 s.p.Edges.length=true):∃ i,Yu (JK s l []) i:=by
 rw [IY] at h;obtain ⟨i,b,c,h⟩:=h;unfold QR at h;rw [zzZ,zzZ,zzX,zzX,Bool.not_eq_true',List.any_eq_false] at h;have a:=d.ends _ (AQ (l:=s.p.Edges) b c);refine ⟨i,b,c,a.1,h.1.1,a.2.2.1,h.1.2,fun k f g=>?_⟩;have:=h.2 k (Hr.2 ⟨f,g⟩);have e:Pn s l i k=false:=by rw [←Bool.not_eq_true]; exact this
 rw [Qy];show ((decide (AB s.partial_.Edges i<0)||decide (AB s.partial_.Edges i=k))&&Pn s l i k)=false;rw [e,Bool.and_false]
end Go.Sf.Sc
namespace Go.Sf.Sc
open Go Go.Sf
theorem V9:∀ (n:Nat) (f:AN) (o:List Morphism),HL n (Qn f o)=HL n f
 | 0,f,o=>Ou _ f o
 | n+1,f,o=>by
  rw [HL,HL];refine congrArg (fun F=>(BW f.g.Nodes.length).flatMap F) (funext fun k=>?_);have:=V9 n { f with nodes:=f.nodes++[k] } o;show (if Pg f k=true then HL n (Qn { f with nodes:=f.nodes++[k] } o) else [])=_;rw [this]
theorem Vd:∀ (n:Nat) (s:AW) (l:Ne),IP s.t->MW (JK s [] [])->TY s->l.length+n=s.p.Nodes.length->∀ m,n+1<=m->DD m s l=some (DH s (HL n (JK s l [])))
 | n,s,l,O,c,r,J,m,z=>by
  obtain ⟨m,rfl⟩:∃ k,m=k+1:=⟨m - 1,by omega⟩;have K:=c.small;have Z:s.p.Nodes.length<=1000:=K.1;have s3:s.g.Nodes.length<=1000:=K.2.2.1;have h0:=r.m0;have h1:=r.m1;have h2:=r.out;rw [DD];by_cases j:(s.found.length:Int)=s.most+1
  ·rw [d1 (by simp; omega),UQ j]; rfl
  rw [d2 (by simp; omega),jc c];cases P:anyR (QR s l) 0 s.p.Edges.length
  case true=>
   obtain ⟨i,hi⟩:=jZ c P;rw [WK n (JK s l []) i rfl hi,OA r]; rfl
  simp only [bs,Bool.not_false,Bool.not_true,Bool.false_eq_true,if_false]
  match n,J,z with
  | 0,J,z=>
   rw [d1 (by simp; omega),Option.bind_fun_some,HL];exact FJ (s.p.Edges.length+1) fun m z=>Vc s.p.Edges.length s l [] c r (by omega) (by simp) m (by omega)
  | n+1,J,z=>
   have w:(l.length:Int)<s.p.Nodes.length:=by omega
   have o:(0:Int)<=l.length:=by omega
   have E:(l.length:Int)<s.partial_.Nodes.length:=by
    have:s.partial_.Nodes.length=s.p.Nodes.length:=c.pn;omega
   have Q:(KG s.t).length=s.t.Nodes.length:=by unfold KG; rw [d7,D2]
   have d:=c.kinds _ (AQ (l:=s.p.Nodes) o w);have G:AB s.p.Nodes l.length<s.t.Nodes.length:=by rw [←Q]; exact d.2.1
   have f:AB (KG s.t) (AB s.p.Nodes l.length)=Ky s.t (AB s.p.Nodes l.length):=Mk (Ky s.t) d.1 G;rw [d2 (by simp; omega)];rw [UX (fun i=>DH s ((BW i.toNat).flatMap fun k=>if Pg (JK s l []) k=true then HL n (JK s (l++[k]) []) else [])) (a:=0) (b:=(s.g.Nodes.length:Int)) (s:=s) (by omega) (OA r).symm (fun i B C=>by
    have R:∀ F,DH s ((BW (i+1).toNat).flatMap F)=DH (DH s ((BW i.toNat).flatMap F)) (F i):=by
     intro F;rw [SW,Jg B,List.flatMap_append]; simp
    rw [R];generalize (BW i.toNat).flatMap (fun k=>if Pg (JK s l []) k=true then HL n (JK s (l++[k]) []) else [])=L;have M:=UR r L;rw [d1 (by rw [zzX]; exact C)];have q:=d.2.2 _ (AQ (l:=s.g.Nodes) B C);have y:AB s.g.Nodes i<s.t.Nodes.length:=by
     have h:=q.2;have e:AB (JK s [] []).is (AB s.p.Nodes l.length)=Ky s.t (AB s.p.Nodes l.length):=f;rw [e] at h;unfold Ky at h
     rwa [d7,D2] at h
    have H:IG (DH s L).t (AB s.g.Nodes i) (AB s.p.Nodes l.length)=some (JH s.t (AB s.g.Nodes i) (AB s.p.Nodes l.length)):=SC O q.1 y d.1;have S:AM (DH s L).g.Nodes i=some (AB s.g.Nodes i):=AI B C;have T:AM (DH s L).partial_.Nodes (l.length:Int)=some (AB s.partial_.Nodes l.length):=AI o E;have U:EB (DH s L) l i=some (s.injective&&l.any fun x=>decide (i=x)):=bE (DH s L) (by omega) i;have V:AM (DH s L).p.Nodes (l.length:Int)=some (AB s.p.Nodes l.length):=AI o w;have key:((BV [] l).bind fun D=>
      (BV D [i]).bind fun u=>
      (DD m (DH s L) u).bind fun v=>
      some (.next (v,A4 (i+1)):CY (AW × Int) AW))=some (.next (DH (DH s L) (HL n (JK s (l++[i]) [])),i+1)):=by
     have N:=Vd n (DH s L) (l++[i]) O ⟨c.pn,c.pe,c.ends,c.kinds,c.small⟩ M (by show (l++[i]).length+n=s.p.Nodes.length; rw [d4]; simp; omega) m (by omega);have W:HL n (JK (DH s L) (l++[i]) [])=HL n (JK s (l++[i]) []):=V9 n (JK s (l++[i]) []) _;rw [W] at N;rw [FE (by unfold BN; omega),bs,CF (by simp; unfold BN; omega),bs,N,bs,BG (by omega) (by omega)]
    rw [T,bs,U,S,V,key];simp only [bs];rw [H,BG (n:=i+1) (by omega) (by omega)];simp only [bs];have I:Pg (JK s l []) i=((decide (AB s.partial_.Nodes l.length<0)||decide (AB s.partial_.Nodes l.length=i))&&AB (AB (KG s.t) (AB s.p.Nodes l.length)) (AB s.g.Nodes i)&&!(s.injective&&l.any fun x=>decide (i=x))):=rfl;have X:AB (AB (KG s.t) (AB s.p.Nodes l.length)) (AB s.g.Nodes i)=JH s.t (AB s.g.Nodes i) (AB s.p.Nodes l.length):=by
     rw [f];exact Mk (fun k=>JH s.t k (AB s.p.Nodes l.length)) q.1 y
    have Y:(decide (AB s.partial_.Nodes l.length<0)||decide (AB s.partial_.Nodes l.length=i))=!(decide (0<=AB s.partial_.Nodes l.length)&&!decide (AB s.partial_.Nodes l.length=i)):=by
     rw [Bool.not_and,Bool.not_not];congr 1;rw [←decide_not];exact decide_eq_decide.2 (by omega)
    rw [I,X,Y];generalize HL n (JK s (l++[i]) [])=A;generalize decide (0<=AB s.partial_.Nodes l.length)=c1;generalize decide (AB s.partial_.Nodes l.length=i)=c2;generalize JH s.t (AB s.g.Nodes i) (AB s.p.Nodes l.length)=c3;generalize (s.injective&&l.any fun x=>decide (i=x))=c6;cases c1 <;> cases c2 <;> cases c3 <;> cases c6 <;> first | rfl | (simp only [Bool.and_self,Bool.and_true,Bool.true_and,Bool.and_false,Bool.false_and,Bool.not_true,Bool.not_false,Bool.or_true,Bool.or_false,if_true,Bool.false_eq_true,if_false,OA M,bs]; try rfl)) (by rw [d2 (by simp [DH])]),DT,Int.toNat_natCast,HL]
   rfl
end Go.Sf.Sc
namespace Go.Sf.Sc
open Go Go.Sf
def FF (t:AC) (p g:Graph) (pa:Morphism) (inj:Bool):AN:=⟨p,g,KG t,pa,inj,5001,[],[],[]⟩
def Ls (t:AC) (p g:Graph) (pa:Morphism) (inj:Bool):List Morphism:=(HL p.Nodes.length (FF t p g pa inj)).take 5001
theorem fy {t:AC} {p g:Graph} {a:Morphism} {inj:Bool} (c:BX t) (hv:(BF t).2=0) (b:MW (FF t p g a inj)):IK t p g a inj 5001=some (Ls t p g a inj):=by
 unfold IK;rw [eQ c (G8 hv) hv,bs];have h:=jQ (f:=FF t p g a inj) b ⟨by show (0:Int)<=5001; omega,by show (5001:Int)<=10000; omega,by show ((0:Nat):Int)<=5001; omega⟩ rfl rfl;rw [aB _ _ b rfl] at h;have e:AN.mk p g (KG t) a inj 5001 [] [] []=FF t p g a inj:=rfl;rw [e,h]; rfl
theorem qT {t:AC} {p g:Graph} {a:Morphism} {inj:Bool} (hv:(BF t).2=0) (b:MW (FF t p g a inj)):N8 t p g a inj 5000=some (Ls t p g a inj):=by
 unfold N8;have h:Jy ⟨t,p,g,a,inj,5000,[]⟩ []=some (DH ⟨t,p,g,a,inj,5000,[]⟩ (HL p.Nodes.length (FF t p g a inj))):=
  FJ (p.Nodes.length+1) fun m c=>Vd p.Nodes.length ⟨t,p,g,a,inj,5000,[]⟩ [] (G8 hv) b ⟨by show (0:Int)<=5000; omega,by show (5000:Int)<=9999; omega,by show ((0:Nat):Int)<=5000+1; omega⟩ (by show 0+p.Nodes.length=p.Nodes.length; omega) m c
 rw [h]; rfl
end Go.Sf.Sc
namespace Go.Sf.Sc
open Go Go.Sf
def Ov (n k:Int):Bool:=decide (k < -1)||decide (n<=k)
def Ns (l:Ne) (n:Int):Int:=if l.any (Ov n)=true then 6 else 0
theorem aj (l:Ne) (n:Int):H8 l n=some (Ns l n):=by
 unfold H8 Ns;rw [show (fun b=>MK b n)=(fun b=>some (Ov n b)) from rfl,WH (p:=Ov n) (fun a _=>rfl),bs];cases l.any (Ov n) <;> rfl
theorem XB {l:Ne} {c:Int} (n:Int) (h:(l.length:Int)=c):KB l c n=some (Ns l n):=by
 unfold KB Ns;rw [d2 (by simp [h]),CR (fun i=>Ov n (AB l i)) 6]
 ·have e:anyR (fun i=>Ov n (AB l i)) 0 l.length=l.any (Ov n):=by
   rw [Bool.eq_iff_iff,IY,List.any_eq_true];constructor
   ·rintro ⟨i,a,b,h⟩;exact ⟨_,AQ a b,h⟩
   ·rintro ⟨x,d,h⟩;obtain ⟨i,a,b,rfl⟩:=EH d;exact ⟨i,a,b,h⟩
  rw [e];cases l.any (Ov n) <;> rfl
 ·intro i a b _;rw [AI a b,bs,bs];unfold Ov;cases decide (AB l i < -1) <;> cases decide (n<=AB l i) <;> rfl
end Go.Sf.Sc
namespace Go.Sf.Sc
open Go Go.Sf
theorem Wz (t:AC) (g:Graph):GT t g=some (GK t g):=by
 unfold GT GK;rw [show (fun b=>K0 b t)=(fun b=>some (decide ((t.Nodes.length:Int)<=b))) from rfl,WH (p:=fun n=>decide ((t.Nodes.length:Int)<=n)) (fun a _=>rfl),bs,
  show (fun b=>K1 b t)=(fun b=>some (decide ((t.Edges.length:Int)<=b.Type'))) from rfl,X9 (p:=fun e=>decide ((t.Edges.length:Int)<=e.Type')) (fun a _=>rfl),bs]
 cases g.Nodes.any fun n=>decide ((t.Nodes.length:Int)<=n) <;> rfl
def HP (t:AC) (p g:Graph):Int:=if (BF t).2≠0 then (BF t).2 else if DJ p≠0 then DJ p else if DJ g≠0 then DJ g else if (GK t p&&GK t g)=true then 0 else 13
theorem YW {t:AC} (e:BX t) (p g:Graph):HY t p g=some (HP t p g):=by
 unfold HY HP;rw [R9 e,bs];refine Ie fun _=>?_;have h:forR (ρ:=Int) (fun (f:Int) (_:Unit)=>
   (AM [p,g] f).bind fun d=>
   (EZ d).bind fun c=>
   if (!decide (c=0))=true then
   some (.ret c)
   else
   some (.next ())) 0 ([p,g].length:Int) ()=some (if DJ p≠0 then .inr (DJ p) else if DJ g≠0 then .inr (DJ g) else .inl ()):=by
  show forGo _ 2 0 ()=_;rw [H4,show AM [p,g] 0=some p from rfl,bs,Oi,bs];by_cases a:DJ p=0
  ·rw [d2 (by simp [a]),d2 (by simp [a])];show forGo _ 1 (0+1) ()=_;rw [H4,show AM [p,g] (0+1)=some g from rfl,bs,Oi,bs];by_cases b:DJ g=0
   ·rw [d2 (by simp [b]),d2 (by simp [b])]; rfl
   ·rw [d1 (by simp [b]),d1 b]
  ·rw [d1 (by simp [a]),d1 a]
 rw [h];by_cases a:DJ p=0
 ·by_cases b:DJ g=0
  ·simp only [a,b,ne_eq,not_true_eq_false,if_false,DT];rw [Wz,Wz,bs];cases GK t p <;> cases GK t g <;> rfl
  ·simp only [a,b,ne_eq,not_true_eq_false,not_false_eq_true,if_false,if_true,Vl]
 ·simp only [a,ne_eq,not_false_eq_true,if_true,Vl]
theorem TN {t:AC} (a:BX t) (p g:Graph):Jl t p g=some (HP t p g):=by
 unfold Jl HP;rw [SB a,bs];refine Ie fun _=>?_;rw [Ok,bs];refine Ie fun b=>?_;rw [Ok,bs];refine Ie fun c=>?_;rw [Un (GA b),bs,Un (GA c)];cases GK t p <;> cases GK t g <;> rfl
end Go.Sf.Sc
namespace Go.Sf.Sc
open Go Go.Sf
theorem WS {t:AC} {p g:Graph} {f:Morphism} {inj:Bool} (h:HP t p g=0) (j:f.Nodes.length=p.Nodes.length) (l:f.Edges.length=p.Edges.length):(BF t).2=0∧MW (FF t p g f inj):=by
 unfold HP at h;by_cases hv:(BF t).2=0
 ·rw [d2 (by simp [hv])] at h;by_cases c:DJ p=0
  ·rw [d2 (by simp [c])] at h;by_cases d:DJ g=0
   ·rw [d2 (by simp [d])] at h;by_cases a:(GK t p&&GK t g)=true
    ·rw [zzZ] at a;have op:=GA c;have i:=GA d;have tp:=Nk op a.1;have q:=Nk i a.2;have r:(KG t).length=t.Nodes.length:=by unfold KG; rw [d7,D2]
     refine ⟨hv,j,l,fun e m=>?_,fun n o=>?_,Nat.le_trans op.nodes (by omega),Nat.le_trans op.edges (by omega),Nat.le_trans i.nodes (by omega),Nat.le_trans i.edges (by omega)⟩
     ·have:=op.fit e m;exact ⟨this.2.1.1,this.2.1.2,this.2.2.1,this.2.2.2⟩
     ·have:=tp.1 n o;refine ⟨this.1,by show n<((KG t).length:Int); rw [r]; exact this.2,fun k b=>?_⟩;have b:=q.1 k b;refine ⟨b.1,?_⟩;show k<((AB (KG t) n).length:Int);unfold KG;rw [Mk (Ky t) this.1 this.2];unfold Ky;rw [d7,D2]; exact b.2
    ·rw [d2 a] at h; cases h
   ·rw [d1 (by simp [d])] at h; exact absurd h d
  ·rw [d1 (by simp [c])] at h; exact absurd h c
 ·rw [d1 (by simp [hv])] at h; exact absurd h hv
def O0 (t:AC) (p g:Graph) (pa:Morphism) (inj:Bool):List Morphism × Int:=
 if HP t p g≠0 then ([],HP t p g) else if ¬ (pa.Nodes.length=p.Nodes.length∧pa.Edges.length=p.Edges.length) then ([],20) else
 if Ns pa.Nodes g.Nodes.length≠0 then ([],Ns pa.Nodes g.Nodes.length) else if Ns pa.Edges g.Edges.length≠0 then ([],Ns pa.Edges g.Edges.length) else
 if 5000<(Ls t p g pa inj).length then ([],3) else (Ls t p g pa inj,0)
theorem Wu {t:AC} (c:BX t) (p g:Graph) (b:Morphism) (inj:Bool):GR t p g b inj=some (O0 t p g b inj):=by
 unfold GR O0;rw [YW c,bs];refine K8 fun e=>?_;refine P2 (by simp only [Bool.or_eq_true,Bool.not_eq_true',decide_eq_false_iff_not]; omega) fun a=>?_;have a:=Classical.not_not.1 a;rw [aj,bs];refine K8 fun h=>?_;rw [aj,bs];refine K8 fun i=>?_;obtain ⟨hv,f⟩:=WS (inj:=inj) e a.1 a.2;unfold KW;rw [fy c hv f,bs];by_cases d:5000<(Ls t p g b inj).length
 ·rw [d1 (by rw [zzX]; omega),d1 d]; rfl
 ·rw [d2 (by rw [zzX]; omega),d2 d]; rfl
theorem cx {t:AC} (d:BX t) (p g:Graph) (b:Morphism) (inj:Bool):LI t p g b inj=some (O0 t p g b inj):=by
 unfold LI O0;rw [TN d,bs];refine K8 fun e=>?_;refine P2 (by simp only [Bool.or_eq_true,Bool.not_eq_true',decide_eq_false_iff_not]; omega) fun a=>?_;have a:=Classical.not_not.1 a;rw [XB _ (by omega),bs];refine K8 fun h=>?_;rw [XB _ (by omega),bs];refine K8 fun i=>?_;obtain ⟨hv,f⟩:=WS (inj:=inj) e a.1 a.2;rw [qT hv f,bs];by_cases c:5000<(Ls t p g b inj).length
 ·rw [d1 (by rw [zzX]; omega),d1 c]
 ·rw [d2 (by rw [zzX]; omega),d2 c]
end Go.Sf.Sc
