/- Plain lemmas: what the functions of the program and of the reference compute. -/
import Derived.Test.YtlbmpkmkmkgniaaGreatDoorP1
import Derived.Test.YtlbmpkmkmkgniaaGreatDoorEval
set_option linter.all false
set_option maxRecDepth 100000
namespace Go.Sf.Sc
open Go Go.Sf
variable {t:AC} {c:AA}
theorem fm (e:BY t) (p:Pattern) (j:EE c):EQ t p c=some (H3 t p c):=by
 by_cases d:(BE t).2=0
 ·exact jG e d p j
 ·unfold EQ H3;rw [Vo e,bs];refine Ib fun h=>?_;exfalso;unfold J5 at h;rw [d1 d] at h;exact d h
end Go.Sf.Sc
namespace Go.Sf.Sc
open Go Go.Sf
variable {α:Type}
theorem gh [Inhabited α] (b:α->α->Bool) {l m:List α} (j:∀ x∈l,∀ y∈m,(b x y=true↔x=y)) (o:l.length=m.length):anyR (fun i=>!b (AB l i) (AB m i)) 0 l.length=false↔l=m:=by
 rw [ET];constructor
 ·intro h;refine Z8 o (fun i d e=>?_);have:=h i d e;rw [Bool.not_eq_false'] at this;exact (j _ (AP d e) _ (AP d (by omega))).1 this
 ·rintro rfl i d e;rw [Bool.not_eq_false'];exact (j _ (AP d e) _ (AP d e)).2 rfl
theorem fO [Inhabited α] [DecidableEq α] {l m:List α} (r:l.length=m.length) {k:Unit->ca} {j:Bool->ca}:thenR (forR (ρ:=Bool) (fun (o:Int) (_:Unit)=>
 (AM l o).bind fun d=>
 (AM m o).bind fun e=>
 if (!decide (d=e))=true then
 some (.ret false)
 else
 some (.next ())) 0 (l.length:Int) ()) k j=if l=m then k () else j false:=by
 rw [CR (fun i=>!decide (AB l i=AB m i)) false]
 ·have:=gh (fun x y:α=>decide (x=y)) (l:=l) (m:=m) (fun _ _ _ _=>decide_eq_true_iff) r;by_cases h:l=m
  ·rw [this.2 h,d1 h]; rfl
  ·rw [d2 h];cases v:anyR (fun i=>!decide (AB l i=AB m i)) 0 l.length
   ·exact absurd (this.1 v) h
   ·rfl
 ·intro i q u _;rw [AI q u,bs,AI q (by omega),bs,J3]
theorem UU [Inhabited α] [DecidableEq α] (l m:List α):(if (!decide ((l.length:Int)=(m.length:Int)))=true then
 some false
 else
 thenR (forR (ρ:=Bool) (fun (q:Int) (_:Unit)=>
 (AM l q).bind fun d=>
 (AM m q).bind fun j=>
 if (!decide (d=j))=true then
 some (.ret false)
 else
 some (.next ())) 0 (l.length:Int) ()) (fun _=>
 some true) (fun r=>some r))=some (decide (l=m)):=by
 by_cases o:l.length=m.length
 ·rw [d2 (by simp [o]),fO o];by_cases h:l=m
  ·rw [d1 h,decide_eq_true h]
  ·rw [d2 h,decide_eq_false h]
 ·rw [d1 (by simp; omega),decide_eq_false (fun e=>o (by rw [e]))]
theorem eJ (l m:Ne):slices_Equal_int l m=some (decide (l=m)):=UU l m
theorem f0 (l m:Ne):La l m=some (decide (l=m)):=UU l m
theorem YW (l m:Ne):J7 l m=some (decide (l=m)):=UU l m
noncomputable def eC (a b:AA):Bool:=@decide (a=b) (Classical.propDecidable _)
end Go.Sf.Sc
namespace Go.Sf.Sc
open Go Go.Sf
mutual
def cnt:AA->Nat
 | ⟨_,kids,_,_⟩=>1+HF kids
def HF:List AA->Nat
 | []=>0
 | k::l=>cnt k+HF l
end
mutual
def KF:AA->Nat
 | ⟨k,kids,_,_⟩=>(if k=5 then 1 else 0)+Ll kids
def Ll:List AA->Nat
 | []=>0
 | k::l=>max (KF k) (Ll l)
end
theorem Jy (c:AA):cnt c=1+HF c.Kids:=by cases c; rfl
theorem Ta (c:AA):KF c=(if c.Kind=5 then 1 else 0)+Ll c.Kids:=by cases c; rfl
variable {k:Int}
theorem fN {l:List AA} (d:0<=k) (e:k<l.length):l.drop k.toNat=AB l k::l.drop (k+1).toNat:=by
 rw [show (k+1).toNat=k.toNat+1 by omega,List.drop_eq_getElem_cons (by omega)];unfold AB;rw [List.getD_eq_getElem?_getD,List.getElem?_eq_getElem (by omega)]; rfl
theorem Uv:∀ (N:Nat) (c:AA),SizeOf.sizeOf c<=N->(AE c).Sm->∀ most:Int,0<=most->most<=1000->∃ r,(∀ n,N<=n->GK n c most=some r)∧-1<=r∧r<=most - 1∧(0<=r->EE c∧(cnt c:Int)+r<=most)
 | 0,c,h,_,_,_,_=>by have:=DP c; omega
 | N+1,c,h,Y,most,m0,m1=>by
  obtain ⟨P,Q,D⟩:=fL Y;obtain ⟨R,z,S⟩:=UV c.Pattern;obtain ⟨T,F,U⟩:=fQ P;have step:∀ n,N+1<=n->∃ m,n=m+1∧N<=m:=fun n d=>⟨n - 1,by omega,by omega⟩;cases R
  ·refine ⟨-1,fun n d=>?_,by omega,by omega,fun h=>by omega⟩;obtain ⟨n,rfl,_⟩:=step n d;rw [GK,z]; rfl
  cases T
  ·refine ⟨-1,fun n d=>?_,by omega,by omega,fun h=>by omega⟩;obtain ⟨n,rfl,_⟩:=step n d;rw [GK,z,bs,F]; rfl
  have loop:∀ (m:Nat) (k left:Int),0<=k->k+m=c.Kids.length->-1<=left->left<=1000->∃ e w,(∀ n,N<=n->Mj (ρ:=Int) (fun (q:Int × Int)=>
    if ((decide (q.2<(c.Kids.length:Int)))&&(decide (0<=q.1)))=true then
    (AM c.Kids q.2).bind fun A=>
    (GK n A q.1).bind fun B=>
    some (.next (B,A4 (q.2+1)))
    else
    some (.brk (q.1,q.2))) (left,k) (.inl (e,w)))∧-1<=e∧e<=left∧(0<=e->(∀ j,k<=j->j<c.Kids.length->EE (AB c.Kids j))∧(HF (c.Kids.drop k.toNat):Int)+e<=left):=by
   intro m
   induction m with
   | zero=>
    intro k left y L E l1;refine ⟨left,k,fun n d=>.brk ?_,E,by omega,fun _=>⟨fun j C x=>by omega,?_⟩⟩
    ·rw [d2 (by simp; omega)]
    ·rw [List.drop_of_length_le (by omega),HF]; omega
   | succ m X=>
    intro k left y L E l1;by_cases M:0<=left
    ·have o:=AP (l:=c.Kids) y (by omega);have:=D9 o;obtain ⟨r,V,W,Z,J⟩:=Uv N _ (by omega) (D _ o) left M l1;obtain ⟨e,w,G,H,K,v⟩:=X (k+1) r (by omega) (by omega) W (by omega);refine ⟨e,w,fun n d=>.next (s':=(r,k+1)) ?_ (G n d),H,by omega,fun u=>⟨fun j C x=>?_,?_⟩⟩
     ·rw [d1 (by simp; omega),AI y (by omega),bs,V n d,bs,BI (by omega) (by omega)]
     ·by_cases O:j=k
      ·subst O; exact (J (by omega)).1
      ·exact (v u).1 j (by omega) x
     ·have z:=(J (by omega)).2;have F:=(v u).2;rw [fN y (by omega),HF];omega
    ·refine ⟨left,k,fun n d=>.brk ?_,E,by omega,fun h=>by omega⟩;rw [d2 (by simp; omega)]
  obtain ⟨e,w,G,H,K,v⟩:=loop c.Kids.length 0 (most - 1) (by omega) (by omega) (by omega) (by omega);refine ⟨e,fun n d=>?_,H,K,fun u=>⟨.mk c (S rfl) (U rfl) (fun k D=>?_),?_⟩⟩
  ·obtain ⟨n,rfl,I⟩:=step n d;rw [GK,z,bs,F];simp only [bs,Bool.not_true,Bool.false_eq_true,if_false];rw [BI (n:=most - 1) (by omega) (by omega),(G n I).eq,DX]
  ·obtain ⟨j,C,x,rfl⟩:=ED D;exact (v u).1 j C x
  ·have:=(v u).2;rw [show (0:Int).toNat=0 from rfl,List.drop_zero] at this;rw [Jy];omega
variable {c:AA}
theorem Uu (d:(AE c).Sm):∃ b,N8 c=some b∧(b=true->EE c∧cnt c<=40):=by
 obtain ⟨r,j,_,_,m⟩:=Uv (SizeOf.sizeOf c) c (d3 _) d 40 (by omega) (by omega);have e:Qm c 40=some r:=E9 (SizeOf.sizeOf c) j;unfold N8;rw [e];exact ⟨_,rfl,fun h=>by have:=m (by simpa using h); exact ⟨this.1,by have:=this.2; simp at h; omega⟩⟩
theorem K9:∀ {l:List AA} {k:AA},k∈l->cnt k<=HF l
 | x::l,k,h=>by
  rw [HF];rcases List.mem_cons.1 h with rfl | h
  ·omega
  ·have:=K9 h; omega
theorem YA:∀ (N:Nat) (c:AA),SizeOf.sizeOf c<=N->KF c<=cnt c
 | 0,c,h=>by have:=DP c; omega
 | N+1,c,h=>by
  have key:∀ l:List AA,(∀ k∈l,k∈c.Kids)->Ll l<=HF l:=by
   intro l
   induction l with
   | nil=>intro _; exact d3 _
   | cons k l j=>
    intro d;have m:=j (fun x e=>d x (List.mem_cons_of_mem _ e));have:=D9 (d k List.mem_cons_self);have o:=YA N k (by omega);rw [Ll,HF];omega
  have:=key c.Kids (fun _ h=>h);rw [Ta,Jy];split <;> omega
theorem YO:∀ (N:Nat) (c:AA),SizeOf.sizeOf c<=N->cnt c<=1000->KQ N c=((cnt c:Int),(KF c:Int))
 | 0,c,h,_=>by have:=DP c; omega
 | N+1,c,h,w=>by
  have key:∀ (l:List AA) (a b:Nat),(∀ k∈l,k∈c.Kids)->a+HF l<=1000->l.foldl (fun s k=>(A4 (s.1+(KQ N k).1),max s.2 (KQ N k).2)) (((a:Int),(b:Int)):Int × Int)=(((a+HF l:Nat):Int),((max b (Ll l):Nat):Int)):=by
   intro l
   induction l with
   | nil=>intro a b _ _; simp [HF,Ll]
   | cons k l v=>
    intro a b j q;rw [HF] at q;have:=D9 (j k List.mem_cons_self);rw [List.foldl_cons,YO N k (by omega) (by omega)];have r:A4 ((a:Int)+(cnt k:Int))=((a+cnt k:Nat):Int):=by rw [BI (by omega) (by omega)]; omega
    have u:max (b:Int) (KF k:Int)=((max b (KF k):Nat):Int):=by omega
    simp only [r,u];rw [v (a+cnt k) (max b (KF k)) (fun x o=>j x (List.mem_cons_of_mem _ o)) (by omega),HF,Ll,Nat.add_assoc,Nat.max_assoc]
  have d:=w;rw [Jy] at d;have:=key c.Kids 1 0 (fun _ h=>h) d;have m:=YA (N+1) c h;rw [KQ];rw [show ((1,0):Int × Int)=(((1:Nat):Int),((0:Nat):Int)) from rfl,this,Jy,Ta];rw [Ta] at m;by_cases e:c.Kind=5
  ·rw [d1 e] at m ⊢;rw [d1 e];rw [BI (by simp only [Nat.zero_max]; omega) (by simp only [Nat.zero_max]; omega)];simp only [Nat.zero_max,Prod.mk.injEq,true_and];omega
  ·rw [d2 e,d2 e];simp
theorem Wd (h:cnt c<=1000):QZ c=((cnt c:Int),(KF c:Int)):=YO _ c (d3 _) h
end Go.Sf.Sc
namespace Go.Sf.Sc
open Go Go.Sf
structure MT (f:AN):Prop where
 pn:f.partial_.Nodes.length=f.p.Nodes.length
 pe:f.partial_.Edges.length=f.p.Edges.length
 ends : ∀ e ∈ f.p.Edges, 0 ≤ e.From ∧ e.From < f.p.Nodes.length ∧ 0 ≤ e.To ∧ e.To < f.p.Nodes.length
 kinds:∀ n∈f.p.Nodes,0<=n∧n<f.is.length∧∀ t∈f.g.Nodes,0<=t∧t<(AB f.is n).length
 small:f.p.Nodes.length<=1000∧f.p.Edges.length<=1000∧f.g.Nodes.length<=1000∧f.g.Edges.length<=1000
def K4 (f:AN) (i k:Int):Bool:=
 (decide (AB f.partial_.Edges i<0)||decide (AB f.partial_.Edges i=k))&&decide (AB f.g.Edges k=⟨(AB f.p.Edges i).Type',AB f.nodes (AB f.p.Edges i).From,AB f.nodes (AB f.p.Edges i).To⟩)
variable {α:Type}
theorem aS {l:List α} (h:l≠[]):Wg l=some ():=by
 unfold Wg;cases l with
 | nil=>exact absurd rfl h
 | cons _ _=>rfl
variable {l:Ne} {i:Int}
theorem WS (e:0<=i) (d:i<l.length):I5 l i=some (AB l i):=by
 unfold I5;rw [aS (by intro h; subst h; simp at d; omega),bs,AI e d,bs]
variable {f:AN} {k:Int}
theorem af (j:MT f) (e:0<=i) (h:i<f.p.Edges.length) (q:0<=k) (r:k<f.g.Edges.length) (u:(AB f.p.Edges i).From<f.nodes.length) (v:(AB f.p.Edges i).To<f.nodes.length):FC f i k=some (K4 f i k):=by
 have m:=j.ends _ (AP e h);unfold FC K4;rw [AI e h,bs,WS e (by rw [j.pe]; exact h),bs,AI q r,bs,AI m.1 u,bs,AI m.2.2.1 v,bs];by_cases o:AB f.partial_.Edges i<0
 ·rw [d2 (by simp; omega)]; simp [o]
 ·by_cases d:AB f.partial_.Edges i=k
  ·rw [d2 (by simp [d])]; simp [d]
  ·rw [d1 (by simp [d]; omega)]; simp [o,d]
def Nf (f:AN):Bool:=!anyR (fun i=>decide (max (AB f.p.Edges i).From (AB f.p.Edges i).To=(f.nodes.length:Int) - 1)&&!anyR (fun k=>K4 f i k) 0 f.g.Edges.length) 0 f.p.Edges.length
variable {b:Int}
theorem fD {f:Int->Bool->Option (CZ Bool Bool)} (p:Int->Bool) (h:∀ i,0<=i->i<b->f i false=some (if p i=true then .brk true else .next false)):forR f 0 b false=some (.inl (anyR p 0 b)):=by
 have key:∀ (m:Nat) (i:Int),0<=i->i+m=b->forGo f m i false=some (.inl (anyR p i b)):=by
  intro m
  induction m with
  | zero=>
   intro i u hi;have:anyR p i b=false:=by rw [ET]; intro j r d; omega
   rw [this]; rfl
  | succ m v=>
   intro i u hi;rw [H6,h i u (by omega)];by_cases o:p i=true
   ·have:anyR p i b=true:=by rw [IW]; exact ⟨i,Int.le_refl _,by omega,o⟩
    rw [d1 o,this]
   ·have e:anyR p i b=anyR p (i+1) b:=by
     rw [Bool.eq_iff_iff,IW,IW];constructor
     ·rintro ⟨j,r,d,q⟩;have:j≠i:=fun e=>o (e ▸ q);exact ⟨j,by omega,d,q⟩
     ·rintro ⟨j,r,d,q⟩;exact ⟨j,by omega,d,q⟩
    rw [d2 o,e];exact v (i+1) (by omega) (by omega)
 unfold forR;by_cases w:0<=b
 ·exact key _ 0 (Int.le_refl _) (by omega)
 ·have:anyR p 0 b=false:=by rw [ET]; intro j r d; omega
  rw [this,show (b - 0).toNat=0 by omega]; rfl
theorem ZO (j:MT f) (r:0<f.nodes.length) (m:f.nodes.length<=1000):C9 f=some (Nf f):=by
 unfold C9 Nf;rw [CR (fun i=>decide (max (AB f.p.Edges i).From (AB f.p.Edges i).To=(f.nodes.length:Int) - 1)&&!anyR (fun k=>K4 f i k) 0 f.g.Edges.length) false]
 ·generalize anyR (fun i=>decide (max (AB f.p.Edges i).From (AB f.p.Edges i).To=(f.nodes.length:Int) - 1)&&!anyR (fun k=>K4 f i k) 0 f.g.Edges.length) 0 f.p.Edges.length=b;cases b <;> rfl
 ·intro i e h _;rw [AI e h,bs,BI (n:=(f.nodes.length:Int) - 1) (by omega) (by omega)];by_cases d:max (AB f.p.Edges i).From (AB f.p.Edges i).To=(f.nodes.length:Int) - 1
  ·rw [d2 (by simp [d]),fD (fun k=>K4 f i k) (fun k o q=>by
    rw [af j e h o q (by omega) (by omega),bs,J3])]
   generalize anyR (fun k=>K4 f i k) 0 f.g.Edges.length=b;rw [decide_eq_true d];cases b <;> rfl
  ·rw [d1 (by simp [d]),d2 (by simp [d])]
def BJ (n:Nat):Ne:=(List.range n).map Int.ofNat
theorem LS (n:Nat):BJ (n+1)=BJ n++[(n:Int)]:=by
 unfold BJ;rw [List.range_succ,List.map_append]; rfl
def PV (f:AN) (k:Int):Bool:=(decide (AB f.partial_.Nodes f.nodes.length<0)||decide (AB f.partial_.Nodes f.nodes.length=k))&&AB (AB f.is (AB f.p.Nodes f.nodes.length)) (AB f.g.Nodes k)&&!(f.injective&&f.nodes.any fun x=>decide (k=x))
def PU (f:AN) (k:Int):Bool:=K4 f f.edges.length k&&!(f.injective&&f.edges.any fun x=>decide (k=x))
def FB:Nat->AN->List Morphism
 | 0,f=>[⟨f.nodes,f.edges⟩]
 | n+1,f=>(BJ f.g.Edges.length).flatMap fun k=>if PU f k=true then FB n { f with edges:=f.edges++[k] } else []
def KK:Nat->AN->List Morphism
 | 0,f=>FB f.p.Edges.length f
 | n+1,f=>(BJ f.g.Nodes.length).flatMap fun k=>if (PV f k&&Nf { f with nodes:=f.nodes++[k] })=true then KK n { f with nodes:=f.nodes++[k] } else []
theorem VX (a b:List α) (m:Nat):((a.take m)++b).take m=(a++b).take m:=by
 by_cases h:a.length<=m
 ·rw [List.take_of_length_le h]
 ·rw [List.take_append_of_le_length (by simp; omega),List.take_append_of_le_length (by omega),List.take_take,Nat.min_self]
end Go.Sf.Sc
namespace Go.Sf.Sc
open Go Go.Sf
def Qg (f:AN) (o:List Morphism):AN:={ f with out:=o }
variable {f:AN}
theorem MT.out (h:MT f) (o:List Morphism):MT (Qg f o):=⟨h.pn,h.pe,h.ends,h.kinds,h.small⟩
theorem Oo:∀ (n:Nat) (f:AN) (o:List Morphism),FB n (Qg f o)=FB n f
 | 0,_,_=>rfl
 | n+1,f,o=>by
  rw [FB,FB];refine congrArg (fun F=>(BJ f.g.Edges.length).flatMap F) (funext fun k=>?_);have:=Oo n { f with edges:=f.edges++[k] } o;show (if PU f k=true then FB n (Qg { f with edges:=f.edges++[k] } o) else [])=_;rw [this]
theorem Vw:∀ (n:Nat) (f:AN) (o:List Morphism),KK n (Qg f o)=KK n f
 | 0,f,o=>Oo _ f o
 | n+1,f,o=>by
  rw [KK,KK];refine congrArg (fun F=>(BJ f.g.Nodes.length).flatMap F) (funext fun k=>?_);have:=Vw n { f with nodes:=f.nodes++[k] } o;show (if (PV f k&&Nf { f with nodes:=f.nodes++[k] })=true then KK n (Qg { f with nodes:=f.nodes++[k] } o) else [])=_;rw [this]
def BX (f:AN) (l:List Morphism):AN:=Qg f ((f.out++l).take f.most.toNat)
structure UP (f:AN):Prop where
 m0:0<=f.most
 m1:f.most<=10000
 out:(f.out.length:Int)<=f.most
theorem LB (h:UP f):BX f []=f:=by
 unfold BX;rw [List.append_nil,List.take_of_length_le (by have:=h.out; have:=h.m0; omega)]; rfl
theorem U5 (h:(f.out.length:Int)=f.most) (l:List Morphism):BX f l=f:=by
 unfold BX;rw [List.take_append_of_le_length (by omega),List.take_of_length_le (by omega)]; rfl
theorem U7 (h:UP f) (l:List Morphism):UP (BX f l):=by
 refine ⟨h.m0,h.m1,?_⟩;have:=h.m0;show (((f.out++l).take f.most.toNat).length:Int)<=f.most;rw [d5]; omega
theorem U6 (f:AN) (a b:List Morphism):BX (BX f a) b=BX f (a++b):=by
 show Qg f ((((f.out++a).take f.most.toNat)++b).take f.most.toNat)=_;rw [VX,ea]; rfl
theorem Tg:∀ (n:Nat) (f:AN),MT f->UP f->f.nodes.length=f.p.Nodes.length->f.edges.length+n=f.p.Edges.length->∀ m,n+1<=m->BF m f=some (BX f (FB n f))
 | n,f,h,v,O,z,m,B=>by
  obtain ⟨m,rfl⟩:∃ k,m=k+1:=⟨m - 1,by omega⟩;have P:=h.small;have Q:=v.m0;have R:=v.m1;have S:=v.out;rw [BF];by_cases e:(f.out.length:Int)=f.most
  ·rw [d1 (by simpa using e),U5 e]; rfl
  rw [d2 (by simpa using e),d2 (by simp; omega)]
  match n,z,B with
  | 0,z,B=>
   rw [d2 (by simp; omega)];unfold slices_Clone_int;rw [E5 (by unfold BM; omega),bs,E5 (by unfold BM; omega),bs,B7 (by simp; unfold BM; omega),bs,bs];unfold BX;rw [List.take_of_length_le (by simp [FB]; omega)]; rfl
  | n+1,z,B=>
   rw [d1 (by simp; omega)];have F:∀ k,PU f k=true->MT { f with edges:=f.edges++[k] }:=fun k _=>⟨h.pn,h.pe,h.ends,h.kinds,h.small⟩;rw [EF (a:=0) (s:=f) (fun i=>BX f ((BJ i.toNat).flatMap fun k=>if PU f k=true then FB n { f with edges:=f.edges++[k] } else [])) (by omega) (LB v)]
   ·rw [bs,bs,Int.toNat_natCast,FB]
   ·intro i E G;have H:BJ (i+1).toNat=BJ i.toNat++[i]:=by
     rw [show (i+1).toNat=i.toNat+1 by omega,LS];rw [show ((i.toNat:Nat):Int)=i by omega]
    have I:∀ l,BX f ((BJ (i+1).toNat).flatMap l)=BX (BX f ((BJ i.toNat).flatMap l)) (l i):=by
     intro l;rw [U6,H,List.flatMap_append]; simp
    rw [I];generalize (BJ i.toNat).flatMap (fun k=>if PU f k=true then FB n { f with edges:=f.edges++[k] } else [])=L;have q:=U7 v L;have w:MT (BX f L):=h.out _;have C:=h.ends _ (AP (l:=f.p.Edges) (i:=(f.edges.length:Int)) (by omega) (by omega));rw [af w (i:=(f.edges.length:Int)) (k:=i) (by omega) (by show _<(f.p.Edges.length:Int); omega) E (by exact G) (by show (AB f.p.Edges f.edges.length).From<(f.nodes.length:Int); omega) (by show (AB f.p.Edges f.edges.length).To<(f.nodes.length:Int); omega),bs];have J:slices_Contains_int (BX f L).edges i=some (f.edges.any fun x=>decide (i=x)):=TZ f.edges i;rw [J];have r:K4 (BX f L) f.edges.length i=K4 f f.edges.length i:=rfl;have key:((B0 (BX f L).edges [i]).bind fun j=>
      (BF m (AN.mk (BX f L).p (BX f L).g (BX f L).is (BX f L).partial_ (BX f L).injective (BX f L).most (BX f L).nodes j (BX f L).out)).bind fun d=>
      (slc d.edges 0 (f.edges.length:Int)).bind fun o=>
      some (AN.mk d.p d.g d.is d.partial_ d.injective d.most d.nodes o d.out))=some (BX (BX f L) (FB n { f with edges:=f.edges++[i] })):=by
     have K:B0 (BX f L).edges [i]=some (f.edges++[i]):=B7 (by show f.edges.length+1<=BM; unfold BM; omega);have D:=Tg n { BX f L with edges:=f.edges++[i] } ⟨h.pn,h.pe,h.ends,h.kinds,h.small⟩ ⟨q.m0,q.m1,q.out⟩ O (by show (f.edges++[i]).length+n=f.p.Edges.length; simp; omega) m (by omega);have M:FB n { BX f L with edges:=f.edges++[i] }=FB n { f with edges:=f.edges++[i] }:=Oo n { f with edges:=f.edges++[i] } _;rw [M] at D;rw [K,bs];show (BF m { BX f L with edges:=f.edges++[i] }).bind _=_;rw [D,bs];have N:slc (BX { BX f L with edges:=f.edges++[i] } (FB n { f with edges:=f.edges++[i] })).edges 0 (f.edges.length:Int)=some f.edges:=by
      show slc (f.edges++[i]) 0 (f.edges.length:Int)=_;rw [MS (by omega) (by rw [d4]; omega),Int.toNat_natCast,List.take_left]
     rw [N]; rfl
    rw [key,r];have y:PU f i=(K4 f f.edges.length i&&!(f.injective&&f.edges.any fun x=>decide (i=x))):=rfl;have u:(BX f L).injective=f.injective:=rfl;rw [y,u];generalize T:FB n { f with edges:=f.edges++[i] }=A;cases K4 f f.edges.length i
    ·simp only [Bool.false_and,Bool.false_eq_true,if_false,LB q]; rfl
    ·cases f.injective
     ·rfl
     ·cases f.edges.any fun x=>decide (i=x)
      ·rfl
      ·simp only [Bool.and_self,Bool.not_true,Bool.and_false,Bool.false_eq_true,if_false,LB q]; rfl
end Go.Sf.Sc
namespace Go.Sf.Sc
open Go Go.Sf
theorem Th:∀ (n:Nat) (f:AN),MT f->UP f->f.edges=[]->f.nodes.length+n=f.p.Nodes.length->∀ m,n+f.p.Edges.length+1<=m->BF m f=some (BX f (KK n f))
 | 0,f,h,v,C,T,m,U=>by
  rw [KK];exact Tg _ f h v (by omega) (by rw [C]; simp) m (by omega)
 | n+1,f,h,v,C,T,m,U=>by
  obtain ⟨m,rfl⟩:∃ k,m=k+1:=⟨m - 1,by omega⟩;have V:=h.small;have W:=v.m0;have X:=v.m1;have Y:=v.out;rw [BF];by_cases e:(f.out.length:Int)=f.most
  ·rw [d1 (by simpa using e),U5 e]; rfl
  rw [d2 (by simpa using e),d1 (by simp; omega)];rw [EF (a:=0) (s:=f) (fun i=>BX f ((BJ i.toNat).flatMap fun k=>if (PV f k&&Nf { f with nodes:=f.nodes++[k] })=true then KK n { f with nodes:=f.nodes++[k] } else [])) (by omega) (LB v)]
  ·rw [bs,bs,Int.toNat_natCast,KK]
  ·intro i D E;have H:BJ (i+1).toNat=BJ i.toNat++[i]:=by
    rw [show (i+1).toNat=i.toNat+1 by omega,LS];rw [show ((i.toNat:Nat):Int)=i by omega]
   have I:∀ l,BX f ((BJ (i+1).toNat).flatMap l)=BX (BX f ((BJ i.toNat).flatMap l)) (l i):=by
    intro l;rw [U6,H,List.flatMap_append]; simp
   rw [I];generalize (BJ i.toNat).flatMap (fun k=>if (PV f k&&Nf { f with nodes:=f.nodes++[k] })=true then KK n { f with nodes:=f.nodes++[k] } else [])=L;have q:=U7 v L;have r:(f.nodes.length:Int)<(f.p.Nodes.length:Int):=by omega
   have u:=h.kinds _ (AP (l:=f.p.Nodes) (i:=(f.nodes.length:Int)) (by omega) r);have y:=u.2.2 _ (AP D E);have key:((B0 (BX f L).nodes [i]).bind fun j=>
     (C9 (AN.mk (BX f L).p (BX f L).g (BX f L).is (BX f L).partial_ (BX f L).injective (BX f L).most j (BX f L).edges (BX f L).out)).bind fun w=>
     if w=true then
     (BF m (AN.mk (BX f L).p (BX f L).g (BX f L).is (BX f L).partial_ (BX f L).injective (BX f L).most j (BX f L).edges (BX f L).out)).bind fun d=>
     (slc d.nodes 0 (f.nodes.length:Int)).bind fun o=>
     some (AN.mk d.p d.g d.is d.partial_ d.injective d.most o d.edges d.out)
     else
     (slc j 0 (f.nodes.length:Int)).bind fun o=>
     some (AN.mk (BX f L).p (BX f L).g (BX f L).is (BX f L).partial_ (BX f L).injective (BX f L).most o (BX f L).edges (BX f L).out))=some (BX (BX f L) (if Nf { f with nodes:=f.nodes++[i] }=true then KK n { f with nodes:=f.nodes++[i] } else [])):=by
    have J:B0 (BX f L).nodes [i]=some (f.nodes++[i]):=B7 (by show f.nodes.length+1<=BM; unfold BM; omega);have F:slc (f.nodes++[i]) 0 (f.nodes.length:Int)=some f.nodes:=by
     rw [MS (by omega) (by rw [d4]; omega),Int.toNat_natCast,List.take_left]
    have K:C9 { BX f L with nodes:=f.nodes++[i] }=some (Nf { f with nodes:=f.nodes++[i] }):=ZO (f:={ BX f L with nodes:=f.nodes++[i] }) ⟨h.pn,h.pe,h.ends,h.kinds,h.small⟩ (by show 0<(f.nodes++[i]).length; simp) (by show (f.nodes++[i]).length<=1000; rw [d4]; simp; omega);have G:=Th n { BX f L with nodes:=f.nodes++[i] } ⟨h.pn,h.pe,h.ends,h.kinds,h.small⟩ ⟨q.m0,q.m1,q.out⟩ C (by show (f.nodes++[i]).length+n=f.p.Nodes.length; rw [d4]; simp; omega) m (by show n+f.p.Edges.length+1<=m; omega);have M:KK n { BX f L with nodes:=f.nodes++[i] }=KK n { f with nodes:=f.nodes++[i] }:=Vw n { f with nodes:=f.nodes++[i] } _;rw [M] at G;rw [J,bs];show (C9 { BX f L with nodes:=f.nodes++[i] }).bind _=_;rw [K,bs];cases Nf { f with nodes:=f.nodes++[i] }
    ·rw [d2 (by decide),d2 (by decide),F,LB q]; rfl
    ·rw [d1 rfl,d1 rfl];show (BF m { BX f L with nodes:=f.nodes++[i] }).bind _=_;rw [G,bs];have N:slc (BX { BX f L with nodes:=f.nodes++[i] } (KK n { f with nodes:=f.nodes++[i] })).nodes 0 (f.nodes.length:Int)=some f.nodes:=F;rw [N]; rfl
   have O:I5 (BX f L).partial_.Nodes (f.nodes.length:Int)=some (AB f.partial_.Nodes f.nodes.length):=WS (by omega) (by show (f.nodes.length:Int)<(f.partial_.Nodes.length:Int); rw [h.pn]; exact r);have P:AM (BX f L).p.Nodes (f.nodes.length:Int)=some (AB f.p.Nodes f.nodes.length):=AI (by omega) r;have hi:AM (BX f L).is (AB f.p.Nodes f.nodes.length)=some (AB f.is (AB f.p.Nodes f.nodes.length)):=AI u.1 u.2.1;have Q:AM (AB f.is (AB f.p.Nodes f.nodes.length)) (AB f.g.Nodes i)=some (AB (AB f.is (AB f.p.Nodes f.nodes.length)) (AB f.g.Nodes i)):=AI y.1 y.2;have R:slices_Contains_int (BX f L).nodes i=some (f.nodes.any fun x=>decide (i=x)):=TZ f.nodes i;have z:(BX f L).injective=f.injective:=rfl;have B:PV f i=((decide (AB f.partial_.Nodes f.nodes.length<0)||decide (AB f.partial_.Nodes f.nodes.length=i))&&AB (AB f.is (AB f.p.Nodes f.nodes.length)) (AB f.g.Nodes i)&&!(f.injective&&f.nodes.any fun x=>decide (i=x))):=rfl;rw [AI D E,bs,O,bs,P,bs,hi,bs,Q,bs,R,key,z,B];generalize AB (AB f.is (AB f.p.Nodes f.nodes.length)) (AB f.g.Nodes i)=c2;have S:(decide (0<=AB f.partial_.Nodes f.nodes.length)&&!decide (AB f.partial_.Nodes f.nodes.length=i))=!(decide (AB f.partial_.Nodes f.nodes.length<0)||decide (AB f.partial_.Nodes f.nodes.length=i)):=by
    rw [Bool.not_or];congr 1;rw [←decide_not];exact decide_eq_decide.2 (by omega)
   rw [S];generalize (decide (AB f.partial_.Nodes f.nodes.length<0)||decide (AB f.partial_.Nodes f.nodes.length=i))=c1;generalize Nf { f with nodes:=f.nodes++[i] }=c5;generalize KK n { f with nodes:=f.nodes++[i] }=A;cases c1
   ·simp only [Bool.false_and,Bool.false_eq_true,if_false,LB q]; rfl
   ·cases c2
    ·simp only [Bool.and_false,Bool.false_and,Bool.false_eq_true,if_false,LB q]; rfl
    ·cases f.injective
     ·rfl
     ·cases f.nodes.any fun x=>decide (i=x)
      ·rfl
      ·simp only [Bool.and_self,Bool.not_true,Bool.and_false,Bool.false_and,Bool.false_eq_true,if_false,LB q]; rfl
variable {f:AN}
theorem jJ (d:MT f) (e:UP f) (h:f.edges=[]) (j:f.nodes=[]):G1 f=some (BX f (KK f.p.Nodes.length f)):=
 E9 (f.p.Nodes.length+f.p.Edges.length+1) fun m o=>Th _ f d e h (by rw [j]; simp) m o
end Go.Sf.Sc
namespace Go.Sf.Sc
open Go Go.Sf
theorem DN (n:Nat):(BJ n).length=n:=by simp [BJ]
variable {n:Nat} {i:Int}
theorem Hu:i∈BJ n↔0<=i∧i<n:=by
 unfold BJ;rw [List.mem_map];constructor
 ·rintro ⟨k,d,rfl⟩;have:=List.mem_range.1 d;exact ⟨Int.natCast_nonneg k,Int.ofNat_lt.2 this⟩
 ·rintro ⟨e,h⟩;exact ⟨i.toNat,List.mem_range.2 (by omega),by show ((i.toNat:Nat):Int)=i; omega⟩
variable {α:Type}
theorem Mg [Inhabited α] (F:Int->α) (d:0<=i) (e:i<n):AB ((BJ n).map F) i=F i:=by
 unfold AB BJ;rw [List.map_map,List.getD_eq_getElem?_getD,List.getElem?_map,List.getElem?_range (by omega)];show F (Int.ofNat i.toNat)=F i;congr 1;show ((i.toNat:Nat):Int)=i;omega
theorem Jc (d:0<=i):BJ (i+1).toNat=BJ i.toNat++[i]:=by
 rw [show (i+1).toNat=i.toNat+1 by omega,LS,show ((i.toNat:Nat):Int)=i by omega]
def Kz (t:AC) (a:Int):d0:=(BJ t.Nodes.length).map fun k=>JC t k a
def KE (t:AC):List d0:=(BJ t.Nodes.length).map (Kz t)
variable {t:AC} {a:Int}
theorem fj (e:BY t) (h:IP t) (hv:(BE t).2=0) (j:0<=a) (m:a<t.Nodes.length):Ip t a=some ((BJ t.Nodes.length).filter fun i=>JC t i a,0):=by
 have r:=h.nodes;unfold Ip;have q:JB t a=true:=by simp [JB,j,m]
 rw [Uc e,bs,d2 (by simp [hv,q])];rw [EF (fun i=>(BJ i.toNat).filter fun i=>JC t i a) (by omega) (by rfl),bs,Int.toNat_natCast];intro i d o;rw [cn h d o,bs,Jc d,List.filter_append];have u:((BJ i.toNat).filter fun i=>JC t i a).length<=i.toNat:=by
  have:=List.length_filter_le (fun i=>JC t i a) (BJ i.toNat)
  rwa [DN] at this
 by_cases hi:JC t i a=true
 ·rw [d1 hi,B7 (by simp; unfold BM; omega),bs];simp [hi]
 ·rw [d2 hi];simp [hi]
variable {l:Ne}
theorem gi (r:∀ x∈l,0<=x∧x<n):forA (fun (u:Int) (s2:d0)=>
  (AM l u).bind fun d=>
  (AM s2 d).bind fun _=>
  some (B1 s2 d true)) 0 (l.length:Int) (List.replicate n false)=some ((BJ n).map fun k=>l.any fun x=>decide (x=k)):=by
 rw [EF (fun j=>(BJ n).map fun k=>(l.take j.toNat).any fun x=>decide (x=k)) (by omega) (by
  refine List.ext_getElem (by simp [DN]) (fun j m y=>by simp))]
 ·rw [Int.toNat_natCast,List.take_length]
 ·intro j o m;have q:=r _ (AP o m);rw [AI o m,bs,AI q.1 (by rw [d7,DN]; exact q.2),bs,Hs o m];congr 1;unfold B1;refine List.ext_getElem (by simp) (fun k z v=>?_);have w:k<n:=by simpa [DN] using v
  rw [List.getElem_set];have e:(BJ n)[k]'(by rw [DN]; exact w)=(k:Int):=by simp [BJ]
  simp only [List.getElem_map,e,List.any_append,List.any_cons,List.any_nil,Bool.or_false];by_cases h:(AB l j).toNat=k
  ·rw [d1 h,decide_eq_true (show AB l j=(k:Int) by omega),Bool.or_true]
  ·rw [d2 h,decide_eq_false (show ¬ AB l j=(k:Int) by omega),Bool.or_false]
theorem eH (q:BY t) (h:IP t) (hv:(BE t).2=0):Hp t=some (KE t):=by
 have y:=h.nodes;unfold Hp;rw [EF (fun i=>(BJ i.toNat).map (Kz t)) (by omega) (by rfl),bs,Int.toNat_natCast]
 ·rfl
 ·intro i o u;have w:Jn (t.Nodes.length:Int) false=some (List.replicate t.Nodes.length false):=by
   unfold Jn;rw [d1 (by omega),Int.toNat_natCast]
  rw [w,bs,fj q h hv o u,bs];have:=gi (n:=t.Nodes.length) (l:=(BJ t.Nodes.length).filter fun k=>JC t k i) (fun x j=>Hu.1 (List.mem_filter.1 j).1);show (forA (fun (r:Int) (s2:d0)=>
   (AM ((BJ t.Nodes.length).filter fun k=>JC t k i) r).bind fun d=>
   (AM s2 d).bind fun _=>
   some (B1 s2 d true)) 0 (((BJ t.Nodes.length).filter fun k=>JC t k i).length:Int) (List.replicate t.Nodes.length false)).bind _=_
  rw [this,bs,B7 (by rw [d7,DN]; simp; unfold BM; omega),bs,Jc o,List.map_append];congr 2;simp only [List.map_cons,List.map_nil];congr 1;unfold Kz;refine List.map_congr_left (fun k m=>?_);have m:=Hu.1 m;rw [Bool.eq_iff_iff,List.any_eq_true];constructor
  ·rintro ⟨x,j,e⟩;rw [zzX] at e;subst e;exact (List.mem_filter.1 j).2
  ·intro v;exact ⟨k,List.mem_filter.2 ⟨Hu.2 m,v⟩,by simp⟩
end Go.Sf.Sc
namespace Go.Sf.Sc
open Go Go.Sf
def HO:Nat->AN->List Morphism
 | 0,f=>FB f.p.Edges.length f
 | n+1,f=>(BJ f.g.Nodes.length).flatMap fun k=>if PV f k=true then HO n { f with nodes:=f.nodes++[k] } else []
def Yr (f:AN) (i:Int):Prop:=0<=i∧i<f.p.Edges.length∧0<=(AB f.p.Edges i).From∧(AB f.p.Edges i).From<f.nodes.length∧0<=(AB f.p.Edges i).To∧(AB f.p.Edges i).To<f.nodes.length∧∀ k:Int,0<=k->k<f.g.Edges.length->K4 f i k=false
theorem Qr (f:AN) (i k:Int):K4 f i k=((decide (AB f.partial_.Edges i<0)||decide (AB f.partial_.Edges i=k))&&decide (AB f.g.Edges k=⟨(AB f.p.Edges i).Type',AB f.nodes (AB f.p.Edges i).From,AB f.nodes (AB f.p.Edges i).To⟩)):=rfl
variable {α:Type} {i:Int}
theorem RJ [Inhabited α] (l:List α) (x:α) (d:0<=i) (e:i<l.length):AB (l++[x]) i=AB l i:=by
 unfold AB;rw [List.getD_eq_getElem?_getD,List.getD_eq_getElem?_getD,List.getElem?_append_left (by omega)]
theorem aE:∀ (n:Nat) (f:AN) (i:Int),Yr f i->(f.edges.length:Int)<=i->i<f.edges.length+n->FB n f=[]
 | 0,f,i,_,j,m=>by omega
 | n+1,f,i,e,j,m=>by
  rw [FB];refine List.flatMap_eq_nil_iff.2 (fun k d=>?_);have d:=Hu.1 d;by_cases h:(f.edges.length:Int)=i
  ·have:PU f k=false:=by
    unfold PU;rw [h,e.2.2.2.2.2.2 k d.1 d.2]; rfl
   rw [d2 (by rw [this]; decide)]
  ·split
   ·exact aE n { f with edges:=f.edges++[k] } i e (by show ((f.edges++[k]).length:Int)<=i; rw [d4]; simp; omega) (by show i<((f.edges++[k]).length:Int)+n; rw [d4]; simp; omega)
   ·rfl
theorem V8:∀ (n:Nat) (f:AN) (i:Int),f.edges=[]->Yr f i->HO n f=[]
 | 0,f,i,e,d=>by
  rw [HO];exact aE _ f i d (by rw [e]; simpa using d.1) (by rw [e]; simpa using d.2.1)
 | n+1,f,i,e,d=>by
  rw [HO];refine List.flatMap_eq_nil_iff.2 (fun k y=>?_);split
  ·refine V8 n { f with nodes:=f.nodes++[k] } i e ?_;obtain ⟨r,u,h,v,m,w,x⟩:=d;have z:((f.nodes++[k]).length:Int)=f.nodes.length+1:=by rw [d4]; simp
   refine ⟨r,u,h,?_,m,?_,fun j o q=>?_⟩
   ·show (AB f.p.Edges i).From<((f.nodes++[k]).length:Int); omega
   ·show (AB f.p.Edges i).To<((f.nodes++[k]).length:Int); omega
   ·have:=x j o q;rw [Qr] at this ⊢;show ((decide (AB f.partial_.Edges i<0)||decide (AB f.partial_.Edges i=j))&&decide (AB f.g.Edges j=⟨(AB f.p.Edges i).Type',AB (f.nodes++[k]) (AB f.p.Edges i).From,AB (f.nodes++[k]) (AB f.p.Edges i).To⟩))=false;rw [RJ _ _ h v,RJ _ _ m w];exact this
  ·rfl
variable {f:AN}
theorem co (m:MT f) (h:Nf f=false):∃ i,Yr f i:=by
 unfold Nf at h;rw [Bool.not_eq_false',IW] at h;obtain ⟨i,e,j,h⟩:=h;rw [zzZ,zzX,Bool.not_eq_true',ET] at h;have d:=m.ends _ (AP e j);exact ⟨i,e,j,d.1,by omega,d.2.2.1,by omega,h.2⟩
theorem Z7:∀ (n:Nat) (f:AN),MT f->f.edges=[]->KK n f=HO n f
 | 0,_,_,_=>rfl
 | n+1,f,e,h=>by
  rw [KK,HO];refine congrArg (fun F=>(BJ f.g.Nodes.length).flatMap F) (funext fun k=>?_);have d:MT { f with nodes:=f.nodes++[k] }:=⟨e.pn,e.pe,e.ends,e.kinds,e.small⟩;cases PV f k
  ·rfl
  ·cases j:Nf { f with nodes:=f.nodes++[k] }
   ·obtain ⟨i,m⟩:=co d j;rw [V8 n { f with nodes:=f.nodes++[k] } i h m]; rfl
   ·simp only [Bool.and_self,if_true];exact Z7 n _ d h
end Go.Sf.Sc
namespace Go.Sf.Sc
open Go Go.Sf
variable {a b:Int}
theorem UN {σ ρ:Type} {f:σ × Int->Option (CZ (σ × Int) ρ)} (g:Int->σ) {s:σ} (d:a<=b) (e:s=g a) (h:∀ i,a<=i->i<b->f (g i,i)=some (.next (g (i+1),i+1))) (j:f (g b,b)=some (.brk (g b,b))):I7 f (s,a)=some (.inl (g b,b)):=by
 subst e;have key:∀ (n:Nat) (i:Int),a<=i->i+n=b->Mj f (g i,i) (.inl (g b,b)):=by
  intro n
  induction n with
  | zero=>
   intro i _ hi;have:i=b:=by omega
   subst this;exact .brk j
  | succ n o=>
   intro i m q;exact .next (h i m (by omega)) (o (i+1) (by omega) (by omega))
 exact (key (b - a).toNat a (Int.le_refl _) (by omega)).eq
def JG (s:AW) (nodes edges:Ne):AN:=⟨s.p,s.g,KE s.t,s.partial_,s.injective,s.most+1,nodes,edges,s.found⟩
def DI (s:AW) (l:List Morphism):AW:={ s with found:=(s.found++l).take (s.most+1).toNat }
structure TP (s:AW):Prop where
 m0:0<=s.most
 m1:s.most<=9999
 out:(s.found.length:Int)<=s.most+1
variable {s:AW}
theorem N9 (h:TP s):DI s []=s:=by
 unfold DI;rw [List.append_nil,List.take_of_length_le (by have:=h.out; have:=h.m0; omega)]
theorem UG (h:(s.found.length:Int)=s.most+1) (l:List Morphism):DI s l=s:=by
 unfold DI;rw [List.take_append_of_le_length (by omega),List.take_of_length_le (by omega)]
theorem UH (h:TP s) (l:List Morphism):TP (DI s l):=by
 refine ⟨h.m0,h.m1,?_⟩;have:=h.m0;show (((s.found++l).take (s.most+1).toNat).length:Int)<=s.most+1;rw [d5]; omega
theorem Su (s:AW) (a b:List Morphism):DI (DI s a) b=DI s (a++b):=by
 show ({ s with found:=(((s.found++a).take (s.most+1).toNat)++b).take (s.most+1).toNat }:AW)=_;rw [VX,ea]; rfl
variable {l:Ne}
theorem ax (s:AW) (q:l.length<=1000) (n:Int):EB s l n=some (s.injective&&l.any fun x=>decide (n=x)):=by
 unfold EB;cases s.injective
 ·rw [Sd (fun _=>false) true (a:=0) (b:=0) (Int.le_refl _) (fun i d j=>by omega) (by rw [d2 (by simp)])];rfl
 ·rw [Sd (fun i=>decide (AB l i=n)) true (a:=0) (b:=l.length) (by omega) (fun i d j=>by
   rw [d1 (by simp; exact j),AI d j,bs,BI (by omega) (by omega),J3]) (by rw [d2 (by simp)])]
  have e:anyR (fun i=>decide (AB l i=n)) 0 l.length=l.any fun x=>decide (n=x):=by
   rw [Bool.eq_iff_iff,IW,List.any_eq_true];constructor
   ·rintro ⟨i,m,d,h⟩;exact ⟨_,AP m d,by simpa [eq_comm] using h⟩
   ·rintro ⟨x,o,h⟩;obtain ⟨i,m,d,rfl⟩:=ED o;exact ⟨i,m,d,by simpa [eq_comm] using h⟩
  rw [e,Bool.true_and];cases l.any fun x=>decide (n=x) <;> rfl
theorem VQ:∀ (n:Nat) (s:AW) (nodes l:Ne),MT (JG s [] [])->TP s->nodes.length=s.p.Nodes.length->l.length+n=s.p.Edges.length->∀ m,n+1<=m->DD m s nodes l=some (DI s (FB n (JG s nodes l)))
 | n,s,nodes,l,e,v,B,C,m,D=>by
  obtain ⟨m,rfl⟩:∃ k,m=k+1:=⟨m - 1,by omega⟩;have w:=e.small;have T:s.p.Nodes.length<=1000:=w.1;have s2:s.p.Edges.length<=1000:=w.2.1;have U:s.g.Nodes.length<=1000:=w.2.2.1;have V:s.g.Edges.length<=1000:=w.2.2.2;have W:=v.m0;have X:=v.m1;have Y:=v.out;rw [DD];by_cases h:(s.found.length:Int)=s.most+1
  ·rw [d1 (by simp; omega),UG h]
  rw [d2 (by simp; omega)]
  match n,C,D with
  | 0,C,D=>
   rw [d1 (by simp; omega),E5 (by unfold BM; omega),bs,E5 (by unfold BM; omega),bs,B7 (by simp; unfold BM; omega),bs];unfold DI;rw [List.take_of_length_le (by simp [FB]; omega)]; rfl
  | n+1,C,D=>
   have j:(0:Int)<=l.length:=by omega
   have u:(l.length:Int)<s.p.Edges.length:=by omega
   have d:=e.ends _ (AP (l:=s.p.Edges) j u);have J:(AB s.p.Edges l.length).From<nodes.length:=by rw [B]; exact d.2.1
   have K:(AB s.p.Edges l.length).To<nodes.length:=by rw [B]; exact d.2.2.2
   have y:(l.length:Int)<s.partial_.Edges.length:=by
    have:s.partial_.Edges.length=s.p.Edges.length:=e.pe;omega
   rw [d2 (by simp; omega),AI j u,bs];rw [UN (fun i=>DI s ((BJ i.toNat).flatMap fun k=>if PU (JG s nodes l) k=true then FB n (JG s nodes (l++[k])) else [])) (a:=0) (b:=(s.g.Edges.length:Int)) (s:=s) (by omega) (N9 v).symm (fun i E G=>by
    have M:∀ F,DI s ((BJ (i+1).toNat).flatMap F)=DI (DI s ((BJ i.toNat).flatMap F)) (F i):=by
     intro F;rw [Su,Jc E,List.flatMap_append]; simp
    rw [M];generalize (BJ i.toNat).flatMap (fun k=>if PU (JG s nodes l) k=true then FB n (JG s nodes (l++[k])) else [])=L;have H:=UH v L;rw [d1 (by rw [zzX]; exact G)];have N:AM (DI s L).g.Edges i=some (AB s.g.Edges i):=AI E G;have O:AM (DI s L).partial_.Edges (l.length:Int)=some (AB s.partial_.Edges l.length):=AI j y;have P:EB (DI s L) l i=some (s.injective&&l.any fun x=>decide (i=x)):=ax (DI s L) (by omega) i;have key:((B0 [] l).bind fun o=>
      (B0 o [i]).bind fun q=>
      (DD m (DI s L) nodes q).bind fun r=>
      some (.next (r,A4 (i+1)):CZ (AW × Int) AW))=some (.next (DI (DI s L) (FB n (JG s nodes (l++[i]))),i+1)):=by
     have I:=VQ n (DI s L) nodes (l++[i]) ⟨e.pn,e.pe,e.ends,e.kinds,e.small⟩ H B (by show (l++[i]).length+n=s.p.Edges.length; rw [d4]; simp; omega) m (by omega);have Q:FB n (JG (DI s L) nodes (l++[i]))=FB n (JG s nodes (l++[i])):=Oo n (JG s nodes (l++[i])) _;rw [Q] at I;rw [E5 (by unfold BM; omega),bs,B7 (by simp; unfold BM; omega),bs,I,bs,BI (by omega) (by omega)]
    rw [N,bs,O,bs,P,key];simp only [bs];rw [AI d.1 J,AI d.2.2.1 K,BI (n:=i+1) (by omega) (by omega)];simp only [bs];have z:PU (JG s nodes l) i=(((decide (AB s.partial_.Edges l.length<0)||decide (AB s.partial_.Edges l.length=i))&&decide (AB s.g.Edges i=⟨(AB s.p.Edges l.length).Type',AB nodes (AB s.p.Edges l.length).From,AB nodes (AB s.p.Edges l.length).To⟩))&&!(s.injective&&l.any fun x=>decide (i=x))):=rfl;have R:decide (AB s.g.Edges i=⟨(AB s.p.Edges l.length).Type',AB nodes (AB s.p.Edges l.length).From,AB nodes (AB s.p.Edges l.length).To⟩)=(decide ((AB s.p.Edges l.length).Type'=(AB s.g.Edges i).Type')&&decide ((AB s.g.Edges i).From=AB nodes (AB s.p.Edges l.length).From)&&decide ((AB s.g.Edges i).To=AB nodes (AB s.p.Edges l.length).To)):=by
     rw [Bool.eq_iff_iff];simp only [zzZ,zzX];generalize AB s.g.Edges i=x;obtain ⟨Z,x2,x3⟩:=x;simp only [DY.mk.injEq];constructor
     ·rintro ⟨a,b,c⟩; exact ⟨⟨a.symm,b⟩,c⟩
     ·rintro ⟨⟨a,b⟩,c⟩; exact ⟨a.symm,b,c⟩
    have S:(decide (AB s.partial_.Edges l.length<0)||decide (AB s.partial_.Edges l.length=i))=!(decide (0<=AB s.partial_.Edges l.length)&&!decide (AB s.partial_.Edges l.length=i)):=by
     rw [Bool.not_and,Bool.not_not];congr 1;rw [←decide_not];exact decide_eq_decide.2 (by omega)
    rw [z,R,S];generalize FB n (JG s nodes (l++[i]))=A;generalize decide (0<=AB s.partial_.Edges l.length)=c1;generalize decide (AB s.partial_.Edges l.length=i)=c2;generalize decide ((AB s.p.Edges l.length).Type'=(AB s.g.Edges i).Type')=c3;generalize decide ((AB s.g.Edges i).From=AB nodes (AB s.p.Edges l.length).From)=c4;generalize decide ((AB s.g.Edges i).To=AB nodes (AB s.p.Edges l.length).To)=c5;generalize (s.injective&&l.any fun x=>decide (i=x))=c6;cases c1 <;> cases c2 <;> cases c3 <;> cases c4 <;> cases c5 <;> cases c6 <;> first | rfl | (simp only [Bool.and_self,Bool.and_true,Bool.true_and,Bool.and_false,Bool.false_and,Bool.not_true,Bool.not_false,Bool.or_true,Bool.or_false,Bool.false_or,Bool.true_or,if_true,Bool.false_eq_true,if_false,N9 H,bs]; try rfl)) (by rw [d2 (by simp [DI])]),DX,Int.toNat_natCast,FB]
   rfl
end Go.Sf.Sc
namespace Go.Sf.Sc
open Go Go.Sf
def Pb (s:AW) (l:Ne) (i k:Int):Bool:=decide (AB s.g.Edges k=⟨(AB s.p.Edges i).Type',AB l (AB s.p.Edges i).From,AB l (AB s.p.Edges i).To⟩)
def QF (s:AW) (l:Ne) (i:Int):Bool:=(decide ((AB s.p.Edges i).From<l.length)&&decide ((AB s.p.Edges i).To<l.length))&&!(BJ s.g.Edges.length).any (Pb s l i)
variable {s:AW} {l:Ne}
theorem jU (q:MT (JG s [] [])):HN s l=some (!anyR (QF s l) 0 s.p.Edges.length):=by
 unfold HN;rw [CR (QF s l) false]
 ·cases anyR (QF s l) 0 s.p.Edges.length <;> rfl
 ·intro i h j _;have o:=q.ends _ (AP (l:=s.p.Edges) h j);rw [AI h j,bs];unfold QF;by_cases d:(AB s.p.Edges i).From<l.length
  ·by_cases e:(AB s.p.Edges i).To<l.length
   ·rw [d2 (by simp; omega),EF (fun k=>(BJ k.toNat).any (Pb s l i)) (by omega) (by rfl),bs,Int.toNat_natCast,decide_eq_true d,decide_eq_true e]
    ·cases (BJ s.g.Edges.length).any (Pb s l i) <;> rfl
    ·intro k m r;rw [AI m r,bs,Jc m,List.any_append];have u:Pb s l i k=(decide ((AB s.p.Edges i).Type'=(AB s.g.Edges k).Type')&&decide ((AB s.g.Edges k).From=AB l (AB s.p.Edges i).From)&&decide ((AB s.g.Edges k).To=AB l (AB s.p.Edges i).To)):=by
      unfold Pb;rw [Bool.eq_iff_iff];simp only [zzZ,zzX];generalize AB s.g.Edges k=x;obtain ⟨v,w,y⟩:=x;simp only [DY.mk.injEq];constructor
      ·rintro ⟨a,b,c⟩; exact ⟨⟨a.symm,b⟩,c⟩
      ·rintro ⟨⟨a,b⟩,c⟩; exact ⟨a.symm,b,c⟩
     rw [AI o.1 d,AI o.2.2.1 e];simp only [List.any_cons,List.any_nil,Bool.or_false,bs];rw [u];generalize (BJ k.toNat).any (Pb s l i)=c1;generalize decide ((AB s.p.Edges i).Type'=(AB s.g.Edges k).Type')=c3;generalize decide ((AB s.g.Edges k).From=AB l (AB s.p.Edges i).From)=c4;generalize decide ((AB s.g.Edges k).To=AB l (AB s.p.Edges i).To)=c5;cases c1 <;> cases c3 <;> cases c4 <;> cases c5 <;> rfl
   ·rw [d1 (by simp; omega),decide_eq_false e]; simp
  ·rw [d1 (by simp; omega),decide_eq_false d]; simp
theorem jS (o:MT (JG s [] [])) (h:anyR (QF s l) 0 s.p.Edges.length=true):∃ i,Yr (JG s l []) i:=by
 rw [IW] at h;obtain ⟨i,j,m,h⟩:=h;unfold QF at h;rw [zzZ,zzZ,zzX,zzX,Bool.not_eq_true',List.any_eq_false] at h;have d:=o.ends _ (AP (l:=s.p.Edges) j m);refine ⟨i,j,m,d.1,h.1.1,d.2.2.1,h.1.2,fun k q r=>?_⟩;have:=h.2 k (Hu.2 ⟨q,r⟩);have e:Pb s l i k=false:=by rw [←Bool.not_eq_true]; exact this
 rw [Qr];show ((decide (AB s.partial_.Edges i<0)||decide (AB s.partial_.Edges i=k))&&Pb s l i k)=false;rw [e,Bool.and_false]
end Go.Sf.Sc
namespace Go.Sf.Sc
open Go Go.Sf
theorem Vx:∀ (n:Nat) (f:AN) (o:List Morphism),HO n (Qg f o)=HO n f
 | 0,f,o=>Oo _ f o
 | n+1,f,o=>by
  rw [HO,HO];refine congrArg (fun F=>(BJ f.g.Nodes.length).flatMap F) (funext fun k=>?_);have:=Vx n { f with nodes:=f.nodes++[k] } o;show (if PV f k=true then HO n (Qg { f with nodes:=f.nodes++[k] } o) else [])=_;rw [this]
theorem VR:∀ (n:Nat) (s:AW) (l:Ne),IP s.t->MT (JG s [] [])->TP s->l.length+n=s.p.Nodes.length->∀ m,n+1<=m->DE m s l=some (DI s (HO n (JG s l [])))
 | n,s,l,Q,d,v,M,m,C=>by
  obtain ⟨m,rfl⟩:∃ k,m=k+1:=⟨m - 1,by omega⟩;have N:=d.small;have s1:s.p.Nodes.length<=1000:=N.1;have s3:s.g.Nodes.length<=1000:=N.2.2.1;have h0:=v.m0;have h1:=v.m1;have h2:=v.out;rw [DE];by_cases q:(s.found.length:Int)=s.most+1
  ·rw [d1 (by simp; omega),UG q]; rfl
  rw [d2 (by simp; omega),jU d];cases R:anyR (QF s l) 0 s.p.Edges.length
  case true=>
   obtain ⟨i,hi⟩:=jS d R;rw [V8 n (JG s l []) i rfl hi,N9 v]; rfl
  simp only [bs,Bool.not_false,Bool.not_true,Bool.false_eq_true,if_false]
  match n,M,C with
  | 0,M,C=>
   rw [d1 (by simp; omega),Option.bind_fun_some,HO];exact E9 (s.p.Edges.length+1) fun m C=>VQ s.p.Edges.length s l [] d v (by omega) (by simp) m (by omega)
  | n+1,M,C=>
   have z:(l.length:Int)<s.p.Nodes.length:=by omega
   have r:(0:Int)<=l.length:=by omega
   have H:(l.length:Int)<s.partial_.Nodes.length:=by
    have:s.partial_.Nodes.length=s.p.Nodes.length:=d.pn;omega
   have S:(KE s.t).length=s.t.Nodes.length:=by unfold KE; rw [d7,DN]
   have j:=d.kinds _ (AP (l:=s.p.Nodes) r z);have I:AB s.p.Nodes l.length<s.t.Nodes.length:=by rw [←S]; exact j.2.1
   have o:AB (KE s.t) (AB s.p.Nodes l.length)=Kz s.t (AB s.p.Nodes l.length):=Mg (Kz s.t) j.1 I;rw [d2 (by simp; omega)];rw [UN (fun i=>DI s ((BJ i.toNat).flatMap fun k=>if PV (JG s l []) k=true then HO n (JG s (l++[k]) []) else [])) (a:=0) (b:=(s.g.Nodes.length:Int)) (s:=s) (by omega) (N9 v).symm (fun i D E=>by
    have T:∀ F,DI s ((BJ (i+1).toNat).flatMap F)=DI (DI s ((BJ i.toNat).flatMap F)) (F i):=by
     intro F;rw [Su,Jc D,List.flatMap_append]; simp
    rw [T];generalize (BJ i.toNat).flatMap (fun k=>if PV (JG s l []) k=true then HO n (JG s (l++[k]) []) else [])=L;have O:=UH v L;rw [d1 (by rw [zzX]; exact E)];have u:=j.2.2 _ (AP (l:=s.g.Nodes) D E);have B:AB s.g.Nodes i<s.t.Nodes.length:=by
     have h:=u.2;have e:AB (JG s [] []).is (AB s.p.Nodes l.length)=Kz s.t (AB s.p.Nodes l.length):=o;rw [e] at h;unfold Kz at h
     rwa [d7,DN] at h
    have J:II (DI s L).t (AB s.g.Nodes i) (AB s.p.Nodes l.length)=some (JC s.t (AB s.g.Nodes i) (AB s.p.Nodes l.length)):=Sa Q u.1 B j.1;have U:AM (DI s L).g.Nodes i=some (AB s.g.Nodes i):=AI D E;have V:AM (DI s L).partial_.Nodes (l.length:Int)=some (AB s.partial_.Nodes l.length):=AI r H;have W:EB (DI s L) l i=some (s.injective&&l.any fun x=>decide (i=x)):=ax (DI s L) (by omega) i;have X:AM (DI s L).p.Nodes (l.length:Int)=some (AB s.p.Nodes l.length):=AI r z;have key:((B0 [] l).bind fun G=>
      (B0 G [i]).bind fun w=>
      (DE m (DI s L) w).bind fun y=>
      some (.next (y,A4 (i+1)):CZ (AW × Int) AW))=some (.next (DI (DI s L) (HO n (JG s (l++[i]) [])),i+1)):=by
     have P:=VR n (DI s L) (l++[i]) Q ⟨d.pn,d.pe,d.ends,d.kinds,d.small⟩ O (by show (l++[i]).length+n=s.p.Nodes.length; rw [d4]; simp; omega) m (by omega);have Y:HO n (JG (DI s L) (l++[i]) [])=HO n (JG s (l++[i]) []):=Vx n (JG s (l++[i]) []) _;rw [Y] at P;rw [E5 (by unfold BM; omega),bs,B7 (by simp; unfold BM; omega),bs,P,bs,BI (by omega) (by omega)]
    rw [V,bs,W,U,X,key];simp only [bs];rw [J,BI (n:=i+1) (by omega) (by omega)];simp only [bs];have K:PV (JG s l []) i=((decide (AB s.partial_.Nodes l.length<0)||decide (AB s.partial_.Nodes l.length=i))&&AB (AB (KE s.t) (AB s.p.Nodes l.length)) (AB s.g.Nodes i)&&!(s.injective&&l.any fun x=>decide (i=x))):=rfl;have Z:AB (AB (KE s.t) (AB s.p.Nodes l.length)) (AB s.g.Nodes i)=JC s.t (AB s.g.Nodes i) (AB s.p.Nodes l.length):=by
     rw [o];exact Mg (fun k=>JC s.t k (AB s.p.Nodes l.length)) u.1 B
    have hP:(decide (AB s.partial_.Nodes l.length<0)||decide (AB s.partial_.Nodes l.length=i))=!(decide (0<=AB s.partial_.Nodes l.length)&&!decide (AB s.partial_.Nodes l.length=i)):=by
     rw [Bool.not_and,Bool.not_not];congr 1;rw [←decide_not];exact decide_eq_decide.2 (by omega)
    rw [K,Z,hP];generalize HO n (JG s (l++[i]) [])=A;generalize decide (0<=AB s.partial_.Nodes l.length)=c1;generalize decide (AB s.partial_.Nodes l.length=i)=c2;generalize JC s.t (AB s.g.Nodes i) (AB s.p.Nodes l.length)=c3;generalize (s.injective&&l.any fun x=>decide (i=x))=c6;cases c1 <;> cases c2 <;> cases c3 <;> cases c6 <;> first | rfl | (simp only [Bool.and_self,Bool.and_true,Bool.true_and,Bool.and_false,Bool.false_and,Bool.not_true,Bool.not_false,Bool.or_true,Bool.or_false,if_true,Bool.false_eq_true,if_false,N9 O,bs]; try rfl)) (by rw [d2 (by simp [DI])]),DX,Int.toNat_natCast,HO]
   rfl
end Go.Sf.Sc
namespace Go.Sf.Sc
open Go Go.Sf
def FF (t:AC) (p g:Graph) (pa:Morphism) (inj:Bool):AN:=⟨p,g,KE t,pa,inj,5001,[],[],[]⟩
def Lt (t:AC) (p g:Graph) (pa:Morphism) (inj:Bool):List Morphism:=(HO p.Nodes.length (FF t p g pa inj)).take 5001
variable {t:AC} {p g:Graph} {pa:Morphism}
theorem fo {inj:Bool} (j:BY t) (hv:(BE t).2=0) (d:MT (FF t p g pa inj)):IK t p g pa inj 5001=some (Lt t p g pa inj):=by
 unfold IK;rw [eH j (HC hv) hv,bs];have h:=jJ (f:=FF t p g pa inj) d ⟨by show (0:Int)<=5001; omega,by show (5001:Int)<=10000; omega,by show ((0:Nat):Int)<=5001; omega⟩ rfl rfl;rw [Z7 _ _ d rfl] at h;have e:AN.mk p g (KE t) pa inj 5001 [] [] []=FF t p g pa inj:=rfl;rw [e,h]; rfl
theorem qN {inj:Bool} (hv:(BE t).2=0) (d:MT (FF t p g pa inj)):N7 t p g pa inj 5000=some (Lt t p g pa inj):=by
 unfold N7;have h:Jv ⟨t,p,g,pa,inj,5000,[]⟩ []=some (DI ⟨t,p,g,pa,inj,5000,[]⟩ (HO p.Nodes.length (FF t p g pa inj))):=
  E9 (p.Nodes.length+1) fun m e=>VR p.Nodes.length ⟨t,p,g,pa,inj,5000,[]⟩ [] (HC hv) d ⟨by show (0:Int)<=5000; omega,by show (5000:Int)<=9999; omega,by show ((0:Nat):Int)<=5000+1; omega⟩ (by show 0+p.Nodes.length=p.Nodes.length; omega) m e
 rw [h]; rfl
end Go.Sf.Sc
namespace Go.Sf.Sc
open Go Go.Sf
def Oq (n k:Int):Bool:=decide (k < -1)||decide (n<=k)
def Np (l:Ne) (n:Int):Int:=if l.any (Oq n)=true then 6 else 0
theorem ac (l:Ne) (n:Int):IA l n=some (Np l n):=by
 unfold IA Np;rw [show (fun d=>MI d n)=(fun d=>some (Oq n d)) from rfl,V4 (p:=Oq n) (fun a _=>rfl),bs];cases l.any (Oq n) <;> rfl
variable {l:Ne}
theorem W4 {c:Int} (n:Int) (h:(l.length:Int)=c):J9 l c n=some (Np l n):=by
 unfold J9 Np;rw [d2 (by simp [h]),CR (fun i=>Oq n (AB l i)) 6]
 ·have e:anyR (fun i=>Oq n (AB l i)) 0 l.length=l.any (Oq n):=by
   rw [Bool.eq_iff_iff,IW,List.any_eq_true];constructor
   ·rintro ⟨i,d,j,h⟩;exact ⟨_,AP d j,h⟩
   ·rintro ⟨x,m,h⟩;obtain ⟨i,d,j,rfl⟩:=ED m;exact ⟨i,d,j,h⟩
  rw [e];cases l.any (Oq n) <;> rfl
 ·intro i d j _;rw [AI d j,bs,bs];unfold Oq;cases decide (AB l i < -1) <;> cases decide (n<=AB l i) <;> rfl
end Go.Sf.Sc
namespace Go.Sf.Sc
open Go Go.Sf
theorem Ws (t:AC) (g:Graph):GW t g=some (GL t g):=by
 unfold GW GL;rw [show (fun d=>K1 d t)=(fun d=>some (decide ((t.Nodes.length:Int)<=d))) from rfl,V4 (p:=fun n=>decide ((t.Nodes.length:Int)<=n)) (fun a _=>rfl),bs,
  show (fun d=>K3 d t)=(fun d=>some (decide ((t.Edges.length:Int)<=d.Type'))) from rfl,X8 (p:=fun e=>decide ((t.Edges.length:Int)<=e.Type')) (fun a _=>rfl),bs]
 cases g.Nodes.any fun n=>decide ((t.Nodes.length:Int)<=n) <;> rfl
def HU (t:AC) (p g:Graph):Int:=if (BE t).2≠0 then (BE t).2 else if DK p≠0 then DK p else if DK g≠0 then DK g else if (GL t p&&GL t g)=true then 0 else 13
variable {t:AC}
theorem YV (m:BY t) (p g:Graph):Hq t p g=some (HU t p g):=by
 unfold Hq HU;rw [SX m,bs];refine Ib fun _=>?_;have q:forR (ρ:=Int) (fun (o:Int) (_:Unit)=>
   (AM [p,g] o).bind fun j=>
   (EZ j).bind fun h=>
   if (!decide (h=0))=true then
   some (.ret h)
   else
   some (.next ())) 0 ([p,g].length:Int) ()=some (if DK p≠0 then .inr (DK p) else if DK g≠0 then .inr (DK g) else .inl ()):=by
  show forGo _ 2 0 ()=_;rw [H6,show AM [p,g] 0=some p from rfl,bs,Oe,bs];by_cases d:DK p=0
  ·rw [d2 (by simp [d]),d2 (by simp [d])];show forGo _ 1 (0+1) ()=_;rw [H6,show AM [p,g] (0+1)=some g from rfl,bs,Oe,bs];by_cases e:DK g=0
   ·rw [d2 (by simp [e]),d2 (by simp [e])]; rfl
   ·rw [d1 (by simp [e]),d1 e]
  ·rw [d1 (by simp [d]),d1 d]
 rw [q];by_cases d:DK p=0
 ·by_cases e:DK g=0
  ·simp only [d,e,ne_eq,not_true_eq_false,if_false,DX];rw [Ws,Ws,bs];cases GL t p <;> cases GL t g <;> rfl
  ·simp only [d,e,ne_eq,not_true_eq_false,not_false_eq_true,if_false,if_true,VY]
 ·simp only [d,ne_eq,not_false_eq_true,if_true,VY]
theorem TH (d:BY t) (p g:Graph):Ji t p g=some (HU t p g):=by
 unfold Ji HU;rw [SZ d,bs];refine Ib fun _=>?_;rw [Og,bs];refine Ib fun e=>?_;rw [Og,bs];refine Ib fun h=>?_;rw [Ud (GE e),bs,Ud (GE h)];cases GL t p <;> cases GL t g <;> rfl
end Go.Sf.Sc
namespace Go.Sf.Sc
open Go Go.Sf
variable {t:AC} {p g:Graph} {pa:Morphism}
theorem WG {inj:Bool} (h:HU t p g=0) (r:pa.Nodes.length=p.Nodes.length) (u:pa.Edges.length=p.Edges.length):(BE t).2=0∧MT (FF t p g pa inj):=by
 unfold HU at h;by_cases hv:(BE t).2=0
 ·rw [d2 (by simp [hv])] at h;by_cases m:DK p=0
  ·rw [d2 (by simp [m])] at h;by_cases o:DK g=0
   ·rw [d2 (by simp [o])] at h;by_cases d:(GL t p&&GL t g)=true
    ·rw [zzZ] at d;have op:=GE m;have q:=GE o;have tp:=Ni op d.1;have x:=Ni q d.2;have y:(KE t).length=t.Nodes.length:=by unfold KE; rw [d7,DN]
     refine ⟨hv,r,u,fun e v=>?_,fun n w=>?_,Nat.le_trans op.nodes (by omega),Nat.le_trans op.edges (by omega),Nat.le_trans q.nodes (by omega),Nat.le_trans q.edges (by omega)⟩
     ·have:=op.fit e v;exact ⟨this.2.1.1,this.2.1.2,this.2.2.1,this.2.2.2⟩
     ·have:=tp.1 n w;refine ⟨this.1,by show n<((KE t).length:Int); rw [y]; exact this.2,fun k j=>?_⟩;have j:=x.1 k j;refine ⟨j.1,?_⟩;show k<((AB (KE t) n).length:Int);unfold KE;rw [Mg (Kz t) this.1 this.2];unfold Kz;rw [d7,DN]; exact j.2
    ·rw [d2 d] at h; cases h
   ·rw [d1 (by simp [o])] at h; exact absurd h o
  ·rw [d1 (by simp [m])] at h; exact absurd h m
 ·rw [d1 (by simp [hv])] at h; exact absurd h hv
def Ov (t:AC) (p g:Graph) (pa:Morphism) (inj:Bool):List Morphism × Int:=
 if HU t p g≠0 then ([],HU t p g) else if ¬ (pa.Nodes.length=p.Nodes.length∧pa.Edges.length=p.Edges.length) then ([],20) else
 if Np pa.Nodes g.Nodes.length≠0 then ([],Np pa.Nodes g.Nodes.length) else if Np pa.Edges g.Edges.length≠0 then ([],Np pa.Edges g.Edges.length) else
 if 5000<(Lt t p g pa inj).length then ([],3) else (Lt t p g pa inj,0)
theorem Wn (e:BY t) (p g:Graph) (pa:Morphism) (inj:Bool):GV t p g pa inj=some (Ov t p g pa inj):=by
 unfold GV Ov;rw [YV e,bs];refine K8 fun j=>?_;refine Pr (by simp only [Bool.or_eq_true,Bool.not_eq_true',decide_eq_false_iff_not]; omega) fun d=>?_;have d:=Classical.not_not.1 d;rw [ac,bs];refine K8 fun o=>?_;rw [ac,bs];refine K8 fun q=>?_;obtain ⟨hv,m⟩:=WG (inj:=inj) j d.1 d.2;unfold KU;rw [fo e hv m,bs];by_cases h:5000<(Lt t p g pa inj).length
 ·rw [d1 (by rw [zzX]; omega),d1 h]; rfl
 ·rw [d2 (by rw [zzX]; omega),d2 h]; rfl
theorem cr (h:BY t) (p g:Graph) (pa:Morphism) (inj:Bool):LJ t p g pa inj=some (Ov t p g pa inj):=by
 unfold LJ Ov;rw [TH h,bs];refine K8 fun j=>?_;refine Pr (by simp only [Bool.or_eq_true,Bool.not_eq_true',decide_eq_false_iff_not]; omega) fun d=>?_;have d:=Classical.not_not.1 d;rw [W4 _ (by omega),bs];refine K8 fun o=>?_;rw [W4 _ (by omega),bs];refine K8 fun q=>?_;obtain ⟨hv,m⟩:=WG (inj:=inj) j d.1 d.2;rw [qN hv m,bs];by_cases e:5000<(Lt t p g pa inj).length
 ·rw [d1 (by rw [zzX]; omega),d1 e]
 ·rw [d2 (by rw [zzX]; omega),d2 e]
end Go.Sf.Sc
