/- Plain lemmas: what the functions of the program and of the reference compute. -/
import Derived.Test.YtlbmpkmkmkgniaaGreatDoorP1
import Derived.Test.YtlbmpkmkmkgniaaGreatDoorEval
set_option maxRecDepth 100000
namespace Go.Sf.Sc
open Go Go.Sf
theorem cN {t:AD} (hf:CA t) (p:Pattern) {c:AA} (hc:D6 c):EB t p c=some (ED t p c):=by
 by_cases ht:(BJ t).2=0
 ·exact ed hf ht p hc
 ·unfold EB ED
  rw [Tk hf,bs]
  refine Io fun h=>?_
  exfalso
  unfold I3 at h
  rw [if_pos ht] at h
  exact ht h
end Go.Sf.Sc
namespace Go.Sf.Sc
open Go Go.Sf
theorem dA {α:Type} [Inhabited α] (b:α->α->Bool) {l m:List α} (hb:∀ x∈l,∀ y∈m,(b x y=true↔x=y)) (hl:l.length=m.length):anyR (fun i=>!b (AB l i) (AB m i)) 0 l.length=false↔l=m:=by
 rw [EJ]
 constructor
 ·intro h
  refine Xh hl (fun i i1 i2=>?_)
  have:=h i i1 i2
  rw [Bool.not_eq_false'] at this
  exact (hb _ (AV i1 i2) _ (AV i1 (by omega))).1 this
 ·rintro rfl i i1 i2
  rw [Bool.not_eq_false']
  exact (hb _ (AV i1 i2) _ (AV i1 i2)).2 rfl
theorem bn {α:Type} [Inhabited α] [DecidableEq α] {l m:List α} (hl:l.length=m.length) {k:Unit->Option Bool} {kr:Bool->Option Bool}:thenR (forR (ρ:=Bool) (fun (i0:Int) (_:Unit)=>
 (AL l i0).bind fun x18=>
 (AL m i0).bind fun x22=>
 if (!decide (x18=x22))=true then
 some (.ret false)
 else
 some (.next ())) 0 (l.length:Int) ()) k kr=if l=m then k () else kr false:=by
 rw [C7 (fun i=>!decide (AB l i=AB m i)) false]
 ·have:=dA (fun x y:α=>decide (x=y)) (l:=l) (m:=m) (fun _ _ _ _=>decide_eq_true_iff) hl
  by_cases h:l=m
  ·rw [this.2 h,if_pos h]; rfl
  ·rw [if_neg h]
   cases hx:anyR (fun i=>!decide (AB l i=AB m i)) 0 l.length
   ·exact absurd (this.1 hx) h
   ·rfl
 ·intro i i1 i2 _
  rw [AM i1 i2,bs,AM i1 (by omega),bs,Jy]
theorem bm {α:Type} [Inhabited α] [DecidableEq α] (l m:List α):(if (!decide ((l.length:Int)=(m.length:Int)))=true then
 some false
 else
 thenR (forR (ρ:=Bool) (fun (i0:Int) (_:Unit)=>
 (AL l i0).bind fun x18=>
 (AL m i0).bind fun x22=>
 if (!decide (x18=x22))=true then
 some (.ret false)
 else
 some (.next ())) 0 (l.length:Int) ()) (fun _=>
 some true) (fun v0=>some v0))=some (decide (l=m)):=by
 by_cases hl:l.length=m.length
 ·rw [if_neg (by simp [hl]),bn hl]
  by_cases h:l=m
  ·rw [if_pos h,decide_eq_true h]
  ·rw [if_neg h,decide_eq_false h]
 ·rw [if_pos (by simp; omega),decide_eq_false (fun e=>hl (by rw [e]))]
theorem mC (l m:List Int):slices_Equal_int l m=some (decide (l=m)):=bm l m
noncomputable def ae (a b:AA):Bool:=@decide (a=b) (Classical.propDecidable _)
end Go.Sf.Sc
namespace Go.Sf.Sc
open Go Go.Sf
mutual
def cnt:AA->Nat
 | ⟨_,kids,_,_⟩=>1+GJ kids
def GJ:List AA->Nat
 | []=>0
 | k::l=>cnt k+GJ l
end
mutual
def Sl:AA->Nat
 | ⟨k,kids,_,_⟩=>(if k=5 then 1 else 0)+PM kids
def PM:List AA->Nat
 | []=>0
 | k::l=>max (Sl k) (PM l)
end
theorem Ju (c:AA):cnt c=1+GJ c.Kids:=by cases c; rfl
theorem T5 (c:AA):Sl c=(if c.Kind=5 then 1 else 0)+PM c.Kids:=by cases c; rfl
theorem bl {l:List AA} {k:Int} (h0:0<=k) (h1:k<l.length):l.drop k.toNat=AB l k::l.drop (k+1).toNat:=by
 rw [show (k+1).toNat=k.toNat+1 by omega,List.drop_eq_getElem_cons (by omega)]
 unfold AB
 rw [List.getD_eq_getElem?_getD,List.getElem?_eq_getElem (by omega)]; rfl
theorem Ss:∀ (N:Nat) (c:AA),SizeOf.sizeOf c<=N->(AF c).Sm->∀ most:Int,0<=most->most<=1000->∃ r,(∀ n,N<=n->FQ n c most=some r)∧-1<=r∧r<=most - 1∧(0<=r->D6 c∧(cnt c:Int)+r<=most)
 | 0,c,h,_,_,_,_=>by have:=DA c; omega
 | N+1,c,h,hs,most,m0,m1=>by
  obtain ⟨hm,hkl,hk⟩:=bi hs
  obtain ⟨b1,e1,f1⟩:=SM c.Pattern
  obtain ⟨b2,e2,f2⟩:=br hm
  have step:∀ n,N+1<=n->∃ m,n=m+1∧N<=m:=fun n hn=>⟨n - 1,by omega,by omega⟩
  cases b1
  ·refine ⟨-1,fun n hn=>?_,by omega,by omega,fun h=>by omega⟩
   obtain ⟨n,rfl,_⟩:=step n hn
   rw [FQ,e1]; rfl
  cases b2
  ·refine ⟨-1,fun n hn=>?_,by omega,by omega,fun h=>by omega⟩
   obtain ⟨n,rfl,_⟩:=step n hn
   rw [FQ,e1,bs,e2]; rfl
  have loop:∀ (m:Nat) (k left:Int),0<=k->k+m=c.Kids.length->-1<=left->left<=1000->∃ l' k',(∀ n,N<=n->Ls (ρ:=Int) (fun (s0:Int × Int)=>
    if ((decide (s0.2<(c.Kids.length:Int)))&&(decide (0<=s0.1)))=true then
    (AL c.Kids s0.2).bind fun x32=>
    (FQ n x32 s0.1).bind fun x35=>
    some (.next (x35,A8 (s0.2+1)))
    else
    some (.brk (s0.1,s0.2))) (left,k) (.inl (l',k')))∧-1<=l'∧l'<=left∧(0<=l'->(∀ j,k<=j->j<c.Kids.length->D6 (AB c.Kids j))∧(GJ (c.Kids.drop k.toNat):Int)+l'<=left):=by
   intro m
   induction m with
   | zero=>
    intro k left k0 kl l0 l1
    refine ⟨left,k,fun n hn=>.brk ?_,l0,by omega,fun _=>⟨fun j j1 j2=>by omega,?_⟩⟩
    ·rw [if_neg (by simp; omega)]
    ·rw [List.drop_of_length_le (by omega),GJ]; omega
   | succ m ih=>
    intro k left k0 kl l0 l1
    by_cases hl:0<=left
    ·have hmem:=AV (l:=c.Kids) k0 (by omega)
     have:=DW hmem
     obtain ⟨r,r1,r2,r3,r4⟩:=Ss N _ (by omega) (hk _ hmem) left hl l1
     obtain ⟨l',k',a1,a2,a3,a4⟩:=ih (k+1) r (by omega) (by omega) r2 (by omega)
     refine ⟨l',k',fun n hn=>.next (s':=(r,k+1)) ?_ (a1 n hn),a2,by omega,fun h0=>⟨fun j j1 j2=>?_,?_⟩⟩
     ·rw [if_pos (by simp; omega),AM k0 (by omega),bs,r1 n hn,bs,BN (by omega) (by omega)]
     ·by_cases hj:j=k
      ·subst hj; exact (r4 (by omega)).1
      ·exact (a4 h0).1 j (by omega) j2
     ·have e1:=(r4 (by omega)).2
      have e2:=(a4 h0).2
      rw [bl k0 (by omega),GJ]
      omega
    ·refine ⟨left,k,fun n hn=>.brk ?_,l0,by omega,fun h=>by omega⟩
     rw [if_neg (by simp; omega)]
  obtain ⟨l',k',a1,a2,a3,a4⟩:=loop c.Kids.length 0 (most - 1) (by omega) (by omega) (by omega) (by omega)
  refine ⟨l',fun n hn=>?_,a2,a3,fun h0=>⟨.mk c (f1 rfl) (f2 rfl) (fun k hk=>?_),?_⟩⟩
  ·obtain ⟨n,rfl,hn'⟩:=step n hn
   rw [FQ,e1,bs,e2]
   simp only [bs,Bool.not_true,Bool.false_eq_true,if_false]
   rw [BN (n:=most - 1) (by omega) (by omega),(a1 n hn').eq,EY]
  ·obtain ⟨j,j1,j2,rfl⟩:=EX hk
   exact (a4 h0).1 j j1 j2
  ·have:=(a4 h0).2
   rw [show (0:Int).toNat=0 from rfl,List.drop_zero] at this
   rw [Ju]
   omega
theorem Sr {c:AA} (hs:(AF c).Sm):∃ b,MP c=some b∧(b=true->D6 c∧cnt c<=40):=by
 obtain ⟨r,r1,_,_,r4⟩:=Ss (SizeOf.sizeOf c) c (Nat.le_refl _) hs 40 (by omega) (by omega)
 have e:Oo c 40=some r:=GY (SizeOf.sizeOf c) r1
 unfold MP
 rw [e]
 exact ⟨_,rfl,fun h=>by have:=r4 (by simpa using h); exact ⟨this.1,by have:=this.2; simp at h; omega⟩⟩
theorem NA:∀ {l:List AA} {k:AA},k∈l->cnt k<=GJ l
 | x::l,k,h=>by
  rw [GJ]
  rcases List.mem_cons.1 h with rfl | h
  ·omega
  ·have:=NA h; omega
theorem Vl:∀ (N:Nat) (c:AA),SizeOf.sizeOf c<=N->Sl c<=cnt c
 | 0,c,h=>by have:=DA c; omega
 | N+1,c,h=>by
  have key:∀ l:List AA,(∀ k∈l,k∈c.Kids)->PM l<=GJ l:=by
   intro l
   induction l with
   | nil=>intro _; exact Nat.le_refl _
   | cons k l ih=>
    intro hl
    have h1:=ih (fun x hx=>hl x (List.mem_cons_of_mem _ hx))
    have:=DW (hl k List.mem_cons_self)
    have h2:=Vl N k (by omega)
    rw [PM,GJ]
    omega
  have:=key c.Kids (fun _ h=>h)
  rw [T5,Ju]
  split <;> omega
theorem Vx:∀ (N:Nat) (c:AA),SizeOf.sizeOf c<=N->cnt c<=1000->JM N c=((cnt c:Int),(Sl c:Int))
 | 0,c,h,_=>by have:=DA c; omega
 | N+1,c,h,hc=>by
  have key:∀ (l:List AA) (a b:Nat),(∀ k∈l,k∈c.Kids)->a+GJ l<=1000->l.foldl (fun s k=>(A8 (s.1+(JM N k).1),max s.2 (JM N k).2)) (((a:Int),(b:Int)):Int × Int)=(((a+GJ l:Nat):Int),((max b (PM l):Nat):Int)):=by
   intro l
   induction l with
   | nil=>intro a b _ _; simp [GJ,PM]
   | cons k l ih=>
    intro a b hl ha
    rw [GJ] at ha
    have:=DW (hl k List.mem_cons_self)
    rw [List.foldl_cons,Vx N k (by omega) (by omega)]
    have e1:A8 ((a:Int)+(cnt k:Int))=((a+cnt k:Nat):Int):=by rw [BN (by omega) (by omega)]; omega
    have e2:max (b:Int) (Sl k:Int)=((max b (Sl k):Nat):Int):=by omega
    simp only [e1,e2]
    rw [ih (a+cnt k) (max b (Sl k)) (fun x hx=>hl x (List.mem_cons_of_mem _ hx)) (by omega),GJ,PM,Nat.add_assoc,Nat.max_assoc]
  have hc':=hc
  rw [Ju] at hc'
  have:=key c.Kids 1 0 (fun _ h=>h) hc'
  have hd:=Vl (N+1) c h
  rw [JM]
  rw [show ((1,0):Int × Int)=(((1:Nat):Int),((0:Nat):Int)) from rfl,this,Ju,T5]
  rw [T5] at hd
  by_cases h5:c.Kind=5
  ·rw [if_pos h5] at hd ⊢
   rw [if_pos h5]
   rw [BN (by simp only [Nat.zero_max]; omega) (by simp only [Nat.zero_max]; omega)]
   simp only [Nat.zero_max,Prod.mk.injEq,true_and]
   omega
  ·rw [if_neg h5,if_neg h5]
   simp
theorem ZV {c:AA} (h:cnt c<=1000):Oe c=((cnt c:Int),(Sl c:Int)):=Vx _ c (Nat.le_refl _) h
end Go.Sf.Sc
namespace Go.Sf.Sc
open Go Go.Sf
structure M3 (f:AK):Prop where
 pn:f.partial_.Nodes.length=f.p.Nodes.length
 pe:f.partial_.Edges.length=f.p.Edges.length
 ends : ∀ e ∈ f.p.Edges, 0 ≤ e.From ∧ e.From < f.p.Nodes.length ∧ 0 ≤ e.To ∧ e.To < f.p.Nodes.length
 kinds:∀ n∈f.p.Nodes,0<=n∧n<f.is.length∧∀ t∈f.g.Nodes,0<=t∧t<(AB f.is n).length
 small:f.p.Nodes.length<=1000∧f.p.Edges.length<=1000∧f.g.Nodes.length<=1000∧f.g.Edges.length<=1000
def Jo (f:AK) (i k:Int):Bool:=
 (decide (AB f.partial_.Edges i<0)||decide (AB f.partial_.Edges i=k))&&decide (AB f.g.Edges k=⟨(AB f.p.Edges i).Type',AB f.nodes (AB f.p.Edges i).From,AB f.nodes (AB f.p.Edges i).To⟩)
theorem X2 {α:Type} {l:List α} (h:l≠[]):UU l=some ():=by
 unfold UU
 cases l with
 | nil=>exact absurd rfl h
 | cons _ _=>rfl
theorem UI {l:List Int} {i:Int} (h0:0<=i) (h1:i<l.length):H8 l i=some (AB l i):=by
 unfold H8
 rw [X2 (by intro h; subst h; simp at h1; omega),bs,AM h0 h1,bs]
theorem YC {f:AK} (hf:M3 f) {i k:Int} (i0:0<=i) (i1:i<f.p.Edges.length) (k0:0<=k) (k1:k<f.g.Edges.length) (hF:(AB f.p.Edges i).From<f.nodes.length) (hT:(AB f.p.Edges i).To<f.nodes.length):EM f i k=some (Jo f i k):=by
 have he:=hf.ends _ (AV i0 i1)
 unfold EM Jo
 rw [AM i0 i1,bs,UI i0 (by rw [hf.pe]; exact i1),bs,AM k0 k1,bs,AM he.1 hF,bs,AM he.2.2.1 hT,bs]
 by_cases h1:AB f.partial_.Edges i<0
 ·rw [if_neg (by simp; omega)]; simp [h1]
 ·by_cases h2:AB f.partial_.Edges i=k
  ·rw [if_neg (by simp [h2])]; simp [h2]
  ·rw [if_pos (by simp [h2]; omega)]; simp [h1,h2]
def L4 (f:AK):Bool:=!anyR (fun i=>decide (max (AB f.p.Edges i).From (AB f.p.Edges i).To=(f.nodes.length:Int) - 1)&&!anyR (fun k=>Jo f i k) 0 f.g.Edges.length) 0 f.p.Edges.length
theorem bY {f:Int->Bool->Option (CY Bool Bool)} (p:Int->Bool) {b:Int} (h:∀ i,0<=i->i<b->f i false=some (if p i=true then .brk true else .next false)):forR f 0 b false=some (.inl (anyR p 0 b)):=by
 have key:∀ (m:Nat) (i:Int),0<=i->i+m=b->forGo f m i false=some (.inl (anyR p i b)):=by
  intro m
  induction m with
  | zero=>
   intro i i0 hi
   have:anyR p i b=false:=by rw [EJ]; intro j j1 j2; omega
   rw [this]; rfl
  | succ m ih=>
   intro i i0 hi
   rw [G5,h i i0 (by omega)]
   by_cases hp:p i=true
   ·have:anyR p i b=true:=by rw [JF]; exact ⟨i,Int.le_refl _,by omega,hp⟩
    rw [if_pos hp,this]
   ·have e:anyR p i b=anyR p (i+1) b:=by
     rw [Bool.eq_iff_iff,JF,JF]
     constructor
     ·rintro ⟨j,j1,j2,j3⟩
      have:j≠i:=fun e=>hp (e ▸ j3)
      exact ⟨j,by omega,j2,j3⟩
     ·rintro ⟨j,j1,j2,j3⟩
      exact ⟨j,by omega,j2,j3⟩
    rw [if_neg hp,e]
    exact ih (i+1) (by omega) (by omega)
 unfold forR
 by_cases hb:0<=b
 ·exact key _ 0 (Int.le_refl _) (by omega)
 ·have:anyR p 0 b=false:=by rw [EJ]; intro j j1 j2; omega
  rw [this,show (b - 0).toNat=0 by omega]; rfl
theorem Wv {f:AK} (hf:M3 f) (hn:0<f.nodes.length) (hn2:f.nodes.length<=1000):CT f=some (L4 f):=by
 unfold CT L4
 rw [C7 (fun i=>decide (max (AB f.p.Edges i).From (AB f.p.Edges i).To=(f.nodes.length:Int) - 1)&&!anyR (fun k=>Jo f i k) 0 f.g.Edges.length) false]
 ·generalize anyR (fun i=>decide (max (AB f.p.Edges i).From (AB f.p.Edges i).To=(f.nodes.length:Int) - 1)&&!anyR (fun k=>Jo f i k) 0 f.g.Edges.length) 0 f.p.Edges.length=b
  cases b <;> rfl
 ·intro i i0 i1 _
  rw [AM i0 i1,bs,BN (n:=(f.nodes.length:Int) - 1) (by omega) (by omega)]
  by_cases hm:max (AB f.p.Edges i).From (AB f.p.Edges i).To=(f.nodes.length:Int) - 1
  ·rw [if_neg (by simp [hm]),bY (fun k=>Jo f i k) (fun k k0 k1=>by
    rw [YC hf i0 i1 k0 k1 (by omega) (by omega),bs,Jy])]
   generalize anyR (fun k=>Jo f i k) 0 f.g.Edges.length=b
   rw [decide_eq_true hm]
   cases b <;> rfl
  ·rw [if_pos (by simp [hm]),if_neg (by simp [hm])]
def B2 (n:Nat):List Int:=(List.range n).map Int.ofNat
theorem LB (n:Nat):B2 (n+1)=B2 n++[(n:Int)]:=by
 unfold B2
 rw [List.range_succ,List.map_append]; rfl
def QG (f:AK) (k:Int):Bool:=(decide (AB f.partial_.Nodes f.nodes.length<0)||decide (AB f.partial_.Nodes f.nodes.length=k))&&AB (AB f.is (AB f.p.Nodes f.nodes.length)) (AB f.g.Nodes k)&&!(f.injective&&f.nodes.any fun x=>decide (k=x))
def Pe (f:AK) (k:Int):Bool:=Jo f f.edges.length k&&!(f.injective&&f.edges.any fun x=>decide (k=x))
def GZ:Nat->AK->List Morphism
 | 0,f=>[⟨f.nodes,f.edges⟩]
 | n+1,f=>(B2 f.g.Edges.length).flatMap fun k=>if Pe f k=true then GZ n { f with edges:=f.edges++[k] } else []
def JE:Nat->AK->List Morphism
 | 0,f=>GZ f.p.Edges.length f
 | n+1,f=>(B2 f.g.Nodes.length).flatMap fun k=>if (QG f k&&L4 { f with nodes:=f.nodes++[k] })=true then JE n { f with nodes:=f.nodes++[k] } else []
theorem Yo {α:Type} (a b:List α) (m:Nat):((a.take m)++b).take m=(a++b).take m:=by
 by_cases h:a.length<=m
 ·rw [List.take_of_length_le h]
 ·rw [List.take_append_of_le_length (by simp; omega),List.take_append_of_le_length (by omega),List.take_take,Nat.min_self]
end Go.Sf.Sc
namespace Go.Sf.Sc
open Go Go.Sf
def Qe (f:AK) (o:List Morphism):AK:={ f with out:=o }
theorem M3.out {f:AK} (h:M3 f) (o:List Morphism):M3 (Qe f o):=⟨h.pn,h.pe,h.ends,h.kinds,h.small⟩
theorem QK:∀ (n:Nat) (f:AK) (o:List Morphism),GZ n (Qe f o)=GZ n f
 | 0,_,_=>rfl
 | n+1,f,o=>by
  rw [GZ,GZ]
  refine congrArg (fun F=>(B2 f.g.Edges.length).flatMap F) (funext fun k=>?_)
  have:=QK n { f with edges:=f.edges++[k] } o
  show (if Pe f k=true then GZ n (Qe { f with edges:=f.edges++[k] } o) else [])=_
  rw [this]
theorem Tr:∀ (n:Nat) (f:AK) (o:List Morphism),JE n (Qe f o)=JE n f
 | 0,f,o=>QK _ f o
 | n+1,f,o=>by
  rw [JE,JE]
  refine congrArg (fun F=>(B2 f.g.Nodes.length).flatMap F) (funext fun k=>?_)
  have:=Tr n { f with nodes:=f.nodes++[k] } o
  show (if (QG f k&&L4 { f with nodes:=f.nodes++[k] })=true then JE n (Qe { f with nodes:=f.nodes++[k] } o) else [])=_
  rw [this]
def BM (f:AK) (l:List Morphism):AK:=Qe f ((f.out++l).take f.most.toNat)
structure SC (f:AK):Prop where
 m0:0<=f.most
 m1:f.most<=10000
 out:(f.out.length:Int)<=f.most
theorem Jw {f:AK} (h:SC f):BM f []=f:=by
 unfold BM
 rw [List.append_nil,List.take_of_length_le (by have:=h.out; have:=h.m0; omega)]; rfl
theorem S3 {f:AK} (h:(f.out.length:Int)=f.most) (l:List Morphism):BM f l=f:=by
 unfold BM
 rw [List.take_append_of_le_length (by omega),List.take_of_length_le (by omega)]; rfl
theorem S5 {f:AK} (h:SC f) (l:List Morphism):SC (BM f l):=by
 refine ⟨h.m0,h.m1,?_⟩
 have:=h.m0
 show (((f.out++l).take f.most.toNat).length:Int)<=f.most
 rw [List.length_take]; omega
theorem S4 (f:AK) (a b:List Morphism):BM (BM f a) b=BM f (a++b):=by
 show Qe f ((((f.out++a).take f.most.toNat)++b).take f.most.toNat)=_
 rw [Yo,List.append_assoc]; rfl
theorem RT:∀ (n:Nat) (f:AK),M3 f->SC f->f.nodes.length=f.p.Nodes.length->f.edges.length+n=f.p.Edges.length->∀ m,n+1<=m->A9 m f=some (BM f (GZ n f))
 | n,f,hf,hr,hn,he,m,hm=>by
  obtain ⟨m,rfl⟩:∃ k,m=k+1:=⟨m - 1,by omega⟩
  have hs:=hf.small
  have h0:=hr.m0
  have h1:=hr.m1
  have h2:=hr.out
  rw [A9]
  by_cases hfull:(f.out.length:Int)=f.most
  ·rw [if_pos (by simpa using hfull),S3 hfull]; rfl
  rw [if_neg (by simpa using hfull),if_neg (by simp; omega)]
  match n,he,hm with
  | 0,he,hm=>
   rw [if_neg (by simp; omega)]
   unfold slices_Clone_int
   rw [JG (by unfold B9; omega),bs,JG (by unfold B9; omega),bs,DY (by simp; unfold B9; omega),bs,bs]
   unfold BM
   rw [List.take_of_length_le (by simp [GZ]; omega)]; rfl
  | n+1,he,hm=>
   rw [if_pos (by simp; omega)]
   have F:∀ k,Pe f k=true->M3 { f with edges:=f.edges++[k] }:=fun k _=>⟨hf.pn,hf.pe,hf.ends,hf.kinds,hf.small⟩
   rw [Hx (a:=0) (s:=f) (fun i=>BM f ((B2 i.toNat).flatMap fun k=>if Pe f k=true then GZ n { f with edges:=f.edges++[k] } else [])) (by omega) (Jw hr)]
   ·rw [bs,bs,Int.toNat_natCast,GZ]
   ·intro i i0 i1
    have hu:B2 (i+1).toNat=B2 i.toNat++[i]:=by
     rw [show (i+1).toNat=i.toNat+1 by omega,LB]
     rw [show ((i.toNat:Nat):Int)=i by omega]
    have hg:∀ l,BM f ((B2 (i+1).toNat).flatMap l)=BM (BM f ((B2 i.toNat).flatMap l)) (l i):=by
     intro l
     rw [S4,hu,List.flatMap_append]; simp
    rw [hg]
    generalize (B2 i.toNat).flatMap (fun k=>if Pe f k=true then GZ n { f with edges:=f.edges++[k] } else [])=L
    have hR:=S5 hr L
    have hf':M3 (BM f L):=hf.out _
    have hend:=hf.ends _ (AV (l:=f.p.Edges) (i:=(f.edges.length:Int)) (by omega) (by omega))
    rw [YC hf' (i:=(f.edges.length:Int)) (k:=i) (by omega) (by show _<(f.p.Edges.length:Int); omega) i0 (by exact i1) (by show (AB f.p.Edges f.edges.length).From<(f.nodes.length:Int); omega) (by show (AB f.p.Edges f.edges.length).To<(f.nodes.length:Int); omega),bs]
    have hc:slices_Contains_int (BM f L).edges i=some (f.edges.any fun x=>decide (i=x)):=T2 f.edges i
    rw [hc]
    have hfit:Jo (BM f L) f.edges.length i=Jo f f.edges.length i:=rfl
    have key:((CX (BM f L).edges [i]).bind fun x193=>
      (A9 m (AK.mk (BM f L).p (BM f L).g (BM f L).is (BM f L).partial_ (BM f L).injective (BM f L).most (BM f L).nodes x193 (BM f L).out)).bind fun x197=>
      (slc x197.edges 0 (f.edges.length:Int)).bind fun x204=>
      some (AK.mk x197.p x197.g x197.is x197.partial_ x197.injective x197.most x197.nodes x204 x197.out))=some (BM (BM f L) (GZ n { f with edges:=f.edges++[i] })):=by
     have e1:CX (BM f L).edges [i]=some (f.edges++[i]):=DY (by show f.edges.length+1<=B9; unfold B9; omega)
     have e2:=RT n { BM f L with edges:=f.edges++[i] } ⟨hf.pn,hf.pe,hf.ends,hf.kinds,hf.small⟩ ⟨hR.m0,hR.m1,hR.out⟩ hn (by show (f.edges++[i]).length+n=f.p.Edges.length; simp; omega) m (by omega)
     have e3:GZ n { BM f L with edges:=f.edges++[i] }=GZ n { f with edges:=f.edges++[i] }:=QK n { f with edges:=f.edges++[i] } _
     rw [e3] at e2
     rw [e1,bs]
     show (A9 m { BM f L with edges:=f.edges++[i] }).bind _=_
     rw [e2,bs]
     have e4:slc (BM { BM f L with edges:=f.edges++[i] } (GZ n { f with edges:=f.edges++[i] })).edges 0 (f.edges.length:Int)=some f.edges:=by
      show slc (f.edges++[i]) 0 (f.edges.length:Int)=_
      rw [L6 (by omega) (by rw [List.length_append]; omega),Int.toNat_natCast,List.take_left]
     rw [e4]; rfl
    rw [key,hfit]
    have hok:Pe f i=(Jo f f.edges.length i&&!(f.injective&&f.edges.any fun x=>decide (i=x))):=rfl
    have hinj:(BM f L).injective=f.injective:=rfl
    rw [hok,hinj]
    generalize hA:GZ n { f with edges:=f.edges++[i] }=A
    cases Jo f f.edges.length i
    ·simp only [Bool.false_and,Bool.false_eq_true,if_false,Jw hR]; rfl
    ·cases f.injective
     ·rfl
     ·cases f.edges.any fun x=>decide (i=x)
      ·rfl
      ·simp only [Bool.and_self,Bool.not_true,Bool.and_false,Bool.false_eq_true,if_false,Jw hR]; rfl
end Go.Sf.Sc
namespace Go.Sf.Sc
open Go Go.Sf
theorem RU:∀ (n:Nat) (f:AK),M3 f->SC f->f.edges=[]->f.nodes.length+n=f.p.Nodes.length->∀ m,n+f.p.Edges.length+1<=m->A9 m f=some (BM f (JE n f))
 | 0,f,hf,hr,he,hn,m,hm=>by
  rw [JE]
  exact RT _ f hf hr (by omega) (by rw [he]; simp) m (by omega)
 | n+1,f,hf,hr,he,hn,m,hm=>by
  obtain ⟨m,rfl⟩:∃ k,m=k+1:=⟨m - 1,by omega⟩
  have hs:=hf.small
  have h0:=hr.m0
  have h1:=hr.m1
  have h2:=hr.out
  rw [A9]
  by_cases hfull:(f.out.length:Int)=f.most
  ·rw [if_pos (by simpa using hfull),S3 hfull]; rfl
  rw [if_neg (by simpa using hfull),if_pos (by simp; omega)]
  rw [Hx (a:=0) (s:=f) (fun i=>BM f ((B2 i.toNat).flatMap fun k=>if (QG f k&&L4 { f with nodes:=f.nodes++[k] })=true then JE n { f with nodes:=f.nodes++[k] } else [])) (by omega) (Jw hr)]
  ·rw [bs,bs,Int.toNat_natCast,JE]
  ·intro i i0 i1
   have hu:B2 (i+1).toNat=B2 i.toNat++[i]:=by
    rw [show (i+1).toNat=i.toNat+1 by omega,LB]
    rw [show ((i.toNat:Nat):Int)=i by omega]
   have hg:∀ l,BM f ((B2 (i+1).toNat).flatMap l)=BM (BM f ((B2 i.toNat).flatMap l)) (l i):=by
    intro l
    rw [S4,hu,List.flatMap_append]; simp
   rw [hg]
   generalize (B2 i.toNat).flatMap (fun k=>if (QG f k&&L4 { f with nodes:=f.nodes++[k] })=true then JE n { f with nodes:=f.nodes++[k] } else [])=L
   have hR:=S5 hr L
   have hpn:(f.nodes.length:Int)<(f.p.Nodes.length:Int):=by omega
   have hkd:=hf.kinds _ (AV (l:=f.p.Nodes) (i:=(f.nodes.length:Int)) (by omega) hpn)
   have hty:=hkd.2.2 _ (AV i0 i1)
   have key:((CX (BM f L).nodes [i]).bind fun x123=>
     (CT (AK.mk (BM f L).p (BM f L).g (BM f L).is (BM f L).partial_ (BM f L).injective (BM f L).most x123 (BM f L).edges (BM f L).out)).bind fun x127=>
     if x127=true then
     (A9 m (AK.mk (BM f L).p (BM f L).g (BM f L).is (BM f L).partial_ (BM f L).injective (BM f L).most x123 (BM f L).edges (BM f L).out)).bind fun x129=>
     (slc x129.nodes 0 (f.nodes.length:Int)).bind fun x136=>
     some (AK.mk x129.p x129.g x129.is x129.partial_ x129.injective x129.most x136 x129.edges x129.out)
     else
     (slc x123 0 (f.nodes.length:Int)).bind fun x136=>
     some (AK.mk (BM f L).p (BM f L).g (BM f L).is (BM f L).partial_ (BM f L).injective (BM f L).most x136 (BM f L).edges (BM f L).out))=some (BM (BM f L) (if L4 { f with nodes:=f.nodes++[i] }=true then JE n { f with nodes:=f.nodes++[i] } else [])):=by
    have e1:CX (BM f L).nodes [i]=some (f.nodes++[i]):=DY (by show f.nodes.length+1<=B9; unfold B9; omega)
    have e0:slc (f.nodes++[i]) 0 (f.nodes.length:Int)=some f.nodes:=by
     rw [L6 (by omega) (by rw [List.length_append]; omega),Int.toNat_natCast,List.take_left]
    have ep:CT { BM f L with nodes:=f.nodes++[i] }=some (L4 { f with nodes:=f.nodes++[i] }):=Wv (f:={ BM f L with nodes:=f.nodes++[i] }) ⟨hf.pn,hf.pe,hf.ends,hf.kinds,hf.small⟩ (by show 0<(f.nodes++[i]).length; simp) (by show (f.nodes++[i]).length<=1000; rw [List.length_append]; simp; omega)
    have e2:=RU n { BM f L with nodes:=f.nodes++[i] } ⟨hf.pn,hf.pe,hf.ends,hf.kinds,hf.small⟩ ⟨hR.m0,hR.m1,hR.out⟩ he (by show (f.nodes++[i]).length+n=f.p.Nodes.length; rw [List.length_append]; simp; omega) m (by show n+f.p.Edges.length+1<=m; omega)
    have e3:JE n { BM f L with nodes:=f.nodes++[i] }=JE n { f with nodes:=f.nodes++[i] }:=Tr n { f with nodes:=f.nodes++[i] } _
    rw [e3] at e2
    rw [e1,bs]
    show (CT { BM f L with nodes:=f.nodes++[i] }).bind _=_
    rw [ep,bs]
    cases L4 { f with nodes:=f.nodes++[i] }
    ·rw [if_neg (by decide),if_neg (by decide),e0,Jw hR]; rfl
    ·rw [if_pos rfl,if_pos rfl]
     show (A9 m { BM f L with nodes:=f.nodes++[i] }).bind _=_
     rw [e2,bs]
     have e4:slc (BM { BM f L with nodes:=f.nodes++[i] } (JE n { f with nodes:=f.nodes++[i] })).nodes 0 (f.nodes.length:Int)=some f.nodes:=e0
     rw [e4]; rfl
   have hw:H8 (BM f L).partial_.Nodes (f.nodes.length:Int)=some (AB f.partial_.Nodes f.nodes.length):=UI (by omega) (by show (f.nodes.length:Int)<(f.partial_.Nodes.length:Int); rw [hf.pn]; exact hpn)
   have hp:AL (BM f L).p.Nodes (f.nodes.length:Int)=some (AB f.p.Nodes f.nodes.length):=AM (by omega) hpn
   have hi:AL (BM f L).is (AB f.p.Nodes f.nodes.length)=some (AB f.is (AB f.p.Nodes f.nodes.length)):=AM hkd.1 hkd.2.1
   have ht:AL (AB f.is (AB f.p.Nodes f.nodes.length)) (AB f.g.Nodes i)=some (AB (AB f.is (AB f.p.Nodes f.nodes.length)) (AB f.g.Nodes i)):=AM hty.1 hty.2
   have hc:slices_Contains_int (BM f L).nodes i=some (f.nodes.any fun x=>decide (i=x)):=T2 f.nodes i
   have hinj:(BM f L).injective=f.injective:=rfl
   have hok:QG f i=((decide (AB f.partial_.Nodes f.nodes.length<0)||decide (AB f.partial_.Nodes f.nodes.length=i))&&AB (AB f.is (AB f.p.Nodes f.nodes.length)) (AB f.g.Nodes i)&&!(f.injective&&f.nodes.any fun x=>decide (i=x))):=rfl
   rw [AM i0 i1,bs,hw,bs,hp,bs,hi,bs,ht,bs,hc,key,hinj,hok]
   generalize AB (AB f.is (AB f.p.Nodes f.nodes.length)) (AB f.g.Nodes i)=c2
   have hb:(decide (0<=AB f.partial_.Nodes f.nodes.length)&&!decide (AB f.partial_.Nodes f.nodes.length=i))=!(decide (AB f.partial_.Nodes f.nodes.length<0)||decide (AB f.partial_.Nodes f.nodes.length=i)):=by
    rw [Bool.not_or]
    congr 1
    rw [←decide_not]
    exact decide_eq_decide.2 (by omega)
   rw [hb]
   generalize (decide (AB f.partial_.Nodes f.nodes.length<0)||decide (AB f.partial_.Nodes f.nodes.length=i))=c1
   generalize L4 { f with nodes:=f.nodes++[i] }=c5
   generalize JE n { f with nodes:=f.nodes++[i] }=A
   cases c1
   ·simp only [Bool.false_and,Bool.false_eq_true,if_false,Jw hR]; rfl
   ·cases c2
    ·simp only [Bool.and_false,Bool.false_and,Bool.false_eq_true,if_false,Jw hR]; rfl
    ·cases f.injective
     ·rfl
     ·cases f.nodes.any fun x=>decide (i=x)
      ·rfl
      ·simp only [Bool.and_self,Bool.not_true,Bool.and_false,Bool.false_and,Bool.false_eq_true,if_false,Jw hR]; rfl
theorem eg {f:AK} (hf:M3 f) (hr:SC f) (he:f.edges=[]) (hn:f.nodes=[]):F4 f=some (BM f (JE f.p.Nodes.length f)):=
 GY (f.p.Nodes.length+f.p.Edges.length+1) fun m hm=>RU _ f hf hr he (by rw [hn]; simp) m hm
end Go.Sf.Sc
namespace Go.Sf.Sc
open Go Go.Sf
theorem D0 (n:Nat):(B2 n).length=n:=by simp [B2]
theorem G2 {n:Nat} {i:Int}:i∈B2 n↔0<=i∧i<n:=by
 unfold B2
 rw [List.mem_map]
 constructor
 ·rintro ⟨k,hk,rfl⟩
  have:=List.mem_range.1 hk
  exact ⟨Int.natCast_nonneg k,Int.ofNat_lt.2 this⟩
 ·rintro ⟨h0,h1⟩
  exact ⟨i.toNat,List.mem_range.2 (by omega),by show ((i.toNat:Nat):Int)=i; omega⟩
theorem M1 {n:Nat} {α:Type} [Inhabited α] (F:Int->α) {i:Int} (h0:0<=i) (h1:i<n):AB ((B2 n).map F) i=F i:=by
 unfold AB B2
 rw [List.map_map,List.getD_eq_getElem?_getD,List.getElem?_map,List.getElem?_range (by omega)]
 show F (Int.ofNat i.toNat)=F i
 congr 1
 show ((i.toNat:Nat):Int)=i
 omega
theorem Lk {i:Int} (h0:0<=i):B2 (i+1).toNat=B2 i.toNat++[i]:=by
 rw [show (i+1).toNat=i.toNat+1 by omega,LB,show ((i.toNat:Nat):Int)=i by omega]
def La (t:AD) (a:Int):List Bool:=(B2 t.Nodes.length).map fun k=>Jz t k a
def Ld (t:AD):List (List Bool):=(B2 t.Nodes.length).map (La t)
theorem cK {t:AD} (hf:CA t) (h:IF t) (hv:(BJ t).2=0) {a:Int} (a0:0<=a) (a1:a<t.Nodes.length):Hs t a=some ((B2 t.Nodes.length).filter fun i=>Jz t i a,0):=by
 have hn:=h.nodes
 unfold Hs
 have hb:Ip t a=true:=by simp [Ip,a0,a1]
 rw [SU hf,bs,if_neg (by simp [hv,hb])]
 rw [Hx (fun i=>(B2 i.toNat).filter fun i=>Jz t i a) (by omega) (by rfl),bs,Int.toNat_natCast]
 intro i i0 i1
 rw [Ze h i0 i1,bs,Lk i0,List.filter_append]
 have hl:((B2 i.toNat).filter fun i=>Jz t i a).length<=i.toNat:=by
  have:=List.length_filter_le (fun i=>Jz t i a) (B2 i.toNat)
  rwa [D0] at this
 by_cases hi:Jz t i a=true
 ·rw [if_pos hi,DY (by simp; unfold B9; omega),bs]
  simp [hi]
 ·rw [if_neg hi]
  simp [hi]
theorem dB {n:Nat} {l:List Int} (hl:∀ x∈l,0<=x∧x<n):forA (fun (i2:Int) (s2:List Bool)=>
  (AL l i2).bind fun x30=>
  (AL s2 x30).bind fun _=>
  some (CB s2 x30 true)) 0 (l.length:Int) (List.replicate n false)=some ((B2 n).map fun k=>l.any fun x=>decide (x=k)):=by
 rw [Hx (fun j=>(B2 n).map fun k=>(l.take j.toNat).any fun x=>decide (x=k)) (by omega) (by
  refine List.ext_getElem (by simp [D0]) (fun j j1 j2=>by simp))]
 ·rw [Int.toNat_natCast,List.take_length]
 ·intro j j0 j1
  have hx:=hl _ (AV j0 j1)
  rw [AM j0 j1,bs,AM hx.1 (by rw [List.length_map,D0]; exact hx.2),bs,IA j0 j1]
  congr 1
  unfold CB
  refine List.ext_getElem (by simp) (fun k k1 k2=>?_)
  have hk:k<n:=by simpa [D0] using k2
  rw [List.getElem_set]
  have e:(B2 n)[k]'(by rw [D0]; exact hk)=(k:Int):=by simp [B2]
  simp only [List.getElem_map,e,List.any_append,List.any_cons,List.any_nil,Bool.or_false]
  by_cases hjk:(AB l j).toNat=k
  ·rw [if_pos hjk,decide_eq_true (show AB l j=(k:Int) by omega),Bool.or_true]
  ·rw [if_neg hjk,decide_eq_false (show ¬ AB l j=(k:Int) by omega),Bool.or_false]
theorem aj {t:AD} (hf:CA t) (h:IF t) (hv:(BJ t).2=0):GN t=some (Ld t):=by
 have hn:=h.nodes
 unfold GN
 rw [Hx (fun i=>(B2 i.toNat).map (La t)) (by omega) (by rfl),bs,Int.toNat_natCast]
 ·rfl
 ·intro i i0 i1
  have hm:KN (t.Nodes.length:Int) false=some (List.replicate t.Nodes.length false):=by
   unfold KN
   rw [if_pos (by omega),Int.toNat_natCast]
  rw [hm,bs,cK hf h hv i0 i1,bs]
  have:=dB (n:=t.Nodes.length) (l:=(B2 t.Nodes.length).filter fun k=>Jz t k i) (fun x hx=>G2.1 (List.mem_filter.1 hx).1)
  show (forA (fun (i2:Int) (s2:List Bool)=>
   (AL ((B2 t.Nodes.length).filter fun k=>Jz t k i) i2).bind fun x30=>
   (AL s2 x30).bind fun _=>
   some (CB s2 x30 true)) 0 (((B2 t.Nodes.length).filter fun k=>Jz t k i).length:Int) (List.replicate t.Nodes.length false)).bind _=_
  rw [this,bs,DY (by rw [List.length_map,D0]; simp; unfold B9; omega),bs,Lk i0,List.map_append]
  congr 2
  simp only [List.map_cons,List.map_nil]
  congr 1
  unfold La
  refine List.map_congr_left (fun k hk=>?_)
  have hk:=G2.1 hk
  rw [Bool.eq_iff_iff,List.any_eq_true]
  constructor
  ·rintro ⟨x,hx,e⟩
   rw [zzX] at e
   subst e
   exact (List.mem_filter.1 hx).2
  ·intro hb
   exact ⟨k,List.mem_filter.2 ⟨G2.2 hk,hb⟩,by simp⟩
end Go.Sf.Sc
namespace Go.Sf.Sc
open Go Go.Sf
def LD:Nat->AK->List Morphism
 | 0,f=>GZ f.p.Edges.length f
 | n+1,f=>(B2 f.g.Nodes.length).flatMap fun k=>if QG f k=true then LD n { f with nodes:=f.nodes++[k] } else []
def Yx (f:AK) (i:Int):Prop:=0<=i∧i<f.p.Edges.length∧0<=(AB f.p.Edges i).From∧(AB f.p.Edges i).From<f.nodes.length∧0<=(AB f.p.Edges i).To∧(AB f.p.Edges i).To<f.nodes.length∧∀ k:Int,0<=k->k<f.g.Edges.length->Jo f i k=false
theorem Qm (f:AK) (i k:Int):Jo f i k=((decide (AB f.partial_.Edges i<0)||decide (AB f.partial_.Edges i=k))&&decide (AB f.g.Edges k=⟨(AB f.p.Edges i).Type',AB f.nodes (AB f.p.Edges i).From,AB f.nodes (AB f.p.Edges i).To⟩)):=rfl
theorem PB {α:Type} [Inhabited α] (l:List α) (x:α) {i:Int} (h0:0<=i) (h1:i<l.length):AB (l++[x]) i=AB l i:=by
 unfold AB
 rw [List.getD_eq_getElem?_getD,List.getD_eq_getElem?_getD,List.getElem?_append_left (by omega)]
theorem Xn:∀ (n:Nat) (f:AK) (i:Int),Yx f i->(f.edges.length:Int)<=i->i<f.edges.length+n->GZ n f=[]
 | 0,f,i,_,h1,h2=>by omega
 | n+1,f,i,hd,h1,h2=>by
  rw [GZ]
  refine List.flatMap_eq_nil_iff.2 (fun k hk=>?_)
  have hk:=G2.1 hk
  by_cases he:(f.edges.length:Int)=i
  ·have:Pe f k=false:=by
    unfold Pe
    rw [he,hd.2.2.2.2.2.2 k hk.1 hk.2]; rfl
   rw [if_neg (by rw [this]; decide)]
  ·split
   ·exact Xn n { f with edges:=f.edges++[k] } i hd (by show ((f.edges++[k]).length:Int)<=i; rw [List.length_append]; simp; omega) (by show i<((f.edges++[k]).length:Int)+n; rw [List.length_append]; simp; omega)
   ·rfl
theorem Xo:∀ (n:Nat) (f:AK) (i:Int),f.edges=[]->Yx f i->LD n f=[]
 | 0,f,i,he,hd=>by
  rw [LD]
  exact Xn _ f i hd (by rw [he]; simpa using hd.1) (by rw [he]; simpa using hd.2.1)
 | n+1,f,i,he,hd=>by
  rw [LD]
  refine List.flatMap_eq_nil_iff.2 (fun k hk=>?_)
  split
  ·refine Xo n { f with nodes:=f.nodes++[k] } i he ?_
   obtain ⟨d1,d2,d3,d4,d5,d6,d7⟩:=hd
   have hl:((f.nodes++[k]).length:Int)=f.nodes.length+1:=by rw [List.length_append]; simp
   refine ⟨d1,d2,d3,?_,d5,?_,fun j j0 j1=>?_⟩
   ·show (AB f.p.Edges i).From<((f.nodes++[k]).length:Int); omega
   ·show (AB f.p.Edges i).To<((f.nodes++[k]).length:Int); omega
   ·have:=d7 j j0 j1
    rw [Qm] at this ⊢
    show ((decide (AB f.partial_.Edges i<0)||decide (AB f.partial_.Edges i=j))&&decide (AB f.g.Edges j=⟨(AB f.p.Edges i).Type',AB (f.nodes++[k]) (AB f.p.Edges i).From,AB (f.nodes++[k]) (AB f.p.Edges i).To⟩))=false
    rw [PB _ _ d3 d4,PB _ _ d5 d6]
    exact this
  ·rfl
theorem Zf {f:AK} (hf:M3 f) (h:L4 f=false):∃ i,Yx f i:=by
 unfold L4 at h
 rw [Bool.not_eq_false',JF] at h
 obtain ⟨i,i0,i1,h⟩:=h
 rw [zzZ,zzX,Bool.not_eq_true',EJ] at h
 have he:=hf.ends _ (AV i0 i1)
 exact ⟨i,i0,i1,he.1,by omega,he.2.2.1,by omega,h.2⟩
theorem Xg:∀ (n:Nat) (f:AK),M3 f->f.edges=[]->JE n f=LD n f
 | 0,_,_,_=>rfl
 | n+1,f,hf,he=>by
  rw [JE,LD]
  refine congrArg (fun F=>(B2 f.g.Nodes.length).flatMap F) (funext fun k=>?_)
  have hf':M3 { f with nodes:=f.nodes++[k] }:=⟨hf.pn,hf.pe,hf.ends,hf.kinds,hf.small⟩
  cases QG f k
  ·rfl
  ·cases hp:L4 { f with nodes:=f.nodes++[k] }
   ·obtain ⟨i,hd⟩:=Zf hf' hp
    rw [Xo n { f with nodes:=f.nodes++[k] } i he hd]; rfl
   ·simp only [Bool.and_self,if_true]
    exact Xg n _ hf' he
end Go.Sf.Sc
namespace Go.Sf.Sc
open Go Go.Sf
theorem fw {σ ρ:Type} {f:σ × Int->Option (CY (σ × Int) ρ)} (g:Int->σ) {a b:Int} {s:σ} (hab:a<=b) (hs:s=g a) (h:∀ i,a<=i->i<b->f (g i,i)=some (.next (g (i+1),i+1))) (hb:f (g b,b)=some (.brk (g b,b))):JB f (s,a)=some (.inl (g b,b)):=by
 subst hs
 have key:∀ (n:Nat) (i:Int),a<=i->i+n=b->Ls f (g i,i) (.inl (g b,b)):=by
  intro n
  induction n with
  | zero=>
   intro i _ hi
   have:i=b:=by omega
   subst this
   exact .brk hb
  | succ n ih=>
   intro i h1 h2
   exact .next (h i h1 (by omega)) (ih (i+1) (by omega) (by omega))
 exact (key (b - a).toNat a (Int.le_refl _) (by omega)).eq
end Go.Sf.Sc
namespace Go.Sf.Sc
open Go Go.Sf
end Go.Sf.Sc
namespace Go.Sf.Sc
open Go Go.Sf
end Go.Sf.Sc
namespace Go.Sf.Sc
open Go Go.Sf
def FF (t:AD) (p g:Graph) (pa:Morphism) (inj:Bool):AK:=⟨p,g,Ld t,pa,inj,5001,[],[],[]⟩
def ML (t:AD) (p g:Graph) (pa:Morphism) (inj:Bool):List Morphism:=(LD p.Nodes.length (FF t p g pa inj)).take 5001
theorem cO {t:AD} {p g:Graph} {pa:Morphism} {inj:Bool} (ht:CA t) (hv:(BJ t).2=0) (hF:M3 (FF t p g pa inj)):HP t p g pa inj 5001=some (ML t p g pa inj):=by
 unfold HP
 rw [aj ht (II hv) hv,bs]
 have h:=eg (f:=FF t p g pa inj) hF ⟨by show (0:Int)<=5001; omega,by show (5001:Int)<=10000; omega,by show ((0:Nat):Int)<=5001; omega⟩ rfl rfl
 rw [Xg _ _ hF rfl] at h
 have e:AK.mk p g (Ld t) pa inj 5001 [] [] []=FF t p g pa inj:=rfl
 rw [e,h]; rfl
end Go.Sf.Sc
namespace Go.Sf.Sc
open Go Go.Sf
def SE (n k:Int):Bool:=decide (k < -1)||decide (n<=k)
def Np (l:List Int) (n:Int):Int:=if l.any (SE n)=true then 6 else 0
theorem YA (l:List Int) (n:Int):HC l n=some (Np l n):=by
 unfold HC Np
 rw [show (fun y0=>Kr y0 n)=(fun y0=>some (SE n y0)) from rfl,Tx (p:=SE n) (fun a _=>rfl),bs]
 cases l.any (SE n) <;> rfl
end Go.Sf.Sc
namespace Go.Sf.Sc
open Go Go.Sf
theorem Ug (t:AD) (g:Graph):FY t g=some (FR t g):=by
 unfold FY FR
 rw [show (fun y0=>Jm y0 t)=(fun y0=>some (decide ((t.Nodes.length:Int)<=y0))) from rfl,Tx (p:=fun n=>decide ((t.Nodes.length:Int)<=n)) (fun a _=>rfl),bs,
  show (fun y0=>Jn y0 t)=(fun y0=>some (decide ((t.Edges.length:Int)<=y0.Type'))) from rfl,Vj (p:=fun e=>decide ((t.Edges.length:Int)<=e.Type')) (fun a _=>rfl),bs]
 cases g.Nodes.any fun n=>decide ((t.Nodes.length:Int)<=n) <;> rfl
def GX (t:AD) (p g:Graph):Int:=if (BJ t).2≠0 then (BJ t).2 else if C4 p≠0 then C4 p else if C4 g≠0 then C4 g else if (FR t p&&FR t g)=true then 0 else 13
theorem V3 {t:AD} (hf:CA t) (p g:Graph):GO t p g=some (GX t p g):=by
 unfold GO GX
 rw [P2 hf,bs]
 refine Io fun _=>?_
 have h0:forR (ρ:=Int) (fun (i0:Int) (_:Unit)=>
   (AL [p,g] i0).bind fun x26=>
   (EE x26).bind fun x29=>
   if (!decide (x29=0))=true then
   some (.ret x29)
   else
   some (.next ())) 0 ([p,g].length:Int) ()=some (if C4 p≠0 then .inr (C4 p) else if C4 g≠0 then .inr (C4 g) else .inl ()):=by
  show forGo _ 2 0 ()=_
  rw [G5,show AL [p,g] 0=some p from rfl,bs,My,bs]
  by_cases hp:C4 p=0
  ·rw [if_neg (by simp [hp]),if_neg (by simp [hp])]
   show forGo _ 1 (0+1) ()=_
   rw [G5,show AL [p,g] (0+1)=some g from rfl,bs,My,bs]
   by_cases hg:C4 g=0
   ·rw [if_neg (by simp [hg]),if_neg (by simp [hg])]; rfl
   ·rw [if_pos (by simp [hg]),if_pos hg]
  ·rw [if_pos (by simp [hp]),if_pos hp]
 rw [h0]
 by_cases hp:C4 p=0
 ·by_cases hg:C4 g=0
  ·simp only [hp,hg,ne_eq,not_true_eq_false,if_false,EY]
   rw [Ug,Ug,bs]
   cases FR t p <;> cases FR t g <;> rfl
  ·simp only [hp,hg,ne_eq,not_true_eq_false,not_false_eq_true,if_false,if_true,TR]
 ·simp only [hp,ne_eq,not_false_eq_true,if_true,TR]
theorem Zh {t:AD} (hf:CA t) (p g:Graph):Kf t p g=some (GX t p g):=by
 unfold Kf GX
 rw [SV hf,bs]
 refine Io fun _=>?_
 rw [OD,bs]
 refine Io fun hp=>?_
 rw [OD,bs]
 refine Io fun hg=>?_
 rw [SW (F8 hp),bs,SW (F8 hg)]
 cases FR t p <;> cases FR t g <;> rfl
end Go.Sf.Sc
namespace Go.Sf.Sc
open Go Go.Sf
theorem Wc {t:AD} {p g:Graph} {pa:Morphism} {inj:Bool} (h:GX t p g=0) (h1:pa.Nodes.length=p.Nodes.length) (h2:pa.Edges.length=p.Edges.length):(BJ t).2=0∧M3 (FF t p g pa inj):=by
 unfold GX at h
 by_cases hv:(BJ t).2=0
 ·rw [if_neg (by simp [hv])] at h
  by_cases hp:C4 p=0
  ·rw [if_neg (by simp [hp])] at h
   by_cases hg:C4 g=0
   ·rw [if_neg (by simp [hg])] at h
    by_cases hty:(FR t p&&FR t g)=true
    ·rw [zzZ] at hty
     have op:=F8 hp
     have og:=F8 hg
     have tp:=L7 op hty.1
     have tg:=L7 og hty.2
     have tl:(Ld t).length=t.Nodes.length:=by unfold Ld; rw [List.length_map,D0]
     refine ⟨hv,h1,h2,fun e he=>?_,fun n hn=>?_,Nat.le_trans op.nodes (by omega),Nat.le_trans op.edges (by omega),Nat.le_trans og.nodes (by omega),Nat.le_trans og.edges (by omega)⟩
     ·have:=op.fit e he
      exact ⟨this.2.1.1,this.2.1.2,this.2.2.1,this.2.2.2⟩
     ·have:=tp.1 n hn
      refine ⟨this.1,by show n<((Ld t).length:Int); rw [tl]; exact this.2,fun k hk=>?_⟩
      have hk:=tg.1 k hk
      refine ⟨hk.1,?_⟩
      show k<((AB (Ld t) n).length:Int)
      unfold Ld
      rw [M1 (La t) this.1 this.2]
      unfold La
      rw [List.length_map,D0]; exact hk.2
    ·rw [if_neg hty] at h; cases h
   ·rw [if_pos (by simp [hg])] at h; exact absurd h hg
  ·rw [if_pos (by simp [hp])] at h; exact absurd h hp
 ·rw [if_pos (by simp [hv])] at h; exact absurd h hv
def OW (t:AD) (p g:Graph) (pa:Morphism) (inj:Bool):List Morphism × Int:=
 if GX t p g≠0 then ([],GX t p g) else if ¬ (pa.Nodes.length=p.Nodes.length∧pa.Edges.length=p.Edges.length) then ([],20) else
 if Np pa.Nodes g.Nodes.length≠0 then ([],Np pa.Nodes g.Nodes.length) else if Np pa.Edges g.Edges.length≠0 then ([],Np pa.Edges g.Edges.length) else
 if 5000<(ML t p g pa inj).length then ([],3) else (ML t p g pa inj,0)
theorem Ub {t:AD} (hf:CA t) (p g:Graph) (pa:Morphism) (inj:Bool):FX t p g pa inj=some (OW t p g pa inj):=by
 unfold FX OW
 rw [V3 hf,bs]
 refine OS fun h0=>?_
 refine O2 (by simp only [Bool.or_eq_true,Bool.not_eq_true',decide_eq_false_iff_not]; omega) fun h1=>?_
 have h1:=Classical.not_not.1 h1
 rw [YA,bs]
 refine OS fun h2=>?_
 rw [YA,bs]
 refine OS fun h3=>?_
 obtain ⟨hv,hF⟩:=Wc (inj:=inj) h0 h1.1 h1.2
 unfold JP
 rw [cO hf hv hF,bs]
 by_cases h4:5000<(ML t p g pa inj).length
 ·rw [if_pos (by rw [zzX]; omega),if_pos h4]; rfl
 ·rw [if_neg (by rw [zzX]; omega),if_neg h4]; rfl
end Go.Sf.Sc
