/- Plain lemmas: what the functions of the program and of the reference compute. -/
import Derived.Test.YtmaobfbhdkafkaaGreatP1
import Derived.Test.YtmaobfbhdkafkaaGreatEvA
set_option maxRecDepth 100000
namespace Go.Sf.Sc
open Go Go.Sf
theorem Zz {t:AD} (hf:BT t) (p:Pattern) {c:AB} (hc:EI c):DY t p c=some (MR t p c):=by
 by_cases ht:(BA t).2=0
 ·exact cG hf ht p hc
 ·unfold DY MR
  rw [SM hf,bs]
  refine HC fun h=>?_
  exfalso
  unfold Jm at h
  rw [if_pos ht] at h
  exact ht h
end Go.Sf.Sc
namespace Go.Sf.Sc
open Go Go.Sf
theorem ac {α:Type} [Inhabited α] (b:α->α->Bool) {l m:List α} (hb:∀ x∈l,∀ y∈m,(b x y=true↔x=y)) (hl:l.length=m.length):anyR (fun i=>!b (AA l i) (AA m i)) 0 l.length=false↔l=m:=by
 rw [EB]
 constructor
 ·intro h
  refine bX hl (fun i i1 i2=>?_)
  have:=h i i1 i2
  rw [Bool.not_eq_false'] at this
  exact (hb _ (AO i1 i2) _ (AO i1 (by omega))).1 this
 ·rintro rfl i i1 i2
  rw [Bool.not_eq_false']
  exact (hb _ (AO i1 i2) _ (AO i1 i2)).2 rfl
theorem Zh {α:Type} [Inhabited α] [DecidableEq α] {l m:List α} (hl:l.length=m.length) {k:Unit->Option Bool} {kr:Bool->Option Bool}:thenR (forR (ρ:=Bool) (fun (i0:Int) (_:Unit)=>
 (AI l i0).bind fun x18=>
 (AI m i0).bind fun x22=>
 if (!decide (x18=x22))=true then
 some (.ret false)
 else
 some (.next ())) 0 (l.length:Int) ()) k kr=if l=m then k () else kr false:=by
 rw [B2 (fun i=>!decide (AA l i=AA m i)) false]
 ·have:=ac (fun x y:α=>decide (x=y)) (l:=l) (m:=m) (fun _ _ _ _=>decide_eq_true_iff) hl
  by_cases h:l=m
  ·rw [this.2 h,if_pos h]; rfl
  ·rw [if_neg h]
   cases hx:anyR (fun i=>!decide (AA l i=AA m i)) 0 l.length
   ·exact absurd (this.1 hx) h
   ·rfl
 ·intro i i1 i2 _
  rw [AG i1 i2,bs,AG i1 (by omega),bs,Ig]
theorem RE {α:Type} [Inhabited α] [DecidableEq α] (l m:List α):(if (!decide ((l.length:Int)=(m.length:Int)))=true then
 some false
 else
 thenR (forR (ρ:=Bool) (fun (i0:Int) (_:Unit)=>
 (AI l i0).bind fun x18=>
 (AI m i0).bind fun x22=>
 if (!decide (x18=x22))=true then
 some (.ret false)
 else
 some (.next ())) 0 (l.length:Int) ()) (fun _=>
 some true) (fun v0=>some v0))=some (decide (l=m)):=by
 by_cases hl:l.length=m.length
 ·rw [if_neg (by simp [hl]),Zh hl]
  by_cases h:l=m
  ·rw [if_pos h,decide_eq_true h]
  ·rw [if_neg h,decide_eq_false h]
 ·rw [if_pos (by simp; omega),decide_eq_false (fun e=>hl (by rw [e]))]
theorem SQ (l m:List Int):FP l m=some (decide (l=m)):=RE l m
theorem Z7 (l m:List Int):J1 l m=some (decide (l=m)):=RE l m
theorem RK (l m:List Int):He l m=some (decide (l=m)):=RE l m
theorem Z3 (a b:Morphism):JF a b=some (decide (a=b)):=by
 unfold JF
 rw [SQ,SQ]
 obtain ⟨a1,a2⟩:=a
 obtain ⟨b1,b2⟩:=b
 by_cases h:a1=b1 <;> by_cases h':a2=b2 <;> simp [h,h']
end Go.Sf.Sc
namespace Go.Sf.Sc
open Go Go.Sf
mutual
def HQ:AB->Nat
 | ⟨_,kids,_,_⟩=>1+MG kids
def MG:List AB->Nat
 | []=>0
 | k::l=>HQ k+MG l
end
mutual
def m8:AB->Nat
 | ⟨k,kids,_,_⟩=>(if k=5 then 1 else 0)+bh kids
def bh:List AB->Nat
 | []=>0
 | k::l=>max (m8 k) (bh l)
end
theorem Se (c:AB):HQ c=1+MG c.Kids:=by cases c; rfl
theorem Zg {l:List AB} {k:Int} (h0:0<=k) (h1:k<l.length):l.drop k.toNat=AA l k::l.drop (k+1).toNat:=by
 rw [show (k+1).toNat=k.toNat+1 by omega,List.drop_eq_getElem_cons (by omega)]
 unfold AA
 rw [List.getD_eq_getElem?_getD,List.getElem?_eq_getElem (by omega)]; rfl
theorem RU:∀ (N:Nat) (c:AB),SizeOf.sizeOf c<=N->(AK c).Sm->∀ most:Int,0<=most->most<=1000->∃ r,(∀ n,N<=n->FF n c most=some r)∧-1<=r∧r<=most - 1∧(0<=r->EI c∧(HQ c:Int)+r<=most)
 | 0,c,h,_,_,_,_=>by have:=E6 c; omega
 | N+1,c,h,hs,most,m0,m1=>by
  obtain ⟨hm,hkl,hk⟩:=Ze hs
  obtain ⟨b1,e1,f1⟩:=UL c.Pattern
  obtain ⟨b2,e2,f2⟩:=Zj hm
  have step:∀ n,N+1<=n->∃ m,n=m+1∧N<=m:=fun n hn=>⟨n - 1,by omega,by omega⟩
  cases b1
  ·refine ⟨-1,fun n hn=>?_,by omega,by omega,fun h=>by omega⟩
   obtain ⟨n,rfl,_⟩:=step n hn
   rw [FF,e1]; rfl
  cases b2
  ·refine ⟨-1,fun n hn=>?_,by omega,by omega,fun h=>by omega⟩
   obtain ⟨n,rfl,_⟩:=step n hn
   rw [FF,e1,bs,e2]; rfl
  have loop:∀ (m:Nat) (k left:Int),0<=k->k+m=c.Kids.length->-1<=left->left<=1000->∃ l' k',(∀ n,N<=n->LY (ρ:=Int) (fun (s0:Int × Int)=>
    if ((decide (s0.2<(c.Kids.length:Int)))&&(decide (0<=s0.1)))=true then
    (AI c.Kids s0.2).bind fun x32=>
    (FF n x32 s0.1).bind fun x35=>
    some (.next (x35,A1 (s0.2+1)))
    else
    some (.brk (s0.1,s0.2))) (left,k) (.inl (l',k')))∧-1<=l'∧l'<=left∧(0<=l'->(∀ j,k<=j->j<c.Kids.length->EI (AA c.Kids j))∧(MG (c.Kids.drop k.toNat):Int)+l'<=left):=by
   intro m
   induction m with
   | zero=>
    intro k left k0 kl l0 l1
    refine ⟨left,k,fun n hn=>.brk ?_,l0,by omega,fun _=>⟨fun j j1 j2=>by omega,?_⟩⟩
    ·rw [if_neg (by simp; omega)]
    ·rw [List.drop_of_length_le (by omega),MG]; omega
   | succ m ih=>
    intro k left k0 kl l0 l1
    by_cases hl:0<=left
    ·have hmem:=AO (l:=c.Kids) k0 (by omega)
     have:=GB hmem
     obtain ⟨r,r1,r2,r3,r4⟩:=RU N _ (by omega) (hk _ hmem) left hl l1
     obtain ⟨l',k',a1,a2,a3,a4⟩:=ih (k+1) r (by omega) (by omega) r2 (by omega)
     refine ⟨l',k',fun n hn=>.next (s':=(r,k+1)) ?_ (a1 n hn),a2,by omega,fun h0=>⟨fun j j1 j2=>?_,?_⟩⟩
     ·rw [if_pos (by simp; omega),AG k0 (by omega),bs,r1 n hn,bs,BG (by omega) (by omega)]
     ·by_cases hj:j=k
      ·subst hj; exact (r4 (by omega)).1
      ·exact (a4 h0).1 j (by omega) j2
     ·have e1:=(r4 (by omega)).2
      have e2:=(a4 h0).2
      rw [Zg k0 (by omega),MG]
      omega
    ·refine ⟨left,k,fun n hn=>.brk ?_,l0,by omega,fun h=>by omega⟩
     rw [if_neg (by simp; omega)]
  obtain ⟨l',k',a1,a2,a3,a4⟩:=loop c.Kids.length 0 (most - 1) (by omega) (by omega) (by omega) (by omega)
  refine ⟨l',fun n hn=>?_,a2,a3,fun h0=>⟨.mk c (f1 rfl) (f2 rfl) (fun k hk=>?_),?_⟩⟩
  ·obtain ⟨n,rfl,hn'⟩:=step n hn
   rw [FF,e1,bs,e2]
   simp only [bs,Bool.not_true,Bool.false_eq_true,if_false]
   rw [BG (n:=most - 1) (by omega) (by omega),(a1 n hn').eq,DT]
  ·obtain ⟨j,j1,j2,rfl⟩:=FE hk
   exact (a4 h0).1 j j1 j2
  ·have:=(a4 h0).2
   rw [show (0:Int).toNat=0 from rfl,List.drop_zero] at this
   rw [Se]
   omega
theorem Vz {c:AB} (hs:(AK c).Sm):∃ b,L9 c=some b∧(b=true->EI c∧HQ c<=40):=by
 obtain ⟨r,r1,_,_,r4⟩:=RU (SizeOf.sizeOf c) c (Nat.le_refl _) hs 40 (by omega) (by omega)
 have e:Ot c 40=some r:=EX (SizeOf.sizeOf c) r1
 unfold L9
 rw [e]
 exact ⟨_,rfl,fun h=>by have:=r4 (by simpa using h); exact ⟨this.1,by have:=this.2; simp at h; omega⟩⟩
theorem Sd:∀ {l:List AB} {k:AB},k∈l->HQ k<=MG l
 | x::l,k,h=>by
  rw [MG]
  rcases List.mem_cons.1 h with rfl | h
  ·omega
  ·have:=Sd h; omega
end Go.Sf.Sc
namespace Go.Sf.Sc
open Go Go.Sf
structure Kk (f:AJ):Prop where
 pn:f.partial_.Nodes.length=f.p.Nodes.length
 pe:f.partial_.Edges.length=f.p.Edges.length
 ends : ∀ e ∈ f.p.Edges, 0 ≤ e.From ∧ e.From < f.p.Nodes.length ∧ 0 ≤ e.To ∧ e.To < f.p.Nodes.length
 kinds:∀ n∈f.p.Nodes,0<=n∧n<f.is.length∧∀ t∈f.g.Nodes,0<=t∧t<(AA f.is n).length
 small:f.p.Nodes.length<=1000∧f.p.Edges.length<=1000∧f.g.Nodes.length<=1000∧f.g.Edges.length<=1000
def Jc (f:AJ) (i k:Int):Bool:=
 (decide (AA f.partial_.Edges i<0)||decide (AA f.partial_.Edges i=k))&&decide (AA f.g.Edges k=⟨(AA f.p.Edges i).Type',AA f.nodes (AA f.p.Edges i).From,AA f.nodes (AA f.p.Edges i).To⟩)
theorem V9 {α:Type} {l:List α} (h:l≠[]):S7 l=some ():=by
 unfold S7
 cases l with
 | nil=>exact absurd rfl h
 | cons _ _=>rfl
theorem Sw {l:List Int} {i:Int} (h0:0<=i) (h1:i<l.length):Hq l i=some (AA l i):=by
 unfold Hq
 rw [V9 (by intro h; subst h; simp at h1; omega),bs,AG h0 h1,bs]
theorem WJ {f:AJ} (hf:Kk f) {i k:Int} (i0:0<=i) (i1:i<f.p.Edges.length) (k0:0<=k) (k1:k<f.g.Edges.length) (hF:(AA f.p.Edges i).From<f.nodes.length) (hT:(AA f.p.Edges i).To<f.nodes.length):EE f i k=some (Jc f i k):=by
 have he:=hf.ends _ (AO i0 i1)
 unfold EE Jc
 rw [AG i0 i1,bs,Sw i0 (by rw [hf.pe]; exact i1),bs,AG k0 k1,bs,AG he.1 hF,bs,AG he.2.2.1 hT,bs]
 by_cases h1:AA f.partial_.Edges i<0
 ·rw [if_neg (by simp; omega)]; simp [h1]
 ·by_cases h2:AA f.partial_.Edges i=k
  ·rw [if_neg (by simp [h2])]; simp [h2]
  ·rw [if_pos (by simp [h2]; omega)]; simp [h1,h2]
def Lf (f:AJ):Bool:=!anyR (fun i=>decide (max (AA f.p.Edges i).From (AA f.p.Edges i).To=(f.nodes.length:Int) - 1)&&!anyR (fun k=>Jc f i k) 0 f.g.Edges.length) 0 f.p.Edges.length
theorem ZW {f:Int->Bool->Option (CE Bool Bool)} (p:Int->Bool) {b:Int} (h:∀ i,0<=i->i<b->f i false=some (if p i=true then .brk true else .next false)):forR f 0 b false=some (.inl (anyR p 0 b)):=by
 have key:∀ (m:Nat) (i:Int),0<=i->i+m=b->forGo f m i false=some (.inl (anyR p i b)):=by
  intro m
  induction m with
  | zero=>
   intro i i0 hi
   have:anyR p i b=false:=by rw [EB]; intro j j1 j2; omega
   rw [this]; rfl
  | succ m ih=>
   intro i i0 hi
   rw [GR,h i i0 (by omega)]
   by_cases hp:p i=true
   ·have:anyR p i b=true:=by rw [Hg]; exact ⟨i,Int.le_refl _,by omega,hp⟩
    rw [if_pos hp,this]
   ·have e:anyR p i b=anyR p (i+1) b:=by
     rw [Bool.eq_iff_iff,Hg,Hg]
     constructor
     ·rintro ⟨j,j1,j2,j3⟩
      have:j≠i:=fun e=>hp (e ▸ j3)
      exact ⟨j,by omega,j2,j3⟩
     ·rintro ⟨j,j1,j2,j3⟩
      exact ⟨j,by omega,j2,j3⟩
    rw [if_neg hp,e]
    exact ih (i+1) (by omega) (by omega)
 unfold forR
 by_cases hb:0<=b
 ·exact key _ 0 (Int.le_refl _) (by omega)
 ·have:anyR p 0 b=false:=by rw [EB]; intro j j1 j2; omega
  rw [this,show (b - 0).toNat=0 by omega]; rfl
theorem VL {f:AJ} (hf:Kk f) (hn:0<f.nodes.length) (hn2:f.nodes.length<=1000):CF f=some (Lf f):=by
 unfold CF Lf
 rw [B2 (fun i=>decide (max (AA f.p.Edges i).From (AA f.p.Edges i).To=(f.nodes.length:Int) - 1)&&!anyR (fun k=>Jc f i k) 0 f.g.Edges.length) false]
 ·generalize anyR (fun i=>decide (max (AA f.p.Edges i).From (AA f.p.Edges i).To=(f.nodes.length:Int) - 1)&&!anyR (fun k=>Jc f i k) 0 f.g.Edges.length) 0 f.p.Edges.length=b
  cases b <;> rfl
 ·intro i i0 i1 _
  rw [AG i0 i1,bs,BG (n:=(f.nodes.length:Int) - 1) (by omega) (by omega)]
  by_cases hm:max (AA f.p.Edges i).From (AA f.p.Edges i).To=(f.nodes.length:Int) - 1
  ·rw [if_neg (by simp [hm]),ZW (fun k=>Jc f i k) (fun k k0 k1=>by
    rw [WJ hf i0 i1 k0 k1 (by omega) (by omega),bs,Ig])]
   generalize anyR (fun k=>Jc f i k) 0 f.g.Edges.length=b
   rw [decide_eq_true hm]
   cases b <;> rfl
  ·rw [if_pos (by simp [hm]),if_neg (by simp [hm])]
def BS (n:Nat):List Int:=(List.range n).map Int.ofNat
theorem Pe (n:Nat):BS (n+1)=BS n++[(n:Int)]:=by
 unfold BS
 rw [List.range_succ,List.map_append]; rfl
def O8 (f:AJ) (k:Int):Bool:=(decide (AA f.partial_.Nodes f.nodes.length<0)||decide (AA f.partial_.Nodes f.nodes.length=k))&&AA (AA f.is (AA f.p.Nodes f.nodes.length)) (AA f.g.Nodes k)&&!(f.injective&&f.nodes.any fun x=>decide (k=x))
def O7 (f:AJ) (k:Int):Bool:=Jc f f.edges.length k&&!(f.injective&&f.edges.any fun x=>decide (k=x))
def FB:Nat->AJ->List Morphism
 | 0,f=>[⟨f.nodes,f.edges⟩]
 | n+1,f=>(BS f.g.Edges.length).flatMap fun k=>if O7 f k=true then FB n { f with edges:=f.edges++[k] } else []
def It:Nat->AJ->List Morphism
 | 0,f=>FB f.p.Edges.length f
 | n+1,f=>(BS f.g.Nodes.length).flatMap fun k=>if (O8 f k&&Lf { f with nodes:=f.nodes++[k] })=true then It n { f with nodes:=f.nodes++[k] } else []
theorem R6 {α:Type} (a b:List α) (m:Nat):((a.take m)++b).take m=(a++b).take m:=by
 by_cases h:a.length<=m
 ·rw [List.take_of_length_le h]
 ·rw [List.take_append_of_le_length (by simp; omega),List.take_append_of_le_length (by omega),List.take_take,Nat.min_self]
end Go.Sf.Sc
namespace Go.Sf.Sc
open Go Go.Sf
def Oj (f:AJ) (o:List Morphism):AJ:={ f with out:=o }
theorem Kk.out {f:AJ} (h:Kk f) (o:List Morphism):Kk (Oj f o):=⟨h.pn,h.pe,h.ends,h.kinds,h.small⟩
theorem Mp:∀ (n:Nat) (f:AJ) (o:List Morphism),FB n (Oj f o)=FB n f
 | 0,_,_=>rfl
 | n+1,f,o=>by
  rw [FB,FB]
  refine congrArg (fun F=>(BS f.g.Edges.length).flatMap F) (funext fun k=>?_)
  have:=Mp n { f with edges:=f.edges++[k] } o
  show (if O7 f k=true then FB n (Oj { f with edges:=f.edges++[k] } o) else [])=_
  rw [this]
theorem SW:∀ (n:Nat) (f:AJ) (o:List Morphism),It n (Oj f o)=It n f
 | 0,f,o=>Mp _ f o
 | n+1,f,o=>by
  rw [It,It]
  refine congrArg (fun F=>(BS f.g.Nodes.length).flatMap F) (funext fun k=>?_)
  have:=SW n { f with nodes:=f.nodes++[k] } o
  show (if (O8 f k&&Lf { f with nodes:=f.nodes++[k] })=true then It n (Oj { f with nodes:=f.nodes++[k] } o) else [])=_
  rw [this]
def BD (f:AJ) (l:List Morphism):AJ:=Oj f ((f.out++l).take f.most.toNat)
structure RB (f:AJ):Prop where
 m0:0<=f.most
 m1:f.most<=10000
 out:(f.out.length:Int)<=f.most
theorem Jg {f:AJ} (h:RB f):BD f []=f:=by
 unfold BD
 rw [List.append_nil,List.take_of_length_le (by have:=h.out; have:=h.m0; omega)]; rfl
theorem Rg {f:AJ} (h:(f.out.length:Int)=f.most) (l:List Morphism):BD f l=f:=by
 unfold BD
 rw [List.take_append_of_le_length (by omega),List.take_of_length_le (by omega)]; rfl
theorem Ri {f:AJ} (h:RB f) (l:List Morphism):RB (BD f l):=by
 refine ⟨h.m0,h.m1,?_⟩
 have:=h.m0
 show (((f.out++l).take f.most.toNat).length:Int)<=f.most
 rw [List.length_take]; omega
theorem Rh (f:AJ) (a b:List Morphism):BD (BD f a) b=BD f (a++b):=by
 show Oj f ((((f.out++a).take f.most.toNat)++b).take f.most.toNat)=_
 rw [R6,List.append_assoc]; rfl
theorem Qi:∀ (n:Nat) (f:AJ),Kk f->RB f->f.nodes.length=f.p.Nodes.length->f.edges.length+n=f.p.Edges.length->∀ m,n+1<=m->A2 m f=some (BD f (FB n f))
 | n,f,hf,hr,hn,he,m,hm=>by
  obtain ⟨m,rfl⟩:∃ k,m=k+1:=⟨m - 1,by omega⟩
  have hs:=hf.small
  have h0:=hr.m0
  have h1:=hr.m1
  have h2:=hr.out
  rw [A2]
  by_cases hfull:(f.out.length:Int)=f.most
  ·rw [if_pos (by simpa using hfull),Rg hfull]; rfl
  rw [if_neg (by simpa using hfull),if_neg (by simp; omega)]
  match n,he,hm with
  | 0,he,hm=>
   rw [if_neg (by simp; omega)]
   unfold slices_Clone_int
   rw [Hh (by unfold BZ; omega),bs,Hh (by unfold BZ; omega),bs,DG (by simp; unfold BZ; omega),bs,bs]
   unfold BD
   rw [List.take_of_length_le (by simp [FB]; omega)]; rfl
  | n+1,he,hm=>
   rw [if_pos (by simp; omega)]
   have F:∀ k,O7 f k=true->Kk { f with edges:=f.edges++[k] }:=fun k _=>⟨hf.pn,hf.pe,hf.ends,hf.kinds,hf.small⟩
   rw [Hb (a:=0) (s:=f) (fun i=>BD f ((BS i.toNat).flatMap fun k=>if O7 f k=true then FB n { f with edges:=f.edges++[k] } else [])) (by omega) (Jg hr)]
   ·rw [bs,bs,Int.toNat_natCast,FB]
   ·intro i i0 i1
    have hu:BS (i+1).toNat=BS i.toNat++[i]:=by
     rw [show (i+1).toNat=i.toNat+1 by omega,Pe]
     rw [show ((i.toNat:Nat):Int)=i by omega]
    have hg:∀ l,BD f ((BS (i+1).toNat).flatMap l)=BD (BD f ((BS i.toNat).flatMap l)) (l i):=by
     intro l
     rw [Rh,hu,List.flatMap_append]; simp
    rw [hg]
    generalize (BS i.toNat).flatMap (fun k=>if O7 f k=true then FB n { f with edges:=f.edges++[k] } else [])=L
    have hR:=Ri hr L
    have hf':Kk (BD f L):=hf.out _
    have hend:=hf.ends _ (AO (l:=f.p.Edges) (i:=(f.edges.length:Int)) (by omega) (by omega))
    rw [WJ hf' (i:=(f.edges.length:Int)) (k:=i) (by omega) (by show _<(f.p.Edges.length:Int); omega) i0 (by exact i1) (by show (AA f.p.Edges f.edges.length).From<(f.nodes.length:Int); omega) (by show (AA f.p.Edges f.edges.length).To<(f.nodes.length:Int); omega),bs]
    have hc:DE (BD f L).edges i=some (f.edges.any fun x=>decide (i=x)):=Sh f.edges i
    rw [hc]
    have hfit:Jc (BD f L) f.edges.length i=Jc f f.edges.length i:=rfl
    have key:((CO (BD f L).edges [i]).bind fun x193=>
      (A2 m (AJ.mk (BD f L).p (BD f L).g (BD f L).is (BD f L).partial_ (BD f L).injective (BD f L).most (BD f L).nodes x193 (BD f L).out)).bind fun x197=>
      (slc x197.edges 0 (f.edges.length:Int)).bind fun x204=>
      some (AJ.mk x197.p x197.g x197.is x197.partial_ x197.injective x197.most x197.nodes x204 x197.out))=some (BD (BD f L) (FB n { f with edges:=f.edges++[i] })):=by
     have e1:CO (BD f L).edges [i]=some (f.edges++[i]):=DG (by show f.edges.length+1<=BZ; unfold BZ; omega)
     have e2:=Qi n { BD f L with edges:=f.edges++[i] } ⟨hf.pn,hf.pe,hf.ends,hf.kinds,hf.small⟩ ⟨hR.m0,hR.m1,hR.out⟩ hn (by show (f.edges++[i]).length+n=f.p.Edges.length; simp; omega) m (by omega)
     have e3:FB n { BD f L with edges:=f.edges++[i] }=FB n { f with edges:=f.edges++[i] }:=Mp n { f with edges:=f.edges++[i] } _
     rw [e3] at e2
     rw [e1,bs]
     show (A2 m { BD f L with edges:=f.edges++[i] }).bind _=_
     rw [e2,bs]
     have e4:slc (BD { BD f L with edges:=f.edges++[i] } (FB n { f with edges:=f.edges++[i] })).edges 0 (f.edges.length:Int)=some f.edges:=by
      show slc (f.edges++[i]) 0 (f.edges.length:Int)=_
      rw [Li (by omega) (by rw [List.length_append]; omega),Int.toNat_natCast,List.take_left]
     rw [e4]; rfl
    rw [key,hfit]
    have hok:O7 f i=(Jc f f.edges.length i&&!(f.injective&&f.edges.any fun x=>decide (i=x))):=rfl
    have hinj:(BD f L).injective=f.injective:=rfl
    rw [hok,hinj]
    generalize hA:FB n { f with edges:=f.edges++[i] }=A
    cases Jc f f.edges.length i
    ·simp only [Bool.false_and,Bool.false_eq_true,if_false,Jg hR]; rfl
    ·cases f.injective
     ·rfl
     ·cases f.edges.any fun x=>decide (i=x)
      ·rfl
      ·simp only [Bool.and_self,Bool.not_true,Bool.and_false,Bool.false_eq_true,if_false,Jg hR]; rfl
end Go.Sf.Sc
namespace Go.Sf.Sc
open Go Go.Sf
theorem Qj:∀ (n:Nat) (f:AJ),Kk f->RB f->f.edges=[]->f.nodes.length+n=f.p.Nodes.length->∀ m,n+f.p.Edges.length+1<=m->A2 m f=some (BD f (It n f))
 | 0,f,hf,hr,he,hn,m,hm=>by
  rw [It]
  exact Qi _ f hf hr (by omega) (by rw [he]; simp) m (by omega)
 | n+1,f,hf,hr,he,hn,m,hm=>by
  obtain ⟨m,rfl⟩:∃ k,m=k+1:=⟨m - 1,by omega⟩
  have hs:=hf.small
  have h0:=hr.m0
  have h1:=hr.m1
  have h2:=hr.out
  rw [A2]
  by_cases hfull:(f.out.length:Int)=f.most
  ·rw [if_pos (by simpa using hfull),Rg hfull]; rfl
  rw [if_neg (by simpa using hfull),if_pos (by simp; omega)]
  rw [Hb (a:=0) (s:=f) (fun i=>BD f ((BS i.toNat).flatMap fun k=>if (O8 f k&&Lf { f with nodes:=f.nodes++[k] })=true then It n { f with nodes:=f.nodes++[k] } else [])) (by omega) (Jg hr)]
  ·rw [bs,bs,Int.toNat_natCast,It]
  ·intro i i0 i1
   have hu:BS (i+1).toNat=BS i.toNat++[i]:=by
    rw [show (i+1).toNat=i.toNat+1 by omega,Pe]
    rw [show ((i.toNat:Nat):Int)=i by omega]
   have hg:∀ l,BD f ((BS (i+1).toNat).flatMap l)=BD (BD f ((BS i.toNat).flatMap l)) (l i):=by
    intro l
    rw [Rh,hu,List.flatMap_append]; simp
   rw [hg]
   generalize (BS i.toNat).flatMap (fun k=>if (O8 f k&&Lf { f with nodes:=f.nodes++[k] })=true then It n { f with nodes:=f.nodes++[k] } else [])=L
   have hR:=Ri hr L
   have hpn:(f.nodes.length:Int)<(f.p.Nodes.length:Int):=by omega
   have hkd:=hf.kinds _ (AO (l:=f.p.Nodes) (i:=(f.nodes.length:Int)) (by omega) hpn)
   have hty:=hkd.2.2 _ (AO i0 i1)
   have key:((CO (BD f L).nodes [i]).bind fun x123=>
     (CF (AJ.mk (BD f L).p (BD f L).g (BD f L).is (BD f L).partial_ (BD f L).injective (BD f L).most x123 (BD f L).edges (BD f L).out)).bind fun x127=>
     if x127=true then
     (A2 m (AJ.mk (BD f L).p (BD f L).g (BD f L).is (BD f L).partial_ (BD f L).injective (BD f L).most x123 (BD f L).edges (BD f L).out)).bind fun x129=>
     (slc x129.nodes 0 (f.nodes.length:Int)).bind fun x136=>
     some (AJ.mk x129.p x129.g x129.is x129.partial_ x129.injective x129.most x136 x129.edges x129.out)
     else
     (slc x123 0 (f.nodes.length:Int)).bind fun x136=>
     some (AJ.mk (BD f L).p (BD f L).g (BD f L).is (BD f L).partial_ (BD f L).injective (BD f L).most x136 (BD f L).edges (BD f L).out))=some (BD (BD f L) (if Lf { f with nodes:=f.nodes++[i] }=true then It n { f with nodes:=f.nodes++[i] } else [])):=by
    have e1:CO (BD f L).nodes [i]=some (f.nodes++[i]):=DG (by show f.nodes.length+1<=BZ; unfold BZ; omega)
    have e0:slc (f.nodes++[i]) 0 (f.nodes.length:Int)=some f.nodes:=by
     rw [Li (by omega) (by rw [List.length_append]; omega),Int.toNat_natCast,List.take_left]
    have ep:CF { BD f L with nodes:=f.nodes++[i] }=some (Lf { f with nodes:=f.nodes++[i] }):=VL (f:={ BD f L with nodes:=f.nodes++[i] }) ⟨hf.pn,hf.pe,hf.ends,hf.kinds,hf.small⟩ (by show 0<(f.nodes++[i]).length; simp) (by show (f.nodes++[i]).length<=1000; rw [List.length_append]; simp; omega)
    have e2:=Qj n { BD f L with nodes:=f.nodes++[i] } ⟨hf.pn,hf.pe,hf.ends,hf.kinds,hf.small⟩ ⟨hR.m0,hR.m1,hR.out⟩ he (by show (f.nodes++[i]).length+n=f.p.Nodes.length; rw [List.length_append]; simp; omega) m (by show n+f.p.Edges.length+1<=m; omega)
    have e3:It n { BD f L with nodes:=f.nodes++[i] }=It n { f with nodes:=f.nodes++[i] }:=SW n { f with nodes:=f.nodes++[i] } _
    rw [e3] at e2
    rw [e1,bs]
    show (CF { BD f L with nodes:=f.nodes++[i] }).bind _=_
    rw [ep,bs]
    cases Lf { f with nodes:=f.nodes++[i] }
    ·rw [if_neg (by decide),if_neg (by decide),e0,Jg hR]; rfl
    ·rw [if_pos rfl,if_pos rfl]
     show (A2 m { BD f L with nodes:=f.nodes++[i] }).bind _=_
     rw [e2,bs]
     have e4:slc (BD { BD f L with nodes:=f.nodes++[i] } (It n { f with nodes:=f.nodes++[i] })).nodes 0 (f.nodes.length:Int)=some f.nodes:=e0
     rw [e4]; rfl
   have hw:Hq (BD f L).partial_.Nodes (f.nodes.length:Int)=some (AA f.partial_.Nodes f.nodes.length):=Sw (by omega) (by show (f.nodes.length:Int)<(f.partial_.Nodes.length:Int); rw [hf.pn]; exact hpn)
   have hp:AI (BD f L).p.Nodes (f.nodes.length:Int)=some (AA f.p.Nodes f.nodes.length):=AG (by omega) hpn
   have hi:AI (BD f L).is (AA f.p.Nodes f.nodes.length)=some (AA f.is (AA f.p.Nodes f.nodes.length)):=AG hkd.1 hkd.2.1
   have ht:AI (AA f.is (AA f.p.Nodes f.nodes.length)) (AA f.g.Nodes i)=some (AA (AA f.is (AA f.p.Nodes f.nodes.length)) (AA f.g.Nodes i)):=AG hty.1 hty.2
   have hc:DE (BD f L).nodes i=some (f.nodes.any fun x=>decide (i=x)):=Sh f.nodes i
   have hinj:(BD f L).injective=f.injective:=rfl
   have hok:O8 f i=((decide (AA f.partial_.Nodes f.nodes.length<0)||decide (AA f.partial_.Nodes f.nodes.length=i))&&AA (AA f.is (AA f.p.Nodes f.nodes.length)) (AA f.g.Nodes i)&&!(f.injective&&f.nodes.any fun x=>decide (i=x))):=rfl
   rw [AG i0 i1,bs,hw,bs,hp,bs,hi,bs,ht,bs,hc,key,hinj,hok]
   generalize AA (AA f.is (AA f.p.Nodes f.nodes.length)) (AA f.g.Nodes i)=c2
   have hb:(decide (0<=AA f.partial_.Nodes f.nodes.length)&&!decide (AA f.partial_.Nodes f.nodes.length=i))=!(decide (AA f.partial_.Nodes f.nodes.length<0)||decide (AA f.partial_.Nodes f.nodes.length=i)):=by
    rw [Bool.not_or]
    congr 1
    rw [←decide_not]
    exact decide_eq_decide.2 (by omega)
   rw [hb]
   generalize (decide (AA f.partial_.Nodes f.nodes.length<0)||decide (AA f.partial_.Nodes f.nodes.length=i))=c1
   generalize Lf { f with nodes:=f.nodes++[i] }=c5
   generalize It n { f with nodes:=f.nodes++[i] }=A
   cases c1
   ·simp only [Bool.false_and,Bool.false_eq_true,if_false,Jg hR]; rfl
   ·cases c2
    ·simp only [Bool.and_false,Bool.false_and,Bool.false_eq_true,if_false,Jg hR]; rfl
    ·cases f.injective
     ·rfl
     ·cases f.nodes.any fun x=>decide (i=x)
      ·rfl
      ·simp only [Bool.and_self,Bool.not_true,Bool.and_false,Bool.false_and,Bool.false_eq_true,if_false,Jg hR]; rfl
theorem cI {f:AJ} (hf:Kk f) (hr:RB f) (he:f.edges=[]) (hn:f.nodes=[]):FR f=some (BD f (It f.p.Nodes.length f)):=
 EX (f.p.Nodes.length+f.p.Edges.length+1) fun m hm=>Qj _ f hf hr he (by rw [hn]; simp) m hm
end Go.Sf.Sc
namespace Go.Sf.Sc
open Go Go.Sf
theorem EA (n:Nat):(BS n).length=n:=by simp [BS]
theorem I5 {n:Nat} {i:Int}:i∈BS n↔0<=i∧i<n:=by
 unfold BS
 rw [List.mem_map]
 constructor
 ·rintro ⟨k,hk,rfl⟩
  have:=List.mem_range.1 hk
  exact ⟨Int.natCast_nonneg k,Int.ofNat_lt.2 this⟩
 ·rintro ⟨h0,h1⟩
  exact ⟨i.toNat,List.mem_range.2 (by omega),by show ((i.toNat:Nat):Int)=i; omega⟩
theorem Lk {n:Nat} {α:Type} [Inhabited α] (F:Int->α) {i:Int} (h0:0<=i) (h1:i<n):AA ((BS n).map F) i=F i:=by
 unfold AA BS
 rw [List.map_map,List.getD_eq_getElem?_getD,List.getElem?_map,List.getElem?_range (by omega)]
 show F (Int.ofNat i.toNat)=F i
 congr 1
 show ((i.toNat:Nat):Int)=i
 omega
theorem J4 {i:Int} (h0:0<=i):BS (i+1).toNat=BS i.toNat++[i]:=by
 rw [show (i+1).toNat=i.toNat+1 by omega,Pe,show ((i.toNat:Nat):Int)=i by omega]
def JY (t:AD) (a:Int):List Bool:=(BS t.Nodes.length).map fun k=>Hw t k a
def I3 (t:AD):List (List Bool):=(BS t.Nodes.length).map (JY t)
theorem Zw {t:AD} (hf:BT t) (h:G1 t) (hv:(BA t).2=0) {a:Int} (a0:0<=a) (a1:a<t.Nodes.length):HZ t a=some ((BS t.Nodes.length).filter fun i=>Hw t i a,0):=by
 have hn:=h.nodes
 unfold HZ
 have hb:Hv t a=true:=by simp [Hv,a0,a1]
 rw [RJ hf,bs,if_neg (by simp [hv,hb])]
 rw [Hb (fun i=>(BS i.toNat).filter fun i=>Hw t i a) (by omega) (by rfl),bs,Int.toNat_natCast]
 intro i i0 i1
 rw [Xu h i0 i1,bs,J4 i0,List.filter_append]
 have hl:((BS i.toNat).filter fun i=>Hw t i a).length<=i.toNat:=by
  have:=List.length_filter_le (fun i=>Hw t i a) (BS i.toNat)
  rwa [EA] at this
 by_cases hi:Hw t i a=true
 ·rw [if_pos hi,DG (by simp; unfold BZ; omega),bs]
  simp [hi]
 ·rw [if_neg hi]
  simp [hi]
theorem ae {n:Nat} {l:List Int} (hl:∀ x∈l,0<=x∧x<n):forA (fun (i2:Int) (s2:List Bool)=>
  (AI l i2).bind fun x30=>
  (AI s2 x30).bind fun _=>
  some (CS s2 x30 true)) 0 (l.length:Int) (List.replicate n false)=some ((BS n).map fun k=>l.any fun x=>decide (x=k)):=by
 rw [Hb (fun j=>(BS n).map fun k=>(l.take j.toNat).any fun x=>decide (x=k)) (by omega) (by
  refine List.ext_getElem (by simp [EA]) (fun j j1 j2=>by simp))]
 ·rw [Int.toNat_natCast,List.take_length]
 ·intro j j0 j1
  have hx:=hl _ (AO j0 j1)
  rw [AG j0 j1,bs,AG hx.1 (by rw [List.length_map,EA]; exact hx.2),bs,Io j0 j1]
  congr 1
  unfold CS
  refine List.ext_getElem (by simp) (fun k k1 k2=>?_)
  have hk:k<n:=by simpa [EA] using k2
  rw [List.getElem_set]
  have e:(BS n)[k]'(by rw [EA]; exact hk)=(k:Int):=by simp [BS]
  simp only [List.getElem_map,e,List.any_append,List.any_cons,List.any_nil,Bool.or_false]
  by_cases hjk:(AA l j).toNat=k
  ·rw [if_pos hjk,decide_eq_true (show AA l j=(k:Int) by omega),Bool.or_true]
  ·rw [if_neg hjk,decide_eq_false (show ¬ AA l j=(k:Int) by omega),Bool.or_false]
theorem Yx {t:AD} (hf:BT t) (h:G1 t) (hv:(BA t).2=0):F9 t=some (I3 t):=by
 have hn:=h.nodes
 unfold F9
 rw [Hb (fun i=>(BS i.toNat).map (JY t)) (by omega) (by rfl),bs,Int.toNat_natCast]
 ·rfl
 ·intro i i0 i1
  have hm:KK (t.Nodes.length:Int) false=some (List.replicate t.Nodes.length false):=by
   unfold KK
   rw [if_pos (by omega),Int.toNat_natCast]
  rw [hm,bs,Zw hf h hv i0 i1,bs]
  have:=ae (n:=t.Nodes.length) (l:=(BS t.Nodes.length).filter fun k=>Hw t k i) (fun x hx=>I5.1 (List.mem_filter.1 hx).1)
  show (forA (fun (i2:Int) (s2:List Bool)=>
   (AI ((BS t.Nodes.length).filter fun k=>Hw t k i) i2).bind fun x30=>
   (AI s2 x30).bind fun _=>
   some (CS s2 x30 true)) 0 (((BS t.Nodes.length).filter fun k=>Hw t k i).length:Int) (List.replicate t.Nodes.length false)).bind _=_
  rw [this,bs,DG (by rw [List.length_map,EA]; simp; unfold BZ; omega),bs,J4 i0,List.map_append]
  congr 2
  simp only [List.map_cons,List.map_nil]
  congr 1
  unfold JY
  refine List.map_congr_left (fun k hk=>?_)
  have hk:=I5.1 hk
  rw [Bool.eq_iff_iff,List.any_eq_true]
  constructor
  ·rintro ⟨x,hx,e⟩
   rw [decide_eq_true_eq] at e
   subst e
   exact (List.mem_filter.1 hx).2
  ·intro hb
   exact ⟨k,List.mem_filter.2 ⟨I5.2 hk,hb⟩,by simp⟩
end Go.Sf.Sc
namespace Go.Sf.Sc
open Go Go.Sf
def G5:Nat->AJ->List Morphism
 | 0,f=>FB f.p.Edges.length f
 | n+1,f=>(BS f.g.Nodes.length).flatMap fun k=>if O8 f k=true then G5 n { f with nodes:=f.nodes++[k] } else []
def Ux (f:AJ) (i:Int):Prop:=0<=i∧i<f.p.Edges.length∧0<=(AA f.p.Edges i).From∧(AA f.p.Edges i).From<f.nodes.length∧0<=(AA f.p.Edges i).To∧(AA f.p.Edges i).To<f.nodes.length∧∀ k:Int,0<=k->k<f.g.Edges.length->Jc f i k=false
theorem QP (f:AJ) (i k:Int):Jc f i k=((decide (AA f.partial_.Edges i<0)||decide (AA f.partial_.Edges i=k))&&decide (AA f.g.Edges k=⟨(AA f.p.Edges i).Type',AA f.nodes (AA f.p.Edges i).From,AA f.nodes (AA f.p.Edges i).To⟩)):=rfl
theorem QX {α:Type} [Inhabited α] (l:List α) (x:α) {i:Int} (h0:0<=i) (h1:i<l.length):AA (l++[x]) i=AA l i:=by
 unfold AA
 rw [List.getD_eq_getElem?_getD,List.getD_eq_getElem?_getD,List.getElem?_append_left (by omega)]
theorem Vx:∀ (n:Nat) (f:AJ) (i:Int),Ux f i->(f.edges.length:Int)<=i->i<f.edges.length+n->FB n f=[]
 | 0,f,i,_,h1,h2=>by omega
 | n+1,f,i,hd,h1,h2=>by
  rw [FB]
  refine List.flatMap_eq_nil_iff.2 (fun k hk=>?_)
  have hk:=I5.1 hk
  by_cases he:(f.edges.length:Int)=i
  ·have:O7 f k=false:=by
    unfold O7
    rw [he,hd.2.2.2.2.2.2 k hk.1 hk.2]; rfl
   rw [if_neg (by rw [this]; decide)]
  ·split
   ·exact Vx n { f with edges:=f.edges++[k] } i hd (by show ((f.edges++[k]).length:Int)<=i; rw [List.length_append]; simp; omega) (by show i<((f.edges++[k]).length:Int)+n; rw [List.length_append]; simp; omega)
   ·rfl
theorem Si:∀ (n:Nat) (f:AJ) (i:Int),f.edges=[]->Ux f i->G5 n f=[]
 | 0,f,i,he,hd=>by
  rw [G5]
  exact Vx _ f i hd (by rw [he]; simpa using hd.1) (by rw [he]; simpa using hd.2.1)
 | n+1,f,i,he,hd=>by
  rw [G5]
  refine List.flatMap_eq_nil_iff.2 (fun k hk=>?_)
  split
  ·refine Si n { f with nodes:=f.nodes++[k] } i he ?_
   obtain ⟨d1,d2,d3,d4,d5,d6,d7⟩:=hd
   have hl:((f.nodes++[k]).length:Int)=f.nodes.length+1:=by rw [List.length_append]; simp
   refine ⟨d1,d2,d3,?_,d5,?_,fun j j0 j1=>?_⟩
   ·show (AA f.p.Edges i).From<((f.nodes++[k]).length:Int); omega
   ·show (AA f.p.Edges i).To<((f.nodes++[k]).length:Int); omega
   ·have:=d7 j j0 j1
    rw [QP] at this ⊢
    show ((decide (AA f.partial_.Edges i<0)||decide (AA f.partial_.Edges i=j))&&decide (AA f.g.Edges j=⟨(AA f.p.Edges i).Type',AA (f.nodes++[k]) (AA f.p.Edges i).From,AA (f.nodes++[k]) (AA f.p.Edges i).To⟩))=false
    rw [QX _ _ d3 d4,QX _ _ d5 d6]
    exact this
  ·rfl
theorem Xv {f:AJ} (hf:Kk f) (h:Lf f=false):∃ i,Ux f i:=by
 unfold Lf at h
 rw [Bool.not_eq_false',Hg] at h
 obtain ⟨i,i0,i1,h⟩:=h
 rw [Bool.and_eq_true,decide_eq_true_eq,Bool.not_eq_true',EB] at h
 have he:=hf.ends _ (AO i0 i1)
 exact ⟨i,i0,i1,he.1,by omega,he.2.2.1,by omega,h.2⟩
theorem Vs:∀ (n:Nat) (f:AJ),Kk f->f.edges=[]->It n f=G5 n f
 | 0,_,_,_=>rfl
 | n+1,f,hf,he=>by
  rw [It,G5]
  refine congrArg (fun F=>(BS f.g.Nodes.length).flatMap F) (funext fun k=>?_)
  have hf':Kk { f with nodes:=f.nodes++[k] }:=⟨hf.pn,hf.pe,hf.ends,hf.kinds,hf.small⟩
  cases O8 f k
  ·rfl
  ·cases hp:Lf { f with nodes:=f.nodes++[k] }
   ·obtain ⟨i,hd⟩:=Xv hf' hp
    rw [Si n { f with nodes:=f.nodes++[k] } i he hd]; rfl
   ·simp only [Bool.and_self,if_true]
    exact Vs n _ hf' he
end Go.Sf.Sc
namespace Go.Sf.Sc
open Go Go.Sf
theorem Tl {σ ρ:Type} {f:σ × Int->Option (CE (σ × Int) ρ)} (g:Int->σ) {a b:Int} {s:σ} (hab:a<=b) (hs:s=g a) (h:∀ i,a<=i->i<b->f (g i,i)=some (.next (g (i+1),i+1))) (hb:f (g b,b)=some (.brk (g b,b))):IT f (s,a)=some (.inl (g b,b)):=by
 subst hs
 have key:∀ (n:Nat) (i:Int),a<=i->i+n=b->LY f (g i,i) (.inl (g b,b)):=by
  intro n
  induction n with
  | zero=>
   intro i _ hi
   have:i=b:=by omega
   subst this
   exact .brk hb
  | succ n ih=>
   intro i h1 h2
   exact .next (h i h1 (by omega)) (ih (i+1) (by omega) (by omega))
 exact (key (b - a).toNat a (Int.le_refl _) (by omega)).eq
def FS (s:AQ) (nodes edges:List Int):AJ:=⟨s.p,s.g,I3 s.t,s.partial_,s.injective,s.most+1,nodes,edges,s.found⟩
def CT (s:AQ) (l:List Morphism):AQ:={ s with found:=(s.found++l).take (s.most+1).toNat }
structure QV (s:AQ):Prop where
 m0:0<=s.most
 m1:s.most<=9999
 out:(s.found.length:Int)<=s.most+1
theorem MA {s:AQ} (h:QV s):CT s []=s:=by
 unfold CT
 rw [List.append_nil,List.take_of_length_le (by have:=h.out; have:=h.m0; omega)]
theorem Q5 {s:AQ} (h:(s.found.length:Int)=s.most+1) (l:List Morphism):CT s l=s:=by
 unfold CT
 rw [List.take_append_of_le_length (by omega),List.take_of_length_le (by omega)]
theorem Q6 {s:AQ} (h:QV s) (l:List Morphism):QV (CT s l):=by
 refine ⟨h.m0,h.m1,?_⟩
 have:=h.m0
 show (((s.found++l).take (s.most+1).toNat).length:Int)<=s.most+1
 rw [List.length_take]; omega
theorem P6 (s:AQ) (a b:List Morphism):CT (CT s a) b=CT s (a++b):=by
 show ({ s with found:=(((s.found++a).take (s.most+1).toNat)++b).take (s.most+1).toNat }:AQ)=_
 rw [R6,List.append_assoc]; rfl
theorem WZ (s:AQ) {l:List Int} (hl:l.length<=1000) (n:Int):DN s l n=some (s.injective&&l.any fun x=>decide (n=x)):=by
 unfold DN
 cases s.injective
 ·rw [Px (fun _=>false) true (a:=0) (b:=0) (Int.le_refl _) (fun i i1 i2=>by omega) (by rw [if_neg (by simp)])]
  rfl
 ·rw [Px (fun i=>decide (AA l i=n)) true (a:=0) (b:=l.length) (by omega) (fun i i1 i2=>by
   rw [if_pos (by simp; exact i2),AG i1 i2,bs,BG (by omega) (by omega),Ig]) (by rw [if_neg (by simp)])]
  have e:anyR (fun i=>decide (AA l i=n)) 0 l.length=l.any fun x=>decide (n=x):=by
   rw [Bool.eq_iff_iff,Hg,List.any_eq_true]
   constructor
   ·rintro ⟨i,i0,i1,h⟩
    exact ⟨_,AO i0 i1,by simpa [eq_comm] using h⟩
   ·rintro ⟨x,hx,h⟩
    obtain ⟨i,i0,i1,rfl⟩:=FE hx
    exact ⟨i,i0,i1,by simpa [eq_comm] using h⟩
  rw [e,Bool.true_and]
  cases l.any fun x=>decide (n=x) <;> rfl
theorem Rz:∀ (n:Nat) (s:AQ) (nodes l:List Int),Kk (FS s [] [])->QV s->nodes.length=s.p.Nodes.length->l.length+n=s.p.Edges.length->∀ m,n+1<=m->CJ m s nodes l=some (CT s (FB n (FS s nodes l)))
 | n,s,nodes,l,hf,hr,hn,he,m,hm=>by
  obtain ⟨m,rfl⟩:∃ k,m=k+1:=⟨m - 1,by omega⟩
  have hs:=hf.small
  have s1:s.p.Nodes.length<=1000:=hs.1
  have s2:s.p.Edges.length<=1000:=hs.2.1
  have s3:s.g.Nodes.length<=1000:=hs.2.2.1
  have s4:s.g.Edges.length<=1000:=hs.2.2.2
  have h0:=hr.m0
  have h1:=hr.m1
  have h2:=hr.out
  rw [CJ]
  by_cases hfull:(s.found.length:Int)=s.most+1
  ·rw [if_pos (by simp; omega),Q5 hfull]
  rw [if_neg (by simp; omega)]
  match n,he,hm with
  | 0,he,hm=>
   rw [if_pos (by simp; omega),Hh (by unfold BZ; omega),bs,Hh (by unfold BZ; omega),bs,DG (by simp; unfold BZ; omega),bs]
   unfold CT
   rw [List.take_of_length_le (by simp [FB]; omega)]; rfl
  | n+1,he,hm=>
   have hi0:(0:Int)<=l.length:=by omega
   have hi1:(l.length:Int)<s.p.Edges.length:=by omega
   have hend:=hf.ends _ (AO (l:=s.p.Edges) hi0 hi1)
   have q1:(AA s.p.Edges l.length).From<nodes.length:=by rw [hn]; exact hend.2.1
   have q2:(AA s.p.Edges l.length).To<nodes.length:=by rw [hn]; exact hend.2.2.2
   have hpe:(l.length:Int)<s.partial_.Edges.length:=by
    have:s.partial_.Edges.length=s.p.Edges.length:=hf.pe
    omega
   rw [if_neg (by simp; omega),AG hi0 hi1,bs]
   rw [Tl (fun i=>CT s ((BS i.toNat).flatMap fun k=>if O7 (FS s nodes l) k=true then FB n (FS s nodes (l++[k])) else [])) (a:=0) (b:=(s.g.Edges.length:Int)) (s:=s) (by omega) (MA hr).symm (fun i i0 i1=>by
    have hg:∀ F,CT s ((BS (i+1).toNat).flatMap F)=CT (CT s ((BS i.toNat).flatMap F)) (F i):=by
     intro F
     rw [P6,J4 i0,List.flatMap_append]; simp
    rw [hg]
    generalize (BS i.toNat).flatMap (fun k=>if O7 (FS s nodes l) k=true then FB n (FS s nodes (l++[k])) else [])=L
    have hR:=Q6 hr L
    rw [if_pos (by rw [decide_eq_true_eq]; exact i1)]
    have g1:AI (CT s L).g.Edges i=some (AA s.g.Edges i):=AG i0 i1
    have g2:AI (CT s L).partial_.Edges (l.length:Int)=some (AA s.partial_.Edges l.length):=AG hi0 hpe
    have g3:DN (CT s L) l i=some (s.injective&&l.any fun x=>decide (i=x)):=WZ (CT s L) (by omega) i
    have key:((CO [] l).bind fun x130=>
      (CO x130 [i]).bind fun x133=>
      (CJ m (CT s L) nodes x133).bind fun x134=>
      some (.next (x134,A1 (i+1)):CE (AQ × Int) AQ))=some (.next (CT (CT s L) (FB n (FS s nodes (l++[i]))),i+1)):=by
     have e2:=Rz n (CT s L) nodes (l++[i]) ⟨hf.pn,hf.pe,hf.ends,hf.kinds,hf.small⟩ hR hn (by show (l++[i]).length+n=s.p.Edges.length; rw [List.length_append]; simp; omega) m (by omega)
     have e3:FB n (FS (CT s L) nodes (l++[i]))=FB n (FS s nodes (l++[i])):=Mp n (FS s nodes (l++[i])) _
     rw [e3] at e2
     rw [Hh (by unfold BZ; omega),bs,DG (by simp; unfold BZ; omega),bs,e2,bs,BG (by omega) (by omega)]
    rw [g1,bs,g2,bs,g3,key]
    simp only [bs]
    rw [AG hend.1 q1,AG hend.2.2.1 q2,BG (n:=i+1) (by omega) (by omega)]
    simp only [bs]
    have hok:O7 (FS s nodes l) i=(((decide (AA s.partial_.Edges l.length<0)||decide (AA s.partial_.Edges l.length=i))&&decide (AA s.g.Edges i=⟨(AA s.p.Edges l.length).Type',AA nodes (AA s.p.Edges l.length).From,AA nodes (AA s.p.Edges l.length).To⟩))&&!(s.injective&&l.any fun x=>decide (i=x))):=rfl
    have hE:decide (AA s.g.Edges i=⟨(AA s.p.Edges l.length).Type',AA nodes (AA s.p.Edges l.length).From,AA nodes (AA s.p.Edges l.length).To⟩)=(decide ((AA s.p.Edges l.length).Type'=(AA s.g.Edges i).Type')&&decide ((AA s.g.Edges i).From=AA nodes (AA s.p.Edges l.length).From)&&decide ((AA s.g.Edges i).To=AA nodes (AA s.p.Edges l.length).To)):=by
     rw [Bool.eq_iff_iff]
     simp only [Bool.and_eq_true,decide_eq_true_eq]
     generalize AA s.g.Edges i=x
     obtain ⟨x1,x2,x3⟩:=x
     simp only [CW.mk.injEq]
     constructor
     ·rintro ⟨a,b,c⟩; exact ⟨⟨a.symm,b⟩,c⟩
     ·rintro ⟨⟨a,b⟩,c⟩; exact ⟨a.symm,b,c⟩
    have hP:(decide (AA s.partial_.Edges l.length<0)||decide (AA s.partial_.Edges l.length=i))=!(decide (0<=AA s.partial_.Edges l.length)&&!decide (AA s.partial_.Edges l.length=i)):=by
     rw [Bool.not_and,Bool.not_not]
     congr 1
     rw [←decide_not]
     exact decide_eq_decide.2 (by omega)
    rw [hok,hE,hP]
    generalize FB n (FS s nodes (l++[i]))=A
    generalize decide (0<=AA s.partial_.Edges l.length)=c1
    generalize decide (AA s.partial_.Edges l.length=i)=c2
    generalize decide ((AA s.p.Edges l.length).Type'=(AA s.g.Edges i).Type')=c3
    generalize decide ((AA s.g.Edges i).From=AA nodes (AA s.p.Edges l.length).From)=c4
    generalize decide ((AA s.g.Edges i).To=AA nodes (AA s.p.Edges l.length).To)=c5
    generalize (s.injective&&l.any fun x=>decide (i=x))=c6
    cases c1 <;> cases c2 <;> cases c3 <;> cases c4 <;> cases c5 <;> cases c6 <;> first | rfl | (simp only [Bool.and_self,Bool.and_true,Bool.true_and,Bool.and_false,Bool.false_and,Bool.not_true,Bool.not_false,Bool.or_true,Bool.or_false,Bool.false_or,Bool.true_or,if_true,Bool.false_eq_true,if_false,MA hR,bs]; try rfl)) (by rw [if_neg (by simp [CT])]),DT,Int.toNat_natCast,FB]
   rfl
end Go.Sf.Sc
namespace Go.Sf.Sc
open Go Go.Sf
def NM (s:AQ) (l:List Int) (i k:Int):Bool:=decide (AA s.g.Edges k=⟨(AA s.p.Edges i).Type',AA l (AA s.p.Edges i).From,AA l (AA s.p.Edges i).To⟩)
def OV (s:AQ) (l:List Int) (i:Int):Bool:=(decide ((AA s.p.Edges i).From<l.length)&&decide ((AA s.p.Edges i).To<l.length))&&!(BS s.g.Edges.length).any (NM s l i)
theorem cV {s:AQ} {l:List Int} (hf:Kk (FS s [] [])):F4 s l=some (!anyR (OV s l) 0 s.p.Edges.length):=by
 unfold F4
 rw [B2 (OV s l) false]
 ·cases anyR (OV s l) 0 s.p.Edges.length <;> rfl
 ·intro i i0 i1 _
  have he:=hf.ends _ (AO (l:=s.p.Edges) i0 i1)
  rw [AG i0 i1,bs]
  unfold OV
  by_cases hF:(AA s.p.Edges i).From<l.length
  ·by_cases hT:(AA s.p.Edges i).To<l.length
   ·rw [if_neg (by simp; omega),Hb (fun k=>(BS k.toNat).any (NM s l i)) (by omega) (by rfl),bs,Int.toNat_natCast,decide_eq_true hF,decide_eq_true hT]
    ·cases (BS s.g.Edges.length).any (NM s l i) <;> rfl
    ·intro k k0 k1
     rw [AG k0 k1,bs,J4 k0,List.any_append]
     have hE:NM s l i k=(decide ((AA s.p.Edges i).Type'=(AA s.g.Edges k).Type')&&decide ((AA s.g.Edges k).From=AA l (AA s.p.Edges i).From)&&decide ((AA s.g.Edges k).To=AA l (AA s.p.Edges i).To)):=by
      unfold NM
      rw [Bool.eq_iff_iff]
      simp only [Bool.and_eq_true,decide_eq_true_eq]
      generalize AA s.g.Edges k=x
      obtain ⟨x1,x2,x3⟩:=x
      simp only [CW.mk.injEq]
      constructor
      ·rintro ⟨a,b,c⟩; exact ⟨⟨a.symm,b⟩,c⟩
      ·rintro ⟨⟨a,b⟩,c⟩; exact ⟨a.symm,b,c⟩
     rw [AG he.1 hF,AG he.2.2.1 hT]
     simp only [List.any_cons,List.any_nil,Bool.or_false,bs]
     rw [hE]
     generalize (BS k.toNat).any (NM s l i)=c1
     generalize decide ((AA s.p.Edges i).Type'=(AA s.g.Edges k).Type')=c3
     generalize decide ((AA s.g.Edges k).From=AA l (AA s.p.Edges i).From)=c4
     generalize decide ((AA s.g.Edges k).To=AA l (AA s.p.Edges i).To)=c5
     cases c1 <;> cases c3 <;> cases c4 <;> cases c5 <;> rfl
   ·rw [if_pos (by simp; omega),decide_eq_false hT]; simp
  ·rw [if_pos (by simp; omega),decide_eq_false hF]; simp
theorem cR {s:AQ} {l:List Int} (hf:Kk (FS s [] [])) (h:anyR (OV s l) 0 s.p.Edges.length=true):∃ i,Ux (FS s l []) i:=by
 rw [Hg] at h
 obtain ⟨i,i0,i1,h⟩:=h
 unfold OV at h
 rw [Bool.and_eq_true,Bool.and_eq_true,decide_eq_true_eq,decide_eq_true_eq,Bool.not_eq_true',List.any_eq_false] at h
 have he:=hf.ends _ (AO (l:=s.p.Edges) i0 i1)
 refine ⟨i,i0,i1,he.1,h.1.1,he.2.2.1,h.1.2,fun k k0 k1=>?_⟩
 have:=h.2 k (I5.2 ⟨k0,k1⟩)
 have e:NM s l i k=false:=by rw [←Bool.not_eq_true]; exact this
 rw [QP]
 show ((decide (AA s.partial_.Edges i<0)||decide (AA s.partial_.Edges i=k))&&NM s l i k)=false
 rw [e,Bool.and_false]
end Go.Sf.Sc
namespace Go.Sf.Sc
open Go Go.Sf
theorem SX:∀ (n:Nat) (f:AJ) (o:List Morphism),G5 n (Oj f o)=G5 n f
 | 0,f,o=>Mp _ f o
 | n+1,f,o=>by
  rw [G5,G5]
  refine congrArg (fun F=>(BS f.g.Nodes.length).flatMap F) (funext fun k=>?_)
  have:=SX n { f with nodes:=f.nodes++[k] } o
  show (if O8 f k=true then G5 n (Oj { f with nodes:=f.nodes++[k] } o) else [])=_
  rw [this]
theorem R0:∀ (n:Nat) (s:AQ) (l:List Int),G1 s.t->Kk (FS s [] [])->QV s->l.length+n=s.p.Nodes.length->∀ m,n+1<=m->CL m s l=some (CT s (G5 n (FS s l [])))
 | n,s,l,ht,hf,hr,hl,m,hm=>by
  obtain ⟨m,rfl⟩:∃ k,m=k+1:=⟨m - 1,by omega⟩
  have hs:=hf.small
  have s1:s.p.Nodes.length<=1000:=hs.1
  have s3:s.g.Nodes.length<=1000:=hs.2.2.1
  have h0:=hr.m0
  have h1:=hr.m1
  have h2:=hr.out
  rw [CL]
  by_cases hfull:(s.found.length:Int)=s.most+1
  ·rw [if_pos (by simp; omega),Q5 hfull]; rfl
  rw [if_neg (by simp; omega),cV hf]
  cases hd:anyR (OV s l) 0 s.p.Edges.length
  case true=>
   obtain ⟨i,hi⟩:=cR hf hd
   rw [Si n (FS s l []) i rfl hi,MA hr]; rfl
  simp only [bs,Bool.not_false,Bool.not_true,Bool.false_eq_true,if_false]
  match n,hl,hm with
  | 0,hl,hm=>
   rw [if_pos (by simp; omega),Option.bind_fun_some,G5]
   exact EX (s.p.Edges.length+1) fun m hm=>Rz s.p.Edges.length s l [] hf hr (by omega) (by simp) m (by omega)
  | n+1,hl,hm=>
   have hpn:(l.length:Int)<s.p.Nodes.length:=by omega
   have hi0:(0:Int)<=l.length:=by omega
   have hpp:(l.length:Int)<s.partial_.Nodes.length:=by
    have:s.partial_.Nodes.length=s.p.Nodes.length:=hf.pn
    omega
   have tl:(I3 s.t).length=s.t.Nodes.length:=by unfold I3; rw [List.length_map,EA]
   have hkd:=hf.kinds _ (AO (l:=s.p.Nodes) hi0 hpn)
   have hk1:AA s.p.Nodes l.length<s.t.Nodes.length:=by rw [←tl]; exact hkd.2.1
   have hrow:AA (I3 s.t) (AA s.p.Nodes l.length)=JY s.t (AA s.p.Nodes l.length):=Lk (JY s.t) hkd.1 hk1
   rw [if_neg (by simp; omega)]
   rw [Tl (fun i=>CT s ((BS i.toNat).flatMap fun k=>if O8 (FS s l []) k=true then G5 n (FS s (l++[k]) []) else [])) (a:=0) (b:=(s.g.Nodes.length:Int)) (s:=s) (by omega) (MA hr).symm (fun i i0 i1=>by
    have hg:∀ F,CT s ((BS (i+1).toNat).flatMap F)=CT (CT s ((BS i.toNat).flatMap F)) (F i):=by
     intro F
     rw [P6,J4 i0,List.flatMap_append]; simp
    rw [hg]
    generalize (BS i.toNat).flatMap (fun k=>if O8 (FS s l []) k=true then G5 n (FS s (l++[k]) []) else [])=L
    have hR:=Q6 hr L
    rw [if_pos (by rw [decide_eq_true_eq]; exact i1)]
    have hty:=hkd.2.2 _ (AO (l:=s.g.Nodes) i0 i1)
    have ht1:AA s.g.Nodes i<s.t.Nodes.length:=by
     have h:=hty.2
     have e:AA (FS s [] []).is (AA s.p.Nodes l.length)=JY s.t (AA s.p.Nodes l.length):=hrow
     rw [e] at h
     unfold JY at h
     rwa [List.length_map,EA] at h
    have hbl:Hl (CT s L).t (AA s.g.Nodes i) (AA s.p.Nodes l.length)=some (Hw s.t (AA s.g.Nodes i) (AA s.p.Nodes l.length)):=Pt ht hty.1 ht1 hkd.1
    have g1:AI (CT s L).g.Nodes i=some (AA s.g.Nodes i):=AG i0 i1
    have g2:AI (CT s L).partial_.Nodes (l.length:Int)=some (AA s.partial_.Nodes l.length):=AG hi0 hpp
    have g3:DN (CT s L) l i=some (s.injective&&l.any fun x=>decide (i=x)):=WZ (CT s L) (by omega) i
    have g4:AI (CT s L).p.Nodes (l.length:Int)=some (AA s.p.Nodes l.length):=AG hi0 hpn
    have key:((CO [] l).bind fun x99=>
      (CO x99 [i]).bind fun x102=>
      (CL m (CT s L) x102).bind fun x103=>
      some (.next (x103,A1 (i+1)):CE (AQ × Int) AQ))=some (.next (CT (CT s L) (G5 n (FS s (l++[i]) [])),i+1)):=by
     have e2:=R0 n (CT s L) (l++[i]) ht ⟨hf.pn,hf.pe,hf.ends,hf.kinds,hf.small⟩ hR (by show (l++[i]).length+n=s.p.Nodes.length; rw [List.length_append]; simp; omega) m (by omega)
     have e3:G5 n (FS (CT s L) (l++[i]) [])=G5 n (FS s (l++[i]) []):=SX n (FS s (l++[i]) []) _
     rw [e3] at e2
     rw [Hh (by unfold BZ; omega),bs,DG (by simp; unfold BZ; omega),bs,e2,bs,BG (by omega) (by omega)]
    rw [g2,bs,g3,g1,g4,key]
    simp only [bs]
    rw [hbl,BG (n:=i+1) (by omega) (by omega)]
    simp only [bs]
    have hok:O8 (FS s l []) i=((decide (AA s.partial_.Nodes l.length<0)||decide (AA s.partial_.Nodes l.length=i))&&AA (AA (I3 s.t) (AA s.p.Nodes l.length)) (AA s.g.Nodes i)&&!(s.injective&&l.any fun x=>decide (i=x))):=rfl
    have hB:AA (AA (I3 s.t) (AA s.p.Nodes l.length)) (AA s.g.Nodes i)=Hw s.t (AA s.g.Nodes i) (AA s.p.Nodes l.length):=by
     rw [hrow]
     exact Lk (fun k=>Hw s.t k (AA s.p.Nodes l.length)) hty.1 ht1
    have hP:(decide (AA s.partial_.Nodes l.length<0)||decide (AA s.partial_.Nodes l.length=i))=!(decide (0<=AA s.partial_.Nodes l.length)&&!decide (AA s.partial_.Nodes l.length=i)):=by
     rw [Bool.not_and,Bool.not_not]
     congr 1
     rw [←decide_not]
     exact decide_eq_decide.2 (by omega)
    rw [hok,hB,hP]
    generalize G5 n (FS s (l++[i]) [])=A
    generalize decide (0<=AA s.partial_.Nodes l.length)=c1
    generalize decide (AA s.partial_.Nodes l.length=i)=c2
    generalize Hw s.t (AA s.g.Nodes i) (AA s.p.Nodes l.length)=c3
    generalize (s.injective&&l.any fun x=>decide (i=x))=c6
    cases c1 <;> cases c2 <;> cases c3 <;> cases c6 <;> first | rfl | (simp only [Bool.and_self,Bool.and_true,Bool.true_and,Bool.and_false,Bool.false_and,Bool.not_true,Bool.not_false,Bool.or_true,Bool.or_false,if_true,Bool.false_eq_true,if_false,MA hR,bs]; try rfl)) (by rw [if_neg (by simp [CT])]),DT,Int.toNat_natCast,G5]
   rfl
end Go.Sf.Sc
namespace Go.Sf.Sc
open Go Go.Sf
def L4 (t:AD) (p g:Graph) (pa:Morphism) (inj:Bool):List Morphism:=(G5 p.Nodes.length (FS ⟨t,p,g,pa,inj,5000,[]⟩ [] [])).take 5001
theorem Z0 {t:AD} {p g:Graph} {pa:Morphism} {inj:Bool} (ht:BT t) (hv:(BA t).2=0) (hF:Kk (FS ⟨t,p,g,pa,inj,5000,[]⟩ [] [])):Gy t p g pa inj 5001=some (L4 t p g pa inj):=by
 unfold Gy
 rw [Yx ht (GF hv) hv,bs]
 have h:=cI (f:=FS ⟨t,p,g,pa,inj,5000,[]⟩ [] []) hF ⟨by show (0:Int)<=5000+1; omega,by show (5000:Int)+1<=10000; omega,by show ((0:Nat):Int)<=5000+1; omega⟩ rfl rfl
 rw [Vs _ _ hF rfl] at h
 have e:AJ.mk p g (I3 t) pa inj 5001 [] [] []=FS ⟨t,p,g,pa,inj,5000,[]⟩ [] []:=rfl
 rw [e,h]; rfl
theorem jM {t:AD} {p g:Graph} {pa:Morphism} {inj:Bool} (hv:(BA t).2=0) (hF:Kk (FS ⟨t,p,g,pa,inj,5000,[]⟩ [] [])):L8 t p g pa inj 5000=some (L4 t p g pa inj):=by
 unfold L8
 have h:Ia ⟨t,p,g,pa,inj,5000,[]⟩ []=some (CT ⟨t,p,g,pa,inj,5000,[]⟩ (G5 p.Nodes.length (FS ⟨t,p,g,pa,inj,5000,[]⟩ [] []))):=
  EX (p.Nodes.length+1) fun m hm=>R0 p.Nodes.length ⟨t,p,g,pa,inj,5000,[]⟩ [] (GF hv) hF ⟨by show (0:Int)<=5000; omega,by show (5000:Int)<=9999; omega,by show ((0:Nat):Int)<=5000+1; omega⟩ (by show 0+p.Nodes.length=p.Nodes.length; omega) m hm
 rw [h]; rfl
end Go.Sf.Sc
namespace Go.Sf.Sc
open Go Go.Sf
def N3 (n k:Int):Bool:=decide (k < -1)||decide (n<=k)
def NG (l:List Int) (n:Int):Int:=if l.any (N3 n)=true then 6 else 0
theorem WH (l:List Int) (n:Int):GW l n=some (NG l n):=by
 unfold GW NG
 rw [show (fun y0=>Kf y0 n)=(fun y0=>some (N3 n y0)) from rfl,Sb (p:=N3 n) (fun a _=>rfl),bs]
 cases l.any (N3 n) <;> rfl
theorem TQ {l:List Int} {c:Int} (n:Int) (h:(l.length:Int)=c):Ij l c n=some (NG l n):=by
 unfold Ij NG
 rw [if_neg (by simp [h]),B2 (fun i=>N3 n (AA l i)) 6]
 ·have e:anyR (fun i=>N3 n (AA l i)) 0 l.length=l.any (N3 n):=by
   rw [Bool.eq_iff_iff,Hg,List.any_eq_true]
   constructor
   ·rintro ⟨i,i0,i1,h⟩
    exact ⟨_,AO i0 i1,h⟩
   ·rintro ⟨x,hx,h⟩
    obtain ⟨i,i0,i1,rfl⟩:=FE hx
    exact ⟨i,i0,i1,h⟩
  rw [e]
  cases l.any (N3 n) <;> rfl
 ·intro i i0 i1 _
  rw [AG i0 i1,bs,bs]
  unfold N3
  cases decide (AA l i < -1) <;> cases decide (n<=AA l i) <;> rfl
end Go.Sf.Sc
namespace Go.Sf.Sc
open Go Go.Sf
theorem TJ (t:AD) (g:Graph):FM t g=some (FG t g):=by
 unfold FM FG
 rw [show (fun y0=>Ja y0 t)=(fun y0=>some (decide ((t.Nodes.length:Int)<=y0))) from rfl,Sb (p:=fun n=>decide ((t.Nodes.length:Int)<=n)) (fun a _=>rfl),bs,
  show (fun y0=>Jb y0 t)=(fun y0=>some (decide ((t.Edges.length:Int)<=y0.Type'))) from rfl,UG (p:=fun e=>decide ((t.Edges.length:Int)<=e.Type')) (fun a _=>rfl),bs]
 cases g.Nodes.any fun n=>decide ((t.Nodes.length:Int)<=n) <;> rfl
def HF (t:AD) (p g:Graph):Int:=if (BA t).2≠0 then (BA t).2 else if C5 p≠0 then C5 p else if C5 g≠0 then C5 g else if (FG t p&&FG t g)=true then 0 else 13
theorem Ua {t:AD} (hf:BT t) (p g:Graph):GA t p g=some (HF t p g):=by
 unfold GA HF
 rw [Pp hf,bs]
 refine HC fun _=>?_
 have h0:forR (ρ:=Int) (fun (i0:Int) (_:Unit)=>
   (AI [p,g] i0).bind fun x26=>
   (D3 x26).bind fun x29=>
   if (!decide (x29=0))=true then
   some (.ret x29)
   else
   some (.next ())) 0 ([p,g].length:Int) ()=some (if C5 p≠0 then .inr (C5 p) else if C5 g≠0 then .inr (C5 g) else .inl ()):=by
  show forGo _ 2 0 ()=_
  rw [GR,show AI [p,g] 0=some p from rfl,bs,Mg,bs]
  by_cases hp:C5 p=0
  ·rw [if_neg (by simp [hp]),if_neg (by simp [hp])]
   show forGo _ 1 (0+1) ()=_
   rw [GR,show AI [p,g] (0+1)=some g from rfl,bs,Mg,bs]
   by_cases hg:C5 g=0
   ·rw [if_neg (by simp [hg]),if_neg (by simp [hg])]; rfl
   ·rw [if_pos (by simp [hg]),if_pos hg]
  ·rw [if_pos (by simp [hp]),if_pos hp]
 rw [h0]
 by_cases hp:C5 p=0
 ·by_cases hg:C5 g=0
  ·simp only [hp,hg,ne_eq,not_true_eq_false,if_false,DT]
   rw [TJ,TJ,bs]
   cases FG t p <;> cases FG t g <;> rfl
  ·simp only [hp,hg,ne_eq,not_true_eq_false,not_false_eq_true,if_false,if_true,R7]
 ·simp only [hp,ne_eq,not_false_eq_true,if_true,R7]
theorem QM {t:AD} (hf:BT t) (p g:Graph):IN t p g=some (HF t p g):=by
 unfold IN HF
 rw [Ps hf,bs]
 refine HC fun _=>?_
 rw [Mi,bs]
 refine HC fun hp=>?_
 rw [Mi,bs]
 refine HC fun hg=>?_
 rw [RL (FA hp),bs,RL (FA hg)]
 cases FG t p <;> cases FG t g <;> rfl
end Go.Sf.Sc
namespace Go.Sf.Sc
open Go Go.Sf
theorem So {t:AD} {p g:Graph} {pa:Morphism} {inj:Bool} (h:HF t p g=0) (h1:pa.Nodes.length=p.Nodes.length) (h2:pa.Edges.length=p.Edges.length):(BA t).2=0∧Kk (FS ⟨t,p,g,pa,inj,5000,[]⟩ [] []):=by
 unfold HF at h
 by_cases hv:(BA t).2=0
 ·rw [if_neg (by simp [hv])] at h
  by_cases hp:C5 p=0
  ·rw [if_neg (by simp [hp])] at h
   by_cases hg:C5 g=0
   ·rw [if_neg (by simp [hg])] at h
    by_cases hty:(FG t p&&FG t g)=true
    ·rw [Bool.and_eq_true] at hty
     have op:=FA hp
     have og:=FA hg
     have tp:=Lj op hty.1
     have tg:=Lj og hty.2
     have tl:(I3 t).length=t.Nodes.length:=by unfold I3; rw [List.length_map,EA]
     refine ⟨hv,h1,h2,fun e he=>?_,fun n hn=>?_,Nat.le_trans op.nodes (by omega),Nat.le_trans op.edges (by omega),Nat.le_trans og.nodes (by omega),Nat.le_trans og.edges (by omega)⟩
     ·have:=op.fit e he
      exact ⟨this.2.1.1,this.2.1.2,this.2.2.1,this.2.2.2⟩
     ·have:=tp.1 n hn
      refine ⟨this.1,by show n<((I3 t).length:Int); rw [tl]; exact this.2,fun k hk=>?_⟩
      have hk:=tg.1 k hk
      refine ⟨hk.1,?_⟩
      show k<((AA (I3 t) n).length:Int)
      unfold I3
      rw [Lk (JY t) this.1 this.2]
      unfold JY
      rw [List.length_map,EA]; exact hk.2
    ·rw [if_neg hty] at h; cases h
   ·rw [if_pos (by simp [hg])] at h; exact absurd h hg
  ·rw [if_pos (by simp [hp])] at h; exact absurd h hp
 ·rw [if_pos (by simp [hv])] at h; exact absurd h hv
def OX (t:AD) (p g:Graph) (pa:Morphism) (inj:Bool):List Morphism × Int:=
 if HF t p g≠0 then ([],HF t p g) else if ¬ (pa.Nodes.length=p.Nodes.length∧pa.Edges.length=p.Edges.length) then ([],20) else
 if NG pa.Nodes g.Nodes.length≠0 then ([],NG pa.Nodes g.Nodes.length) else if NG pa.Edges g.Edges.length≠0 then ([],NG pa.Edges g.Edges.length) else
 if 5000<(L4 t p g pa inj).length then ([],3) else (L4 t p g pa inj,0)
theorem Xt {t:AD} (hf:BT t) (p g:Graph) (pa:Morphism) (inj:Bool):GJ t p g pa inj=some (OX t p g pa inj):=by
 unfold GJ OX
 rw [Ua hf,bs]
 refine JW fun h0=>?_
 refine Nc (by simp only [Bool.or_eq_true,Bool.not_eq_true',decide_eq_false_iff_not]; omega) fun h1=>?_
 have h1:=Classical.not_not.1 h1
 rw [WH,bs]
 refine JW fun h2=>?_
 rw [WH,bs]
 refine JW fun h3=>?_
 obtain ⟨hv,hF⟩:=So (inj:=inj) h0 h1.1 h1.2
 unfold I2
 rw [Z0 hf hv hF,bs]
 by_cases h4:5000<(L4 t p g pa inj).length
 ·rw [if_pos (by rw [decide_eq_true_eq]; omega),if_pos h4]; rfl
 ·rw [if_neg (by rw [decide_eq_true_eq]; omega),if_neg h4]; rfl
theorem Xy {t:AD} (hf:BT t) (p g:Graph) (pa:Morphism) (inj:Bool):Jp t p g pa inj=some (OX t p g pa inj):=by
 unfold Jp OX
 rw [QM hf,bs]
 refine JW fun h0=>?_
 refine Nc (by simp only [Bool.or_eq_true,Bool.not_eq_true',decide_eq_false_iff_not]; omega) fun h1=>?_
 have h1:=Classical.not_not.1 h1
 rw [TQ _ (by omega),bs]
 refine JW fun h2=>?_
 rw [TQ _ (by omega),bs]
 refine JW fun h3=>?_
 obtain ⟨hv,hF⟩:=So (inj:=inj) h0 h1.1 h1.2
 rw [jM hv hF,bs]
 by_cases h4:5000<(L4 t p g pa inj).length
 ·rw [if_pos (by rw [decide_eq_true_eq]; omega),if_pos h4]
 ·rw [if_neg (by rw [decide_eq_true_eq]; omega),if_neg h4]
end Go.Sf.Sc
