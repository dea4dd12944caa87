/- Plain lemmas: what the functions of the program and of the reference compute. -/
import Derived.Test.YtmaobfbhdkafkaaGreatP1
import Derived.Test.YtmaobfbhdkafkaaGreatEvA
set_option maxRecDepth 100000
namespace Go.Sf.Sc
open Go Go.Sf
theorem Z4 {t:AD} (hf:BU t) (p:Pattern) {c:AB} (hc:EL c):DW t p c=some (K8 t p c):=by
 by_cases ht:(BA t).2=0
 ·exact cG hf ht p hc
 ·unfold DW K8
  rw [SJ hf,bs]
  refine HC fun h=>?_
  exfalso
  unfold I3 at h
  rw [if_pos ht] at h
  exact ht h
end Go.Sf.Sc
namespace Go.Sf.Sc
open Go Go.Sf
theorem ag {α:Type} [Inhabited α] (b:α->α->Bool) {l m:List α} (hb:∀ x∈l,∀ y∈m,(b x y=true↔x=y)) (hl:l.length=m.length):anyR (fun i=>!b (AA l i) (AA m i)) 0 l.length=false↔l=m:=by
 rw [FE]
 constructor
 ·intro h
  refine bZ hl (fun i i1 i2=>?_)
  have:=h i i1 i2
  rw [Bool.not_eq_false'] at this
  exact (hb _ (AT i1 i2) _ (AT i1 (by omega))).1 this
 ·rintro rfl i i1 i2
  rw [Bool.not_eq_false']
  exact (hb _ (AT i1 i2) _ (AT i1 i2)).2 rfl
theorem Zm {α:Type} [Inhabited α] [DecidableEq α] {l m:List α} (hl:l.length=m.length) {k:Unit->Option Bool} {kr:Bool->Option Bool}:thenR (forR (ρ:=Bool) (fun (i0:Int) (_:Unit)=>
 (AH l i0).bind fun x18=>
 (AH m i0).bind fun x22=>
 if (!decide (x18=x22))=true then
 some (.ret false)
 else
 some (.next ())) 0 (l.length:Int) ()) k kr=if l=m then k () else kr false:=by
 rw [B8 (fun i=>!decide (AA l i=AA m i)) false]
 ·have:=ag (fun x y:α=>decide (x=y)) (l:=l) (m:=m) (fun _ _ _ _=>decide_eq_true_iff) hl
  by_cases h:l=m
  ·rw [this.2 h,if_pos h]; rfl
  ·rw [if_neg h]
   cases hx:anyR (fun i=>!decide (AA l i=AA m i)) 0 l.length
   ·exact absurd (this.1 hx) h
   ·rfl
 ·intro i i1 i2 _
  rw [AG i1 i2,bs,AG i1 (by omega),bs,Iz]
theorem UK {α:Type} [Inhabited α] [DecidableEq α] (l m:List α):(if (!decide ((l.length:Int)=(m.length:Int)))=true then
 some false
 else
 thenR (forR (ρ:=Bool) (fun (i0:Int) (_:Unit)=>
 (AH l i0).bind fun x18=>
 (AH m i0).bind fun x22=>
 if (!decide (x18=x22))=true then
 some (.ret false)
 else
 some (.next ())) 0 (l.length:Int) ()) (fun _=>
 some true) (fun v0=>some v0))=some (decide (l=m)):=by
 by_cases hl:l.length=m.length
 ·rw [if_neg (by simp [hl]),Zm hl]
  by_cases h:l=m
  ·rw [if_pos h,decide_eq_true h]
  ·rw [if_neg h,decide_eq_false h]
 ·rw [if_pos (by simp; omega),decide_eq_false (fun e=>hl (by rw [e]))]
theorem jJ (l m:List Int):FJ l m=some (decide (l=m)):=UK l m
theorem aB (l m:List Int):Jw l m=some (decide (l=m)):=UK l m
end Go.Sf.Sc
namespace Go.Sf.Sc
open Go Go.Sf
mutual
def He:AB->Nat
 | ⟨_,kids,_,_⟩=>1+MJ kids
def MJ:List AB->Nat
 | []=>0
 | k::l=>He k+MJ l
end
mutual
def m6:AB->Nat
 | ⟨k,kids,_,_⟩=>(if k=5 then 1 else 0)+bi kids
def bi:List AB->Nat
 | []=>0
 | k::l=>max (m6 k) (bi l)
end
theorem SZ (c:AB):He c=1+MJ c.Kids:=by cases c; rfl
theorem Zl {l:List AB} {k:Int} (h0:0<=k) (h1:k<l.length):l.drop k.toNat=AA l k::l.drop (k+1).toNat:=by
 rw [show (k+1).toNat=k.toNat+1 by omega,List.drop_eq_getElem_cons (by omega)]
 unfold AA
 rw [List.getD_eq_getElem?_getD,List.getElem?_eq_getElem (by omega)]; rfl
theorem RT:∀ (N:Nat) (c:AB),SizeOf.sizeOf c<=N->(AJ c).Sm->∀ most:Int,0<=most->most<=1000->∃ r,(∀ n,N<=n->FA n c most=some r)∧-1<=r∧r<=most - 1∧(0<=r->EL c∧(He c:Int)+r<=most)
 | 0,c,h,_,_,_,_=>by have:=GG c; omega
 | N+1,c,h,hs,most,m0,m1=>by
  obtain ⟨hm,hkl,hk⟩:=Zj hs
  obtain ⟨b1,e1,f1⟩:=UN c.Pattern
  obtain ⟨b2,e2,f2⟩:=Zo hm
  have step:∀ n,N+1<=n->∃ m,n=m+1∧N<=m:=fun n hn=>⟨n - 1,by omega,by omega⟩
  cases b1
  ·refine ⟨-1,fun n hn=>?_,by omega,by omega,fun h=>by omega⟩
   obtain ⟨n,rfl,_⟩:=step n hn
   rw [FA,e1]; rfl
  cases b2
  ·refine ⟨-1,fun n hn=>?_,by omega,by omega,fun h=>by omega⟩
   obtain ⟨n,rfl,_⟩:=step n hn
   rw [FA,e1,bs,e2]; rfl
  have loop:∀ (m:Nat) (k left:Int),0<=k->k+m=c.Kids.length->-1<=left->left<=1000->∃ l' k',(∀ n,N<=n->LY (ρ:=Int) (fun (s0:Int × Int)=>
    if ((decide (s0.2<(c.Kids.length:Int)))&&(decide (0<=s0.1)))=true then
    (AH c.Kids s0.2).bind fun x32=>
    (FA n x32 s0.1).bind fun x35=>
    some (.next (x35,A3 (s0.2+1)))
    else
    some (.brk (s0.1,s0.2))) (left,k) (.inl (l',k')))∧-1<=l'∧l'<=left∧(0<=l'->(∀ j,k<=j->j<c.Kids.length->EL (AA c.Kids j))∧(MJ (c.Kids.drop k.toNat):Int)+l'<=left):=by
   intro m
   induction m with
   | zero=>
    intro k left k0 kl l0 l1
    refine ⟨left,k,fun n hn=>.brk ?_,l0,by omega,fun _=>⟨fun j j1 j2=>by omega,?_⟩⟩
    ·rw [if_neg (by simp; omega)]
    ·rw [List.drop_of_length_le (by omega),MJ]; omega
   | succ m ih=>
    intro k left k0 kl l0 l1
    by_cases hl:0<=left
    ·have hmem:=AT (l:=c.Kids) k0 (by omega)
     have:=G6 hmem
     obtain ⟨r,r1,r2,r3,r4⟩:=RT N _ (by omega) (hk _ hmem) left hl l1
     obtain ⟨l',k',a1,a2,a3,a4⟩:=ih (k+1) r (by omega) (by omega) r2 (by omega)
     refine ⟨l',k',fun n hn=>.next (s':=(r,k+1)) ?_ (a1 n hn),a2,by omega,fun h0=>⟨fun j j1 j2=>?_,?_⟩⟩
     ·rw [if_pos (by simp; omega),AG k0 (by omega),bs,r1 n hn,bs,BF (by omega) (by omega)]
     ·by_cases hj:j=k
      ·subst hj; exact (r4 (by omega)).1
      ·exact (a4 h0).1 j (by omega) j2
     ·have e1:=(r4 (by omega)).2
      have e2:=(a4 h0).2
      rw [Zl k0 (by omega),MJ]
      omega
    ·refine ⟨left,k,fun n hn=>.brk ?_,l0,by omega,fun h=>by omega⟩
     rw [if_neg (by simp; omega)]
  obtain ⟨l',k',a1,a2,a3,a4⟩:=loop c.Kids.length 0 (most - 1) (by omega) (by omega) (by omega) (by omega)
  refine ⟨l',fun n hn=>?_,a2,a3,fun h0=>⟨.mk c (f1 rfl) (f2 rfl) (fun k hk=>?_),?_⟩⟩
  ·obtain ⟨n,rfl,hn'⟩:=step n hn
   rw [FA,e1,bs,e2]
   simp only [bs,Bool.not_true,Bool.false_eq_true,if_false]
   rw [BF (n:=most - 1) (by omega) (by omega),(a1 n hn').eq,DQ]
  ·obtain ⟨j,j1,j2,rfl⟩:=E9 hk
   exact (a4 h0).1 j j1 j2
  ·have:=(a4 h0).2
   rw [show (0:Int).toNat=0 from rfl,List.drop_zero] at this
   rw [SZ]
   omega
theorem V6 {c:AB} (hs:(AJ c).Sm):∃ b,MB c=some b∧(b=true->EL c∧He c<=40):=by
 obtain ⟨r,r1,_,_,r4⟩:=RT (SizeOf.sizeOf c) c (Nat.le_refl _) hs 40 (by omega) (by omega)
 have e:On c 40=some r:=F4 (SizeOf.sizeOf c) r1
 unfold MB
 rw [e]
 exact ⟨_,rfl,fun h=>by have:=r4 (by simpa using h); exact ⟨this.1,by have:=this.2; simp at h; omega⟩⟩
theorem SY:∀ {l:List AB} {k:AB},k∈l->He k<=MJ l
 | x::l,k,h=>by
  rw [MJ]
  rcases List.mem_cons.1 h with rfl | h
  ·omega
  ·have:=SY h; omega
end Go.Sf.Sc
namespace Go.Sf.Sc
open Go Go.Sf
structure Ki (f:AI):Prop where
 pn:f.partial_.Nodes.length=f.p.Nodes.length
 pe:f.partial_.Edges.length=f.p.Edges.length
 ends : ∀ e ∈ f.p.Edges, 0 ≤ e.From ∧ e.From < f.p.Nodes.length ∧ 0 ≤ e.To ∧ e.To < f.p.Nodes.length
 kinds:∀ n∈f.p.Nodes,0<=n∧n<f.is.length∧∀ t∈f.g.Nodes,0<=t∧t<(AA f.is n).length
 small:f.p.Nodes.length<=1000∧f.p.Edges.length<=1000∧f.g.Nodes.length<=1000∧f.g.Edges.length<=1000
def Jb (f:AI) (i k:Int):Bool:=
 (decide (AA f.partial_.Edges i<0)||decide (AA f.partial_.Edges i=k))&&decide (AA f.g.Edges k=⟨(AA f.p.Edges i).Type',AA f.nodes (AA f.p.Edges i).From,AA f.nodes (AA f.p.Edges i).To⟩)
theorem WJ {α:Type} {l:List α} (h:l≠[]):S3 l=some ():=by
 unfold S3
 cases l with
 | nil=>exact absurd rfl h
 | cons _ _=>rfl
theorem Ss {l:List Int} {i:Int} (h0:0<=i) (h1:i<l.length):Hn l i=some (AA l i):=by
 unfold Hn
 rw [WJ (by intro h; subst h; simp at h1; omega),bs,AG h0 h1,bs]
theorem WU {f:AI} (hf:Ki f) {i k:Int} (i0:0<=i) (i1:i<f.p.Edges.length) (k0:0<=k) (k1:k<f.g.Edges.length) (hF:(AA f.p.Edges i).From<f.nodes.length) (hT:(AA f.p.Edges i).To<f.nodes.length):EC f i k=some (Jb f i k):=by
 have he:=hf.ends _ (AT i0 i1)
 unfold EC Jb
 rw [AG i0 i1,bs,Ss i0 (by rw [hf.pe]; exact i1),bs,AG k0 k1,bs,AG he.1 hF,bs,AG he.2.2.1 hT,bs]
 by_cases h1:AA f.partial_.Edges i<0
 ·rw [if_neg (by simp; omega)]; simp [h1]
 ·by_cases h2:AA f.partial_.Edges i=k
  ·rw [if_neg (by simp [h2])]; simp [h2]
  ·rw [if_pos (by simp [h2]; omega)]; simp [h1,h2]
def Lg (f:AI):Bool:=!anyR (fun i=>decide (max (AA f.p.Edges i).From (AA f.p.Edges i).To=(f.nodes.length:Int) - 1)&&!anyR (fun k=>Jb f i k) 0 f.g.Edges.length) 0 f.p.Edges.length
theorem Zb {f:Int->Bool->Option (CD Bool Bool)} (p:Int->Bool) {b:Int} (h:∀ i,0<=i->i<b->f i false=some (if p i=true then .brk true else .next false)):forR f 0 b false=some (.inl (anyR p 0 b)):=by
 have key:∀ (m:Nat) (i:Int),0<=i->i+m=b->forGo f m i false=some (.inl (anyR p i b)):=by
  intro m
  induction m with
  | zero=>
   intro i i0 hi
   have:anyR p i b=false:=by rw [FE]; intro j j1 j2; omega
   rw [this]; rfl
  | succ m ih=>
   intro i i0 hi
   rw [GR,h i i0 (by omega)]
   by_cases hp:p i=true
   ·have:anyR p i b=true:=by rw [Hc]; exact ⟨i,Int.le_refl _,by omega,hp⟩
    rw [if_pos hp,this]
   ·have e:anyR p i b=anyR p (i+1) b:=by
     rw [Bool.eq_iff_iff,Hc,Hc]
     constructor
     ·rintro ⟨j,j1,j2,j3⟩
      have:j≠i:=fun e=>hp (e ▸ j3)
      exact ⟨j,by omega,j2,j3⟩
     ·rintro ⟨j,j1,j2,j3⟩
      exact ⟨j,by omega,j2,j3⟩
    rw [if_neg hp,e]
    exact ih (i+1) (by omega) (by omega)
 unfold forR
 by_cases hb:0<=b
 ·exact key _ 0 (Int.le_refl _) (by omega)
 ·have:anyR p 0 b=false:=by rw [FE]; intro j j1 j2; omega
  rw [this,show (b - 0).toNat=0 by omega]; rfl
theorem VP {f:AI} (hf:Ki f) (hn:0<f.nodes.length) (hn2:f.nodes.length<=1000):CE f=some (Lg f):=by
 unfold CE Lg
 rw [B8 (fun i=>decide (max (AA f.p.Edges i).From (AA f.p.Edges i).To=(f.nodes.length:Int) - 1)&&!anyR (fun k=>Jb f i k) 0 f.g.Edges.length) false]
 ·generalize anyR (fun i=>decide (max (AA f.p.Edges i).From (AA f.p.Edges i).To=(f.nodes.length:Int) - 1)&&!anyR (fun k=>Jb f i k) 0 f.g.Edges.length) 0 f.p.Edges.length=b
  cases b <;> rfl
 ·intro i i0 i1 _
  rw [AG i0 i1,bs,BF (n:=(f.nodes.length:Int) - 1) (by omega) (by omega)]
  by_cases hm:max (AA f.p.Edges i).From (AA f.p.Edges i).To=(f.nodes.length:Int) - 1
  ·rw [if_neg (by simp [hm]),Zb (fun k=>Jb f i k) (fun k k0 k1=>by
    rw [WU hf i0 i1 k0 k1 (by omega) (by omega),bs,Iz])]
   generalize anyR (fun k=>Jb f i k) 0 f.g.Edges.length=b
   rw [decide_eq_true hm]
   cases b <;> rfl
  ·rw [if_pos (by simp [hm]),if_neg (by simp [hm])]
def BR (n:Nat):List Int:=(List.range n).map Int.ofNat
theorem Pc (n:Nat):BR (n+1)=BR n++[(n:Int)]:=by
 unfold BR
 rw [List.range_succ,List.map_append]; rfl
def O7 (f:AI) (k:Int):Bool:=(decide (AA f.partial_.Nodes f.nodes.length<0)||decide (AA f.partial_.Nodes f.nodes.length=k))&&AA (AA f.is (AA f.p.Nodes f.nodes.length)) (AA f.g.Nodes k)&&!(f.injective&&f.nodes.any fun x=>decide (k=x))
def O6 (f:AI) (k:Int):Bool:=Jb f f.edges.length k&&!(f.injective&&f.edges.any fun x=>decide (k=x))
def E7:Nat->AI->List Morphism
 | 0,f=>[⟨f.nodes,f.edges⟩]
 | n+1,f=>(BR f.g.Edges.length).flatMap fun k=>if O6 f k=true then E7 n { f with edges:=f.edges++[k] } else []
def Iv:Nat->AI->List Morphism
 | 0,f=>E7 f.p.Edges.length f
 | n+1,f=>(BR f.g.Nodes.length).flatMap fun k=>if (O7 f k&&Lg { f with nodes:=f.nodes++[k] })=true then Iv n { f with nodes:=f.nodes++[k] } else []
theorem R4 {α:Type} (a b:List α) (m:Nat):((a.take m)++b).take m=(a++b).take m:=by
 by_cases h:a.length<=m
 ·rw [List.take_of_length_le h]
 ·rw [List.take_append_of_le_length (by simp; omega),List.take_append_of_le_length (by omega),List.take_take,Nat.min_self]
end Go.Sf.Sc
namespace Go.Sf.Sc
open Go Go.Sf
def Oh (f:AI) (o:List Morphism):AI:={ f with out:=o }
theorem Ki.out {f:AI} (h:Ki f) (o:List Morphism):Ki (Oh f o):=⟨h.pn,h.pe,h.ends,h.kinds,h.small⟩
theorem Mr:∀ (n:Nat) (f:AI) (o:List Morphism),E7 n (Oh f o)=E7 n f
 | 0,_,_=>rfl
 | n+1,f,o=>by
  rw [E7,E7]
  refine congrArg (fun F=>(BR f.g.Edges.length).flatMap F) (funext fun k=>?_)
  have:=Mr n { f with edges:=f.edges++[k] } o
  show (if O6 f k=true then E7 n (Oh { f with edges:=f.edges++[k] } o) else [])=_
  rw [this]
theorem SS:∀ (n:Nat) (f:AI) (o:List Morphism),Iv n (Oh f o)=Iv n f
 | 0,f,o=>Mr _ f o
 | n+1,f,o=>by
  rw [Iv,Iv]
  refine congrArg (fun F=>(BR f.g.Nodes.length).flatMap F) (funext fun k=>?_)
  have:=SS n { f with nodes:=f.nodes++[k] } o
  show (if (O7 f k&&Lg { f with nodes:=f.nodes++[k] })=true then Iv n (Oh { f with nodes:=f.nodes++[k] } o) else [])=_
  rw [this]
def BC (f:AI) (l:List Morphism):AI:=Oh f ((f.out++l).take f.most.toNat)
structure RA (f:AI):Prop where
 m0:0<=f.most
 m1:f.most<=10000
 out:(f.out.length:Int)<=f.most
theorem Jf {f:AI} (h:RA f):BC f []=f:=by
 unfold BC
 rw [List.append_nil,List.take_of_length_le (by have:=h.out; have:=h.m0; omega)]; rfl
theorem Rf {f:AI} (h:(f.out.length:Int)=f.most) (l:List Morphism):BC f l=f:=by
 unfold BC
 rw [List.take_append_of_le_length (by omega),List.take_of_length_le (by omega)]; rfl
theorem Rh {f:AI} (h:RA f) (l:List Morphism):RA (BC f l):=by
 refine ⟨h.m0,h.m1,?_⟩
 have:=h.m0
 show (((f.out++l).take f.most.toNat).length:Int)<=f.most
 rw [List.length_take]; omega
theorem Rg (f:AI) (a b:List Morphism):BC (BC f a) b=BC f (a++b):=by
 show Oh f ((((f.out++a).take f.most.toNat)++b).take f.most.toNat)=_
 rw [R4,List.append_assoc]; rfl
theorem Qe:∀ (n:Nat) (f:AI),Ki f->RA f->f.nodes.length=f.p.Nodes.length->f.edges.length+n=f.p.Edges.length->∀ m,n+1<=m->A1 m f=some (BC f (E7 n f))
 | n,f,hf,hr,hn,he,m,hm=>by
  obtain ⟨m,rfl⟩:∃ k,m=k+1:=⟨m - 1,by omega⟩
  have hs:=hf.small
  have h0:=hr.m0
  have h1:=hr.m1
  have h2:=hr.out
  rw [A1]
  by_cases hfull:(f.out.length:Int)=f.most
  ·rw [if_pos (by simpa using hfull),Rf hfull]; rfl
  rw [if_neg (by simpa using hfull),if_neg (by simp; omega)]
  match n,he,hm with
  | 0,he,hm=>
   rw [if_neg (by simp; omega)]
   unfold slices_Clone_int
   rw [Hd (by unfold BY; omega),bs,Hd (by unfold BY; omega),bs,DB (by simp; unfold BY; omega),bs,bs]
   unfold BC
   rw [List.take_of_length_le (by simp [E7]; omega)]; rfl
  | n+1,he,hm=>
   rw [if_pos (by simp; omega)]
   have F:∀ k,O6 f k=true->Ki { f with edges:=f.edges++[k] }:=fun k _=>⟨hf.pn,hf.pe,hf.ends,hf.kinds,hf.small⟩
   rw [HY (a:=0) (s:=f) (fun i=>BC f ((BR i.toNat).flatMap fun k=>if O6 f k=true then E7 n { f with edges:=f.edges++[k] } else [])) (by omega) (Jf hr)]
   ·rw [bs,bs,Int.toNat_natCast,E7]
   ·intro i i0 i1
    have hu:BR (i+1).toNat=BR i.toNat++[i]:=by
     rw [show (i+1).toNat=i.toNat+1 by omega,Pc]
     rw [show ((i.toNat:Nat):Int)=i by omega]
    have hg:∀ l,BC f ((BR (i+1).toNat).flatMap l)=BC (BC f ((BR i.toNat).flatMap l)) (l i):=by
     intro l
     rw [Rg,hu,List.flatMap_append]; simp
    rw [hg]
    generalize (BR i.toNat).flatMap (fun k=>if O6 f k=true then E7 n { f with edges:=f.edges++[k] } else [])=L
    have hR:=Rh hr L
    have hf':Ki (BC f L):=hf.out _
    have hend:=hf.ends _ (AT (l:=f.p.Edges) (i:=(f.edges.length:Int)) (by omega) (by omega))
    rw [WU hf' (i:=(f.edges.length:Int)) (k:=i) (by omega) (by show _<(f.p.Edges.length:Int); omega) i0 (by exact i1) (by show (AA f.p.Edges f.edges.length).From<(f.nodes.length:Int); omega) (by show (AA f.p.Edges f.edges.length).To<(f.nodes.length:Int); omega),bs]
    have hc:C9 (BC f L).edges i=some (f.edges.any fun x=>decide (i=x)):=Sb f.edges i
    rw [hc]
    have hfit:Jb (BC f L) f.edges.length i=Jb f f.edges.length i:=rfl
    have key:((CM (BC f L).edges [i]).bind fun x193=>
      (A1 m (AI.mk (BC f L).p (BC f L).g (BC f L).is (BC f L).partial_ (BC f L).injective (BC f L).most (BC f L).nodes x193 (BC f L).out)).bind fun x197=>
      (slc x197.edges 0 (f.edges.length:Int)).bind fun x204=>
      some (AI.mk x197.p x197.g x197.is x197.partial_ x197.injective x197.most x197.nodes x204 x197.out))=some (BC (BC f L) (E7 n { f with edges:=f.edges++[i] })):=by
     have e1:CM (BC f L).edges [i]=some (f.edges++[i]):=DB (by show f.edges.length+1<=BY; unfold BY; omega)
     have e2:=Qe n { BC f L with edges:=f.edges++[i] } ⟨hf.pn,hf.pe,hf.ends,hf.kinds,hf.small⟩ ⟨hR.m0,hR.m1,hR.out⟩ hn (by show (f.edges++[i]).length+n=f.p.Edges.length; simp; omega) m (by omega)
     have e3:E7 n { BC f L with edges:=f.edges++[i] }=E7 n { f with edges:=f.edges++[i] }:=Mr n { f with edges:=f.edges++[i] } _
     rw [e3] at e2
     rw [e1,bs]
     show (A1 m { BC f L with edges:=f.edges++[i] }).bind _=_
     rw [e2,bs]
     have e4:slc (BC { BC f L with edges:=f.edges++[i] } (E7 n { f with edges:=f.edges++[i] })).edges 0 (f.edges.length:Int)=some f.edges:=by
      show slc (f.edges++[i]) 0 (f.edges.length:Int)=_
      rw [Lj (by omega) (by rw [List.length_append]; omega),Int.toNat_natCast,List.take_left]
     rw [e4]; rfl
    rw [key,hfit]
    have hok:O6 f i=(Jb f f.edges.length i&&!(f.injective&&f.edges.any fun x=>decide (i=x))):=rfl
    have hinj:(BC f L).injective=f.injective:=rfl
    rw [hok,hinj]
    generalize hA:E7 n { f with edges:=f.edges++[i] }=A
    cases Jb f f.edges.length i
    ·simp only [Bool.false_and,Bool.false_eq_true,if_false,Jf hR]; rfl
    ·cases f.injective
     ·rfl
     ·cases f.edges.any fun x=>decide (i=x)
      ·rfl
      ·simp only [Bool.and_self,Bool.not_true,Bool.and_false,Bool.false_eq_true,if_false,Jf hR]; rfl
end Go.Sf.Sc
namespace Go.Sf.Sc
open Go Go.Sf
theorem Qf:∀ (n:Nat) (f:AI),Ki f->RA f->f.edges=[]->f.nodes.length+n=f.p.Nodes.length->∀ m,n+f.p.Edges.length+1<=m->A1 m f=some (BC f (Iv n f))
 | 0,f,hf,hr,he,hn,m,hm=>by
  rw [Iv]
  exact Qe _ f hf hr (by omega) (by rw [he]; simp) m (by omega)
 | n+1,f,hf,hr,he,hn,m,hm=>by
  obtain ⟨m,rfl⟩:∃ k,m=k+1:=⟨m - 1,by omega⟩
  have hs:=hf.small
  have h0:=hr.m0
  have h1:=hr.m1
  have h2:=hr.out
  rw [A1]
  by_cases hfull:(f.out.length:Int)=f.most
  ·rw [if_pos (by simpa using hfull),Rf hfull]; rfl
  rw [if_neg (by simpa using hfull),if_pos (by simp; omega)]
  rw [HY (a:=0) (s:=f) (fun i=>BC f ((BR i.toNat).flatMap fun k=>if (O7 f k&&Lg { f with nodes:=f.nodes++[k] })=true then Iv n { f with nodes:=f.nodes++[k] } else [])) (by omega) (Jf hr)]
  ·rw [bs,bs,Int.toNat_natCast,Iv]
  ·intro i i0 i1
   have hu:BR (i+1).toNat=BR i.toNat++[i]:=by
    rw [show (i+1).toNat=i.toNat+1 by omega,Pc]
    rw [show ((i.toNat:Nat):Int)=i by omega]
   have hg:∀ l,BC f ((BR (i+1).toNat).flatMap l)=BC (BC f ((BR i.toNat).flatMap l)) (l i):=by
    intro l
    rw [Rg,hu,List.flatMap_append]; simp
   rw [hg]
   generalize (BR i.toNat).flatMap (fun k=>if (O7 f k&&Lg { f with nodes:=f.nodes++[k] })=true then Iv n { f with nodes:=f.nodes++[k] } else [])=L
   have hR:=Rh hr L
   have hpn:(f.nodes.length:Int)<(f.p.Nodes.length:Int):=by omega
   have hkd:=hf.kinds _ (AT (l:=f.p.Nodes) (i:=(f.nodes.length:Int)) (by omega) hpn)
   have hty:=hkd.2.2 _ (AT i0 i1)
   have key:((CM (BC f L).nodes [i]).bind fun x123=>
     (CE (AI.mk (BC f L).p (BC f L).g (BC f L).is (BC f L).partial_ (BC f L).injective (BC f L).most x123 (BC f L).edges (BC f L).out)).bind fun x127=>
     if x127=true then
     (A1 m (AI.mk (BC f L).p (BC f L).g (BC f L).is (BC f L).partial_ (BC f L).injective (BC f L).most x123 (BC f L).edges (BC f L).out)).bind fun x129=>
     (slc x129.nodes 0 (f.nodes.length:Int)).bind fun x136=>
     some (AI.mk x129.p x129.g x129.is x129.partial_ x129.injective x129.most x136 x129.edges x129.out)
     else
     (slc x123 0 (f.nodes.length:Int)).bind fun x136=>
     some (AI.mk (BC f L).p (BC f L).g (BC f L).is (BC f L).partial_ (BC f L).injective (BC f L).most x136 (BC f L).edges (BC f L).out))=some (BC (BC f L) (if Lg { f with nodes:=f.nodes++[i] }=true then Iv n { f with nodes:=f.nodes++[i] } else [])):=by
    have e1:CM (BC f L).nodes [i]=some (f.nodes++[i]):=DB (by show f.nodes.length+1<=BY; unfold BY; omega)
    have e0:slc (f.nodes++[i]) 0 (f.nodes.length:Int)=some f.nodes:=by
     rw [Lj (by omega) (by rw [List.length_append]; omega),Int.toNat_natCast,List.take_left]
    have ep:CE { BC f L with nodes:=f.nodes++[i] }=some (Lg { f with nodes:=f.nodes++[i] }):=VP (f:={ BC f L with nodes:=f.nodes++[i] }) ⟨hf.pn,hf.pe,hf.ends,hf.kinds,hf.small⟩ (by show 0<(f.nodes++[i]).length; simp) (by show (f.nodes++[i]).length<=1000; rw [List.length_append]; simp; omega)
    have e2:=Qf n { BC f L with nodes:=f.nodes++[i] } ⟨hf.pn,hf.pe,hf.ends,hf.kinds,hf.small⟩ ⟨hR.m0,hR.m1,hR.out⟩ he (by show (f.nodes++[i]).length+n=f.p.Nodes.length; rw [List.length_append]; simp; omega) m (by show n+f.p.Edges.length+1<=m; omega)
    have e3:Iv n { BC f L with nodes:=f.nodes++[i] }=Iv n { f with nodes:=f.nodes++[i] }:=SS n { f with nodes:=f.nodes++[i] } _
    rw [e3] at e2
    rw [e1,bs]
    show (CE { BC f L with nodes:=f.nodes++[i] }).bind _=_
    rw [ep,bs]
    cases Lg { f with nodes:=f.nodes++[i] }
    ·rw [if_neg (by decide),if_neg (by decide),e0,Jf hR]; rfl
    ·rw [if_pos rfl,if_pos rfl]
     show (A1 m { BC f L with nodes:=f.nodes++[i] }).bind _=_
     rw [e2,bs]
     have e4:slc (BC { BC f L with nodes:=f.nodes++[i] } (Iv n { f with nodes:=f.nodes++[i] })).nodes 0 (f.nodes.length:Int)=some f.nodes:=e0
     rw [e4]; rfl
   have hw:Hn (BC f L).partial_.Nodes (f.nodes.length:Int)=some (AA f.partial_.Nodes f.nodes.length):=Ss (by omega) (by show (f.nodes.length:Int)<(f.partial_.Nodes.length:Int); rw [hf.pn]; exact hpn)
   have hp:AH (BC f L).p.Nodes (f.nodes.length:Int)=some (AA f.p.Nodes f.nodes.length):=AG (by omega) hpn
   have hi:AH (BC f L).is (AA f.p.Nodes f.nodes.length)=some (AA f.is (AA f.p.Nodes f.nodes.length)):=AG hkd.1 hkd.2.1
   have ht:AH (AA f.is (AA f.p.Nodes f.nodes.length)) (AA f.g.Nodes i)=some (AA (AA f.is (AA f.p.Nodes f.nodes.length)) (AA f.g.Nodes i)):=AG hty.1 hty.2
   have hc:C9 (BC f L).nodes i=some (f.nodes.any fun x=>decide (i=x)):=Sb f.nodes i
   have hinj:(BC f L).injective=f.injective:=rfl
   have hok:O7 f i=((decide (AA f.partial_.Nodes f.nodes.length<0)||decide (AA f.partial_.Nodes f.nodes.length=i))&&AA (AA f.is (AA f.p.Nodes f.nodes.length)) (AA f.g.Nodes i)&&!(f.injective&&f.nodes.any fun x=>decide (i=x))):=rfl
   rw [AG i0 i1,bs,hw,bs,hp,bs,hi,bs,ht,bs,hc,key,hinj,hok]
   generalize AA (AA f.is (AA f.p.Nodes f.nodes.length)) (AA f.g.Nodes i)=c2
   have hb:(decide (0<=AA f.partial_.Nodes f.nodes.length)&&!decide (AA f.partial_.Nodes f.nodes.length=i))=!(decide (AA f.partial_.Nodes f.nodes.length<0)||decide (AA f.partial_.Nodes f.nodes.length=i)):=by
    rw [Bool.not_or]
    congr 1
    rw [←decide_not]
    exact decide_eq_decide.2 (by omega)
   rw [hb]
   generalize (decide (AA f.partial_.Nodes f.nodes.length<0)||decide (AA f.partial_.Nodes f.nodes.length=i))=c1
   generalize Lg { f with nodes:=f.nodes++[i] }=c5
   generalize Iv n { f with nodes:=f.nodes++[i] }=A
   cases c1
   ·simp only [Bool.false_and,Bool.false_eq_true,if_false,Jf hR]; rfl
   ·cases c2
    ·simp only [Bool.and_false,Bool.false_and,Bool.false_eq_true,if_false,Jf hR]; rfl
    ·cases f.injective
     ·rfl
     ·cases f.nodes.any fun x=>decide (i=x)
      ·rfl
      ·simp only [Bool.and_self,Bool.not_true,Bool.and_false,Bool.false_and,Bool.false_eq_true,if_false,Jf hR]; rfl
theorem cJ {f:AI} (hf:Ki f) (hr:RA f) (he:f.edges=[]) (hn:f.nodes=[]):FL f=some (BC f (Iv f.p.Nodes.length f)):=
 F4 (f.p.Nodes.length+f.p.Edges.length+1) fun m hm=>Qf _ f hf hr he (by rw [hn]; simp) m hm
end Go.Sf.Sc
namespace Go.Sf.Sc
open Go Go.Sf
theorem D7 (n:Nat):(BR n).length=n:=by simp [BR]
theorem I8 {n:Nat} {i:Int}:i∈BR n↔0<=i∧i<n:=by
 unfold BR
 rw [List.mem_map]
 constructor
 ·rintro ⟨k,hk,rfl⟩
  have:=List.mem_range.1 hk
  exact ⟨Int.natCast_nonneg k,Int.ofNat_lt.2 this⟩
 ·rintro ⟨h0,h1⟩
  exact ⟨i.toNat,List.mem_range.2 (by omega),by show ((i.toNat:Nat):Int)=i; omega⟩
theorem Ll {n:Nat} {α:Type} [Inhabited α] (F:Int->α) {i:Int} (h0:0<=i) (h1:i<n):AA ((BR n).map F) i=F i:=by
 unfold AA BR
 rw [List.map_map,List.getD_eq_getElem?_getD,List.getElem?_map,List.getElem?_range (by omega)]
 show F (Int.ofNat i.toNat)=F i
 congr 1
 show ((i.toNat:Nat):Int)=i
 omega
theorem J0 {i:Int} (h0:0<=i):BR (i+1).toNat=BR i.toNat++[i]:=by
 rw [show (i+1).toNat=i.toNat+1 by omega,Pc,show ((i.toNat:Nat):Int)=i by omega]
def JX (t:AD) (a:Int):List Bool:=(BR t.Nodes.length).map fun k=>Hv t k a
def I6 (t:AD):List (List Bool):=(BR t.Nodes.length).map (JX t)
theorem Z1 {t:AD} (hf:BU t) (h:G0 t) (hv:(BA t).2=0) {a:Int} (a0:0<=a) (a1:a<t.Nodes.length):HU t a=some ((BR t.Nodes.length).filter fun i=>Hv t i a,0):=by
 have hn:=h.nodes
 unfold HU
 have hb:Hu t a=true:=by simp [Hu,a0,a1]
 rw [RH hf,bs,if_neg (by simp [hv,hb])]
 rw [HY (fun i=>(BR i.toNat).filter fun i=>Hv t i a) (by omega) (by rfl),bs,Int.toNat_natCast]
 intro i i0 i1
 rw [Xz h i0 i1,bs,J0 i0,List.filter_append]
 have hl:((BR i.toNat).filter fun i=>Hv t i a).length<=i.toNat:=by
  have:=List.length_filter_le (fun i=>Hv t i a) (BR i.toNat)
  rwa [D7] at this
 by_cases hi:Hv t i a=true
 ·rw [if_pos hi,DB (by simp; unfold BY; omega),bs]
  simp [hi]
 ·rw [if_neg hi]
  simp [hi]
theorem ah {n:Nat} {l:List Int} (hl:∀ x∈l,0<=x∧x<n):forA (fun (i2:Int) (s2:List Bool)=>
  (AH l i2).bind fun x30=>
  (AH s2 x30).bind fun _=>
  some (CP s2 x30 true)) 0 (l.length:Int) (List.replicate n false)=some ((BR n).map fun k=>l.any fun x=>decide (x=k)):=by
 rw [HY (fun j=>(BR n).map fun k=>(l.take j.toNat).any fun x=>decide (x=k)) (by omega) (by
  refine List.ext_getElem (by simp [D7]) (fun j j1 j2=>by simp))]
 ·rw [Int.toNat_natCast,List.take_length]
 ·intro j j0 j1
  have hx:=hl _ (AT j0 j1)
  rw [AG j0 j1,bs,AG hx.1 (by rw [List.length_map,D7]; exact hx.2),bs,Iq j0 j1]
  congr 1
  unfold CP
  refine List.ext_getElem (by simp) (fun k k1 k2=>?_)
  have hk:k<n:=by simpa [D7] using k2
  rw [List.getElem_set]
  have e:(BR n)[k]'(by rw [D7]; exact hk)=(k:Int):=by simp [BR]
  simp only [List.getElem_map,e,List.any_append,List.any_cons,List.any_nil,Bool.or_false]
  by_cases hjk:(AA l j).toNat=k
  ·rw [if_pos hjk,decide_eq_true (show AA l j=(k:Int) by omega),Bool.or_true]
  ·rw [if_neg hjk,decide_eq_false (show ¬ AA l j=(k:Int) by omega),Bool.or_false]
theorem Y2 {t:AD} (hf:BU t) (h:G0 t) (hv:(BA t).2=0):F6 t=some (I6 t):=by
 have hn:=h.nodes
 unfold F6
 rw [HY (fun i=>(BR i.toNat).map (JX t)) (by omega) (by rfl),bs,Int.toNat_natCast]
 ·rfl
 ·intro i i0 i1
  have hm:KF (t.Nodes.length:Int) false=some (List.replicate t.Nodes.length false):=by
   unfold KF
   rw [if_pos (by omega),Int.toNat_natCast]
  rw [hm,bs,Z1 hf h hv i0 i1,bs]
  have:=ah (n:=t.Nodes.length) (l:=(BR t.Nodes.length).filter fun k=>Hv t k i) (fun x hx=>I8.1 (List.mem_filter.1 hx).1)
  show (forA (fun (i2:Int) (s2:List Bool)=>
   (AH ((BR t.Nodes.length).filter fun k=>Hv t k i) i2).bind fun x30=>
   (AH s2 x30).bind fun _=>
   some (CP s2 x30 true)) 0 (((BR t.Nodes.length).filter fun k=>Hv t k i).length:Int) (List.replicate t.Nodes.length false)).bind _=_
  rw [this,bs,DB (by rw [List.length_map,D7]; simp; unfold BY; omega),bs,J0 i0,List.map_append]
  congr 2
  simp only [List.map_cons,List.map_nil]
  congr 1
  unfold JX
  refine List.map_congr_left (fun k hk=>?_)
  have hk:=I8.1 hk
  rw [Bool.eq_iff_iff,List.any_eq_true]
  constructor
  ·rintro ⟨x,hx,e⟩
   rw [decide_eq_true_eq] at e
   subst e
   exact (List.mem_filter.1 hx).2
  ·intro hb
   exact ⟨k,List.mem_filter.2 ⟨I8.2 hk,hb⟩,by simp⟩
end Go.Sf.Sc
namespace Go.Sf.Sc
open Go Go.Sf
def G4:Nat->AI->List Morphism
 | 0,f=>E7 f.p.Edges.length f
 | n+1,f=>(BR f.g.Nodes.length).flatMap fun k=>if O7 f k=true then G4 n { f with nodes:=f.nodes++[k] } else []
def Ux (f:AI) (i:Int):Prop:=0<=i∧i<f.p.Edges.length∧0<=(AA f.p.Edges i).From∧(AA f.p.Edges i).From<f.nodes.length∧0<=(AA f.p.Edges i).To∧(AA f.p.Edges i).To<f.nodes.length∧∀ k:Int,0<=k->k<f.g.Edges.length->Jb f i k=false
theorem QL (f:AI) (i k:Int):Jb f i k=((decide (AA f.partial_.Edges i<0)||decide (AA f.partial_.Edges i=k))&&decide (AA f.g.Edges k=⟨(AA f.p.Edges i).Type',AA f.nodes (AA f.p.Edges i).From,AA f.nodes (AA f.p.Edges i).To⟩)):=rfl
theorem QT {α:Type} [Inhabited α] (l:List α) (x:α) {i:Int} (h0:0<=i) (h1:i<l.length):AA (l++[x]) i=AA l i:=by
 unfold AA
 rw [List.getD_eq_getElem?_getD,List.getD_eq_getElem?_getD,List.getElem?_append_left (by omega)]
theorem V4:∀ (n:Nat) (f:AI) (i:Int),Ux f i->(f.edges.length:Int)<=i->i<f.edges.length+n->E7 n f=[]
 | 0,f,i,_,h1,h2=>by omega
 | n+1,f,i,hd,h1,h2=>by
  rw [E7]
  refine List.flatMap_eq_nil_iff.2 (fun k hk=>?_)
  have hk:=I8.1 hk
  by_cases he:(f.edges.length:Int)=i
  ·have:O6 f k=false:=by
    unfold O6
    rw [he,hd.2.2.2.2.2.2 k hk.1 hk.2]; rfl
   rw [if_neg (by rw [this]; decide)]
  ·split
   ·exact V4 n { f with edges:=f.edges++[k] } i hd (by show ((f.edges++[k]).length:Int)<=i; rw [List.length_append]; simp; omega) (by show i<((f.edges++[k]).length:Int)+n; rw [List.length_append]; simp; omega)
   ·rfl
theorem Sd:∀ (n:Nat) (f:AI) (i:Int),f.edges=[]->Ux f i->G4 n f=[]
 | 0,f,i,he,hd=>by
  rw [G4]
  exact V4 _ f i hd (by rw [he]; simpa using hd.1) (by rw [he]; simpa using hd.2.1)
 | n+1,f,i,he,hd=>by
  rw [G4]
  refine List.flatMap_eq_nil_iff.2 (fun k hk=>?_)
  split
  ·refine Sd n { f with nodes:=f.nodes++[k] } i he ?_
   obtain ⟨d1,d2,d3,d4,d5,d6,d7⟩:=hd
   have hl:((f.nodes++[k]).length:Int)=f.nodes.length+1:=by rw [List.length_append]; simp
   refine ⟨d1,d2,d3,?_,d5,?_,fun j j0 j1=>?_⟩
   ·show (AA f.p.Edges i).From<((f.nodes++[k]).length:Int); omega
   ·show (AA f.p.Edges i).To<((f.nodes++[k]).length:Int); omega
   ·have:=d7 j j0 j1
    rw [QL] at this ⊢
    show ((decide (AA f.partial_.Edges i<0)||decide (AA f.partial_.Edges i=j))&&decide (AA f.g.Edges j=⟨(AA f.p.Edges i).Type',AA (f.nodes++[k]) (AA f.p.Edges i).From,AA (f.nodes++[k]) (AA f.p.Edges i).To⟩))=false
    rw [QT _ _ d3 d4,QT _ _ d5 d6]
    exact this
  ·rfl
theorem X0 {f:AI} (hf:Ki f) (h:Lg f=false):∃ i,Ux f i:=by
 unfold Lg at h
 rw [Bool.not_eq_false',Hc] at h
 obtain ⟨i,i0,i1,h⟩:=h
 rw [Bool.and_eq_true,decide_eq_true_eq,Bool.not_eq_true',FE] at h
 have he:=hf.ends _ (AT i0 i1)
 exact ⟨i,i0,i1,he.1,by omega,he.2.2.1,by omega,h.2⟩
theorem Vz:∀ (n:Nat) (f:AI),Ki f->f.edges=[]->Iv n f=G4 n f
 | 0,_,_,_=>rfl
 | n+1,f,hf,he=>by
  rw [Iv,G4]
  refine congrArg (fun F=>(BR f.g.Nodes.length).flatMap F) (funext fun k=>?_)
  have hf':Ki { f with nodes:=f.nodes++[k] }:=⟨hf.pn,hf.pe,hf.ends,hf.kinds,hf.small⟩
  cases O7 f k
  ·rfl
  ·cases hp:Lg { f with nodes:=f.nodes++[k] }
   ·obtain ⟨i,hd⟩:=X0 hf' hp
    rw [Sd n { f with nodes:=f.nodes++[k] } i he hd]; rfl
   ·simp only [Bool.and_self,if_true]
    exact Vz n _ hf' he
end Go.Sf.Sc
namespace Go.Sf.Sc
open Go Go.Sf
theorem Tg {σ ρ:Type} {f:σ × Int->Option (CD (σ × Int) ρ)} (g:Int->σ) {a b:Int} {s:σ} (hab:a<=b) (hs:s=g a) (h:∀ i,a<=i->i<b->f (g i,i)=some (.next (g (i+1),i+1))) (hb:f (g b,b)=some (.brk (g b,b))):IT f (s,a)=some (.inl (g b,b)):=by
 subst hs
 have key:∀ (n:Nat) (i:Int),a<=i->i+n=b->LY f (g i,i) (.inl (g b,b)):=by
  intro n
  induction n with
  | zero=>
   intro i _ hi
   have:i=b:=by omega
   subst this
   exact .brk hb
  | succ n ih=>
   intro i h1 h2
   exact .next (h i h1 (by omega)) (ih (i+1) (by omega) (by omega))
 exact (key (b - a).toNat a (Int.le_refl _) (by omega)).eq
def FS (s:AN) (nodes edges:List Int):AI:=⟨s.p,s.g,I6 s.t,s.partial_,s.injective,s.most+1,nodes,edges,s.found⟩
def CQ (s:AN) (l:List Morphism):AN:={ s with found:=(s.found++l).take (s.most+1).toNat }
structure QR (s:AN):Prop where
 m0:0<=s.most
 m1:s.most<=9999
 out:(s.found.length:Int)<=s.most+1
theorem MC {s:AN} (h:QR s):CQ s []=s:=by
 unfold CQ
 rw [List.append_nil,List.take_of_length_le (by have:=h.out; have:=h.m0; omega)]
theorem Q4 {s:AN} (h:(s.found.length:Int)=s.most+1) (l:List Morphism):CQ s l=s:=by
 unfold CQ
 rw [List.take_append_of_le_length (by omega),List.take_of_length_le (by omega)]
theorem Q5 {s:AN} (h:QR s) (l:List Morphism):QR (CQ s l):=by
 refine ⟨h.m0,h.m1,?_⟩
 have:=h.m0
 show (((s.found++l).take (s.most+1).toNat).length:Int)<=s.most+1
 rw [List.length_take]; omega
theorem P2 (s:AN) (a b:List Morphism):CQ (CQ s a) b=CQ s (a++b):=by
 show ({ s with found:=(((s.found++a).take (s.most+1).toNat)++b).take (s.most+1).toNat }:AN)=_
 rw [R4,List.append_assoc]; rfl
theorem Wh (s:AN) {l:List Int} (hl:l.length<=1000) (n:Int):DI s l n=some (s.injective&&l.any fun x=>decide (n=x)):=by
 unfold DI
 cases s.injective
 ·rw [Pt (fun _=>false) true (a:=0) (b:=0) (Int.le_refl _) (fun i i1 i2=>by omega) (by rw [if_neg (by simp)])]
  rfl
 ·rw [Pt (fun i=>decide (AA l i=n)) true (a:=0) (b:=l.length) (by omega) (fun i i1 i2=>by
   rw [if_pos (by simp; exact i2),AG i1 i2,bs,BF (by omega) (by omega),Iz]) (by rw [if_neg (by simp)])]
  have e:anyR (fun i=>decide (AA l i=n)) 0 l.length=l.any fun x=>decide (n=x):=by
   rw [Bool.eq_iff_iff,Hc,List.any_eq_true]
   constructor
   ·rintro ⟨i,i0,i1,h⟩
    exact ⟨_,AT i0 i1,by simpa [eq_comm] using h⟩
   ·rintro ⟨x,hx,h⟩
    obtain ⟨i,i0,i1,rfl⟩:=E9 hx
    exact ⟨i,i0,i1,by simpa [eq_comm] using h⟩
  rw [e,Bool.true_and]
  cases l.any fun x=>decide (n=x) <;> rfl
theorem Rx:∀ (n:Nat) (s:AN) (nodes l:List Int),Ki (FS s [] [])->QR s->nodes.length=s.p.Nodes.length->l.length+n=s.p.Edges.length->∀ m,n+1<=m->CI m s nodes l=some (CQ s (E7 n (FS s nodes l)))
 | n,s,nodes,l,hf,hr,hn,he,m,hm=>by
  obtain ⟨m,rfl⟩:∃ k,m=k+1:=⟨m - 1,by omega⟩
  have hs:=hf.small
  have s1:s.p.Nodes.length<=1000:=hs.1
  have s2:s.p.Edges.length<=1000:=hs.2.1
  have s3:s.g.Nodes.length<=1000:=hs.2.2.1
  have s4:s.g.Edges.length<=1000:=hs.2.2.2
  have h0:=hr.m0
  have h1:=hr.m1
  have h2:=hr.out
  rw [CI]
  by_cases hfull:(s.found.length:Int)=s.most+1
  ·rw [if_pos (by simp; omega),Q4 hfull]
  rw [if_neg (by simp; omega)]
  match n,he,hm with
  | 0,he,hm=>
   rw [if_pos (by simp; omega),Hd (by unfold BY; omega),bs,Hd (by unfold BY; omega),bs,DB (by simp; unfold BY; omega),bs]
   unfold CQ
   rw [List.take_of_length_le (by simp [E7]; omega)]; rfl
  | n+1,he,hm=>
   have hi0:(0:Int)<=l.length:=by omega
   have hi1:(l.length:Int)<s.p.Edges.length:=by omega
   have hend:=hf.ends _ (AT (l:=s.p.Edges) hi0 hi1)
   have q1:(AA s.p.Edges l.length).From<nodes.length:=by rw [hn]; exact hend.2.1
   have q2:(AA s.p.Edges l.length).To<nodes.length:=by rw [hn]; exact hend.2.2.2
   have hpe:(l.length:Int)<s.partial_.Edges.length:=by
    have:s.partial_.Edges.length=s.p.Edges.length:=hf.pe
    omega
   rw [if_neg (by simp; omega),AG hi0 hi1,bs]
   rw [Tg (fun i=>CQ s ((BR i.toNat).flatMap fun k=>if O6 (FS s nodes l) k=true then E7 n (FS s nodes (l++[k])) else [])) (a:=0) (b:=(s.g.Edges.length:Int)) (s:=s) (by omega) (MC hr).symm (fun i i0 i1=>by
    have hg:∀ F,CQ s ((BR (i+1).toNat).flatMap F)=CQ (CQ s ((BR i.toNat).flatMap F)) (F i):=by
     intro F
     rw [P2,J0 i0,List.flatMap_append]; simp
    rw [hg]
    generalize (BR i.toNat).flatMap (fun k=>if O6 (FS s nodes l) k=true then E7 n (FS s nodes (l++[k])) else [])=L
    have hR:=Q5 hr L
    rw [if_pos (by rw [decide_eq_true_eq]; exact i1)]
    have g1:AH (CQ s L).g.Edges i=some (AA s.g.Edges i):=AG i0 i1
    have g2:AH (CQ s L).partial_.Edges (l.length:Int)=some (AA s.partial_.Edges l.length):=AG hi0 hpe
    have g3:DI (CQ s L) l i=some (s.injective&&l.any fun x=>decide (i=x)):=Wh (CQ s L) (by omega) i
    have key:((CM [] l).bind fun x130=>
      (CM x130 [i]).bind fun x133=>
      (CI m (CQ s L) nodes x133).bind fun x134=>
      some (.next (x134,A3 (i+1)):CD (AN × Int) AN))=some (.next (CQ (CQ s L) (E7 n (FS s nodes (l++[i]))),i+1)):=by
     have e2:=Rx n (CQ s L) nodes (l++[i]) ⟨hf.pn,hf.pe,hf.ends,hf.kinds,hf.small⟩ hR hn (by show (l++[i]).length+n=s.p.Edges.length; rw [List.length_append]; simp; omega) m (by omega)
     have e3:E7 n (FS (CQ s L) nodes (l++[i]))=E7 n (FS s nodes (l++[i])):=Mr n (FS s nodes (l++[i])) _
     rw [e3] at e2
     rw [Hd (by unfold BY; omega),bs,DB (by simp; unfold BY; omega),bs,e2,bs,BF (by omega) (by omega)]
    rw [g1,bs,g2,bs,g3,key]
    simp only [bs]
    rw [AG hend.1 q1,AG hend.2.2.1 q2,BF (n:=i+1) (by omega) (by omega)]
    simp only [bs]
    have hok:O6 (FS s nodes l) i=(((decide (AA s.partial_.Edges l.length<0)||decide (AA s.partial_.Edges l.length=i))&&decide (AA s.g.Edges i=⟨(AA s.p.Edges l.length).Type',AA nodes (AA s.p.Edges l.length).From,AA nodes (AA s.p.Edges l.length).To⟩))&&!(s.injective&&l.any fun x=>decide (i=x))):=rfl
    have hE:decide (AA s.g.Edges i=⟨(AA s.p.Edges l.length).Type',AA nodes (AA s.p.Edges l.length).From,AA nodes (AA s.p.Edges l.length).To⟩)=(decide ((AA s.p.Edges l.length).Type'=(AA s.g.Edges i).Type')&&decide ((AA s.g.Edges i).From=AA nodes (AA s.p.Edges l.length).From)&&decide ((AA s.g.Edges i).To=AA nodes (AA s.p.Edges l.length).To)):=by
     rw [Bool.eq_iff_iff]
     simp only [Bool.and_eq_true,decide_eq_true_eq]
     generalize AA s.g.Edges i=x
     obtain ⟨x1,x2,x3⟩:=x
     simp only [CS.mk.injEq]
     constructor
     ·rintro ⟨a,b,c⟩; exact ⟨⟨a.symm,b⟩,c⟩
     ·rintro ⟨⟨a,b⟩,c⟩; exact ⟨a.symm,b,c⟩
    have hP:(decide (AA s.partial_.Edges l.length<0)||decide (AA s.partial_.Edges l.length=i))=!(decide (0<=AA s.partial_.Edges l.length)&&!decide (AA s.partial_.Edges l.length=i)):=by
     rw [Bool.not_and,Bool.not_not]
     congr 1
     rw [←decide_not]
     exact decide_eq_decide.2 (by omega)
    rw [hok,hE,hP]
    generalize E7 n (FS s nodes (l++[i]))=A
    generalize decide (0<=AA s.partial_.Edges l.length)=c1
    generalize decide (AA s.partial_.Edges l.length=i)=c2
    generalize decide ((AA s.p.Edges l.length).Type'=(AA s.g.Edges i).Type')=c3
    generalize decide ((AA s.g.Edges i).From=AA nodes (AA s.p.Edges l.length).From)=c4
    generalize decide ((AA s.g.Edges i).To=AA nodes (AA s.p.Edges l.length).To)=c5
    generalize (s.injective&&l.any fun x=>decide (i=x))=c6
    cases c1 <;> cases c2 <;> cases c3 <;> cases c4 <;> cases c5 <;> cases c6 <;> first | rfl | (simp only [Bool.and_self,Bool.and_true,Bool.true_and,Bool.and_false,Bool.false_and,Bool.not_true,Bool.not_false,Bool.or_true,Bool.or_false,Bool.false_or,Bool.true_or,if_true,Bool.false_eq_true,if_false,MC hR,bs]; try rfl)) (by rw [if_neg (by simp [CQ])]),DQ,Int.toNat_natCast,E7]
   rfl
end Go.Sf.Sc
namespace Go.Sf.Sc
open Go Go.Sf
def NV (s:AN) (l:List Int) (i k:Int):Bool:=decide (AA s.g.Edges k=⟨(AA s.p.Edges i).Type',AA l (AA s.p.Edges i).From,AA l (AA s.p.Edges i).To⟩)
def OT (s:AN) (l:List Int) (i:Int):Bool:=(decide ((AA s.p.Edges i).From<l.length)&&decide ((AA s.p.Edges i).To<l.length))&&!(BR s.g.Edges.length).any (NV s l i)
theorem cW {s:AN} {l:List Int} (hf:Ki (FS s [] [])):FY s l=some (!anyR (OT s l) 0 s.p.Edges.length):=by
 unfold FY
 rw [B8 (OT s l) false]
 ·cases anyR (OT s l) 0 s.p.Edges.length <;> rfl
 ·intro i i0 i1 _
  have he:=hf.ends _ (AT (l:=s.p.Edges) i0 i1)
  rw [AG i0 i1,bs]
  unfold OT
  by_cases hF:(AA s.p.Edges i).From<l.length
  ·by_cases hT:(AA s.p.Edges i).To<l.length
   ·rw [if_neg (by simp; omega),HY (fun k=>(BR k.toNat).any (NV s l i)) (by omega) (by rfl),bs,Int.toNat_natCast,decide_eq_true hF,decide_eq_true hT]
    ·cases (BR s.g.Edges.length).any (NV s l i) <;> rfl
    ·intro k k0 k1
     rw [AG k0 k1,bs,J0 k0,List.any_append]
     have hE:NV s l i k=(decide ((AA s.p.Edges i).Type'=(AA s.g.Edges k).Type')&&decide ((AA s.g.Edges k).From=AA l (AA s.p.Edges i).From)&&decide ((AA s.g.Edges k).To=AA l (AA s.p.Edges i).To)):=by
      unfold NV
      rw [Bool.eq_iff_iff]
      simp only [Bool.and_eq_true,decide_eq_true_eq]
      generalize AA s.g.Edges k=x
      obtain ⟨x1,x2,x3⟩:=x
      simp only [CS.mk.injEq]
      constructor
      ·rintro ⟨a,b,c⟩; exact ⟨⟨a.symm,b⟩,c⟩
      ·rintro ⟨⟨a,b⟩,c⟩; exact ⟨a.symm,b,c⟩
     rw [AG he.1 hF,AG he.2.2.1 hT]
     simp only [List.any_cons,List.any_nil,Bool.or_false,bs]
     rw [hE]
     generalize (BR k.toNat).any (NV s l i)=c1
     generalize decide ((AA s.p.Edges i).Type'=(AA s.g.Edges k).Type')=c3
     generalize decide ((AA s.g.Edges k).From=AA l (AA s.p.Edges i).From)=c4
     generalize decide ((AA s.g.Edges k).To=AA l (AA s.p.Edges i).To)=c5
     cases c1 <;> cases c3 <;> cases c4 <;> cases c5 <;> rfl
   ·rw [if_pos (by simp; omega),decide_eq_false hT]; simp
  ·rw [if_pos (by simp; omega),decide_eq_false hF]; simp
theorem cT {s:AN} {l:List Int} (hf:Ki (FS s [] [])) (h:anyR (OT s l) 0 s.p.Edges.length=true):∃ i,Ux (FS s l []) i:=by
 rw [Hc] at h
 obtain ⟨i,i0,i1,h⟩:=h
 unfold OT at h
 rw [Bool.and_eq_true,Bool.and_eq_true,decide_eq_true_eq,decide_eq_true_eq,Bool.not_eq_true',List.any_eq_false] at h
 have he:=hf.ends _ (AT (l:=s.p.Edges) i0 i1)
 refine ⟨i,i0,i1,he.1,h.1.1,he.2.2.1,h.1.2,fun k k0 k1=>?_⟩
 have:=h.2 k (I8.2 ⟨k0,k1⟩)
 have e:NV s l i k=false:=by rw [←Bool.not_eq_true]; exact this
 rw [QL]
 show ((decide (AA s.partial_.Edges i<0)||decide (AA s.partial_.Edges i=k))&&NV s l i k)=false
 rw [e,Bool.and_false]
end Go.Sf.Sc
namespace Go.Sf.Sc
open Go Go.Sf
theorem ST:∀ (n:Nat) (f:AI) (o:List Morphism),G4 n (Oh f o)=G4 n f
 | 0,f,o=>Mr _ f o
 | n+1,f,o=>by
  rw [G4,G4]
  refine congrArg (fun F=>(BR f.g.Nodes.length).flatMap F) (funext fun k=>?_)
  have:=ST n { f with nodes:=f.nodes++[k] } o
  show (if O7 f k=true then G4 n (Oh { f with nodes:=f.nodes++[k] } o) else [])=_
  rw [this]
theorem Ry:∀ (n:Nat) (s:AN) (l:List Int),G0 s.t->Ki (FS s [] [])->QR s->l.length+n=s.p.Nodes.length->∀ m,n+1<=m->CJ m s l=some (CQ s (G4 n (FS s l [])))
 | n,s,l,ht,hf,hr,hl,m,hm=>by
  obtain ⟨m,rfl⟩:∃ k,m=k+1:=⟨m - 1,by omega⟩
  have hs:=hf.small
  have s1:s.p.Nodes.length<=1000:=hs.1
  have s3:s.g.Nodes.length<=1000:=hs.2.2.1
  have h0:=hr.m0
  have h1:=hr.m1
  have h2:=hr.out
  rw [CJ]
  by_cases hfull:(s.found.length:Int)=s.most+1
  ·rw [if_pos (by simp; omega),Q4 hfull]; rfl
  rw [if_neg (by simp; omega),cW hf]
  cases hd:anyR (OT s l) 0 s.p.Edges.length
  case true=>
   obtain ⟨i,hi⟩:=cT hf hd
   rw [Sd n (FS s l []) i rfl hi,MC hr]; rfl
  simp only [bs,Bool.not_false,Bool.not_true,Bool.false_eq_true,if_false]
  match n,hl,hm with
  | 0,hl,hm=>
   rw [if_pos (by simp; omega),Option.bind_fun_some,G4]
   exact F4 (s.p.Edges.length+1) fun m hm=>Rx s.p.Edges.length s l [] hf hr (by omega) (by simp) m (by omega)
  | n+1,hl,hm=>
   have hpn:(l.length:Int)<s.p.Nodes.length:=by omega
   have hi0:(0:Int)<=l.length:=by omega
   have hpp:(l.length:Int)<s.partial_.Nodes.length:=by
    have:s.partial_.Nodes.length=s.p.Nodes.length:=hf.pn
    omega
   have tl:(I6 s.t).length=s.t.Nodes.length:=by unfold I6; rw [List.length_map,D7]
   have hkd:=hf.kinds _ (AT (l:=s.p.Nodes) hi0 hpn)
   have hk1:AA s.p.Nodes l.length<s.t.Nodes.length:=by rw [←tl]; exact hkd.2.1
   have hrow:AA (I6 s.t) (AA s.p.Nodes l.length)=JX s.t (AA s.p.Nodes l.length):=Ll (JX s.t) hkd.1 hk1
   rw [if_neg (by simp; omega)]
   rw [Tg (fun i=>CQ s ((BR i.toNat).flatMap fun k=>if O7 (FS s l []) k=true then G4 n (FS s (l++[k]) []) else [])) (a:=0) (b:=(s.g.Nodes.length:Int)) (s:=s) (by omega) (MC hr).symm (fun i i0 i1=>by
    have hg:∀ F,CQ s ((BR (i+1).toNat).flatMap F)=CQ (CQ s ((BR i.toNat).flatMap F)) (F i):=by
     intro F
     rw [P2,J0 i0,List.flatMap_append]; simp
    rw [hg]
    generalize (BR i.toNat).flatMap (fun k=>if O7 (FS s l []) k=true then G4 n (FS s (l++[k]) []) else [])=L
    have hR:=Q5 hr L
    rw [if_pos (by rw [decide_eq_true_eq]; exact i1)]
    have hty:=hkd.2.2 _ (AT (l:=s.g.Nodes) i0 i1)
    have ht1:AA s.g.Nodes i<s.t.Nodes.length:=by
     have h:=hty.2
     have e:AA (FS s [] []).is (AA s.p.Nodes l.length)=JX s.t (AA s.p.Nodes l.length):=hrow
     rw [e] at h
     unfold JX at h
     rwa [List.length_map,D7] at h
    have hbl:Hi (CQ s L).t (AA s.g.Nodes i) (AA s.p.Nodes l.length)=some (Hv s.t (AA s.g.Nodes i) (AA s.p.Nodes l.length)):=Pp ht hty.1 ht1 hkd.1
    have g1:AH (CQ s L).g.Nodes i=some (AA s.g.Nodes i):=AG i0 i1
    have g2:AH (CQ s L).partial_.Nodes (l.length:Int)=some (AA s.partial_.Nodes l.length):=AG hi0 hpp
    have g3:DI (CQ s L) l i=some (s.injective&&l.any fun x=>decide (i=x)):=Wh (CQ s L) (by omega) i
    have g4:AH (CQ s L).p.Nodes (l.length:Int)=some (AA s.p.Nodes l.length):=AG hi0 hpn
    have key:((CM [] l).bind fun x99=>
      (CM x99 [i]).bind fun x102=>
      (CJ m (CQ s L) x102).bind fun x103=>
      some (.next (x103,A3 (i+1)):CD (AN × Int) AN))=some (.next (CQ (CQ s L) (G4 n (FS s (l++[i]) [])),i+1)):=by
     have e2:=Ry n (CQ s L) (l++[i]) ht ⟨hf.pn,hf.pe,hf.ends,hf.kinds,hf.small⟩ hR (by show (l++[i]).length+n=s.p.Nodes.length; rw [List.length_append]; simp; omega) m (by omega)
     have e3:G4 n (FS (CQ s L) (l++[i]) [])=G4 n (FS s (l++[i]) []):=ST n (FS s (l++[i]) []) _
     rw [e3] at e2
     rw [Hd (by unfold BY; omega),bs,DB (by simp; unfold BY; omega),bs,e2,bs,BF (by omega) (by omega)]
    rw [g2,bs,g3,g1,g4,key]
    simp only [bs]
    rw [hbl,BF (n:=i+1) (by omega) (by omega)]
    simp only [bs]
    have hok:O7 (FS s l []) i=((decide (AA s.partial_.Nodes l.length<0)||decide (AA s.partial_.Nodes l.length=i))&&AA (AA (I6 s.t) (AA s.p.Nodes l.length)) (AA s.g.Nodes i)&&!(s.injective&&l.any fun x=>decide (i=x))):=rfl
    have hB:AA (AA (I6 s.t) (AA s.p.Nodes l.length)) (AA s.g.Nodes i)=Hv s.t (AA s.g.Nodes i) (AA s.p.Nodes l.length):=by
     rw [hrow]
     exact Ll (fun k=>Hv s.t k (AA s.p.Nodes l.length)) hty.1 ht1
    have hP:(decide (AA s.partial_.Nodes l.length<0)||decide (AA s.partial_.Nodes l.length=i))=!(decide (0<=AA s.partial_.Nodes l.length)&&!decide (AA s.partial_.Nodes l.length=i)):=by
     rw [Bool.not_and,Bool.not_not]
     congr 1
     rw [←decide_not]
     exact decide_eq_decide.2 (by omega)
    rw [hok,hB,hP]
    generalize G4 n (FS s (l++[i]) [])=A
    generalize decide (0<=AA s.partial_.Nodes l.length)=c1
    generalize decide (AA s.partial_.Nodes l.length=i)=c2
    generalize Hv s.t (AA s.g.Nodes i) (AA s.p.Nodes l.length)=c3
    generalize (s.injective&&l.any fun x=>decide (i=x))=c6
    cases c1 <;> cases c2 <;> cases c3 <;> cases c6 <;> first | rfl | (simp only [Bool.and_self,Bool.and_true,Bool.true_and,Bool.and_false,Bool.false_and,Bool.not_true,Bool.not_false,Bool.or_true,Bool.or_false,if_true,Bool.false_eq_true,if_false,MC hR,bs]; try rfl)) (by rw [if_neg (by simp [CQ])]),DQ,Int.toNat_natCast,G4]
   rfl
end Go.Sf.Sc
namespace Go.Sf.Sc
open Go Go.Sf
def L6 (t:AD) (p g:Graph) (pa:Morphism) (inj:Bool):List Morphism:=(G4 p.Nodes.length (FS ⟨t,p,g,pa,inj,5000,[]⟩ [] [])).take 5001
theorem Z5 {t:AD} {p g:Graph} {pa:Morphism} {inj:Bool} (ht:BU t) (hv:(BA t).2=0) (hF:Ki (FS ⟨t,p,g,pa,inj,5000,[]⟩ [] [])):Gx t p g pa inj 5001=some (L6 t p g pa inj):=by
 unfold Gx
 rw [Y2 ht (GB hv) hv,bs]
 have h:=cJ (f:=FS ⟨t,p,g,pa,inj,5000,[]⟩ [] []) hF ⟨by show (0:Int)<=5000+1; omega,by show (5000:Int)+1<=10000; omega,by show ((0:Nat):Int)<=5000+1; omega⟩ rfl rfl
 rw [Vz _ _ hF rfl] at h
 have e:AI.mk p g (I6 t) pa inj 5001 [] [] []=FS ⟨t,p,g,pa,inj,5000,[]⟩ [] []:=rfl
 rw [e,h]; rfl
theorem jN {t:AD} {p g:Graph} {pa:Morphism} {inj:Bool} (hv:(BA t).2=0) (hF:Ki (FS ⟨t,p,g,pa,inj,5000,[]⟩ [] [])):MA t p g pa inj 5000=some (L6 t p g pa inj):=by
 unfold MA
 have h:Ia ⟨t,p,g,pa,inj,5000,[]⟩ []=some (CQ ⟨t,p,g,pa,inj,5000,[]⟩ (G4 p.Nodes.length (FS ⟨t,p,g,pa,inj,5000,[]⟩ [] []))):=
  F4 (p.Nodes.length+1) fun m hm=>Ry p.Nodes.length ⟨t,p,g,pa,inj,5000,[]⟩ [] (GB hv) hF ⟨by show (0:Int)<=5000; omega,by show (5000:Int)<=9999; omega,by show ((0:Nat):Int)<=5000+1; omega⟩ (by show 0+p.Nodes.length=p.Nodes.length; omega) m hm
 rw [h]; rfl
end Go.Sf.Sc
namespace Go.Sf.Sc
open Go Go.Sf
def OQ (n k:Int):Bool:=decide (k < -1)||decide (n<=k)
def NQ (l:List Int) (n:Int):Int:=if l.any (OQ n)=true then 6 else 0
theorem WS (l:List Int) (n:Int):GV l n=some (NQ l n):=by
 unfold GV NQ
 rw [show (fun y0=>Kb y0 n)=(fun y0=>some (OQ n y0)) from rfl,SX (p:=OQ n) (fun a _=>rfl),bs]
 cases l.any (OQ n) <;> rfl
theorem TL {l:List Int} {c:Int} (n:Int) (h:(l.length:Int)=c):Il l c n=some (NQ l n):=by
 unfold Il NQ
 rw [if_neg (by simp [h]),B8 (fun i=>OQ n (AA l i)) 6]
 ·have e:anyR (fun i=>OQ n (AA l i)) 0 l.length=l.any (OQ n):=by
   rw [Bool.eq_iff_iff,Hc,List.any_eq_true]
   constructor
   ·rintro ⟨i,i0,i1,h⟩
    exact ⟨_,AT i0 i1,h⟩
   ·rintro ⟨x,hx,h⟩
    obtain ⟨i,i0,i1,rfl⟩:=E9 hx
    exact ⟨i,i0,i1,h⟩
  rw [e]
  cases l.any (OQ n) <;> rfl
 ·intro i i0 i1 _
  rw [AG i0 i1,bs,bs]
  unfold OQ
  cases decide (AA l i < -1) <;> cases decide (n<=AA l i) <;> rfl
end Go.Sf.Sc
namespace Go.Sf.Sc
open Go Go.Sf
theorem TE (t:AD) (g:Graph):FH t g=some (FB t g):=by
 unfold FH FB
 rw [show (fun y0=>JZ y0 t)=(fun y0=>some (decide ((t.Nodes.length:Int)<=y0))) from rfl,SX (p:=fun n=>decide ((t.Nodes.length:Int)<=n)) (fun a _=>rfl),bs,
  show (fun y0=>Ja y0 t)=(fun y0=>some (decide ((t.Edges.length:Int)<=y0.Type'))) from rfl,UG (p:=fun e=>decide ((t.Edges.length:Int)<=e.Type')) (fun a _=>rfl),bs]
 cases g.Nodes.any fun n=>decide ((t.Nodes.length:Int)<=n) <;> rfl
def GI (t:AD) (p g:Graph):Int:=if (BA t).2≠0 then (BA t).2 else if CU p≠0 then CU p else if CU g≠0 then CU g else if (FB t p&&FB t g)=true then 0 else 13
theorem Uc {t:AD} (hf:BU t) (p g:Graph):F7 t p g=some (GI t p g):=by
 unfold F7 GI
 rw [Pm hf,bs]
 refine HC fun _=>?_
 have h0:forR (ρ:=Int) (fun (i0:Int) (_:Unit)=>
   (AH [p,g] i0).bind fun x26=>
   (D2 x26).bind fun x29=>
   if (!decide (x29=0))=true then
   some (.ret x29)
   else
   some (.next ())) 0 ([p,g].length:Int) ()=some (if CU p≠0 then .inr (CU p) else if CU g≠0 then .inr (CU g) else .inl ()):=by
  show forGo _ 2 0 ()=_
  rw [GR,show AH [p,g] 0=some p from rfl,bs,Mi,bs]
  by_cases hp:CU p=0
  ·rw [if_neg (by simp [hp]),if_neg (by simp [hp])]
   show forGo _ 1 (0+1) ()=_
   rw [GR,show AH [p,g] (0+1)=some g from rfl,bs,Mi,bs]
   by_cases hg:CU g=0
   ·rw [if_neg (by simp [hg]),if_neg (by simp [hg])]; rfl
   ·rw [if_pos (by simp [hg]),if_pos hg]
  ·rw [if_pos (by simp [hp]),if_pos hp]
 rw [h0]
 by_cases hp:CU p=0
 ·by_cases hg:CU g=0
  ·simp only [hp,hg,ne_eq,not_true_eq_false,if_false,DQ]
   rw [TE,TE,bs]
   cases FB t p <;> cases FB t g <;> rfl
  ·simp only [hp,hg,ne_eq,not_true_eq_false,not_false_eq_true,if_false,if_true,R5]
 ·simp only [hp,ne_eq,not_false_eq_true,if_true,R5]
theorem QI {t:AD} (hf:BU t) (p g:Graph):IN t p g=some (GI t p g):=by
 unfold IN GI
 rw [Po hf,bs]
 refine HC fun _=>?_
 rw [Mk,bs]
 refine HC fun hp=>?_
 rw [Mk,bs]
 refine HC fun hg=>?_
 rw [RI (E6 hp),bs,RI (E6 hg)]
 cases FB t p <;> cases FB t g <;> rfl
end Go.Sf.Sc
namespace Go.Sf.Sc
open Go Go.Sf
theorem Si {t:AD} {p g:Graph} {pa:Morphism} {inj:Bool} (h:GI t p g=0) (h1:pa.Nodes.length=p.Nodes.length) (h2:pa.Edges.length=p.Edges.length):(BA t).2=0∧Ki (FS ⟨t,p,g,pa,inj,5000,[]⟩ [] []):=by
 unfold GI at h
 by_cases hv:(BA t).2=0
 ·rw [if_neg (by simp [hv])] at h
  by_cases hp:CU p=0
  ·rw [if_neg (by simp [hp])] at h
   by_cases hg:CU g=0
   ·rw [if_neg (by simp [hg])] at h
    by_cases hty:(FB t p&&FB t g)=true
    ·rw [Bool.and_eq_true] at hty
     have op:=E6 hp
     have og:=E6 hg
     have tp:=Lk op hty.1
     have tg:=Lk og hty.2
     have tl:(I6 t).length=t.Nodes.length:=by unfold I6; rw [List.length_map,D7]
     refine ⟨hv,h1,h2,fun e he=>?_,fun n hn=>?_,Nat.le_trans op.nodes (by omega),Nat.le_trans op.edges (by omega),Nat.le_trans og.nodes (by omega),Nat.le_trans og.edges (by omega)⟩
     ·have:=op.fit e he
      exact ⟨this.2.1.1,this.2.1.2,this.2.2.1,this.2.2.2⟩
     ·have:=tp.1 n hn
      refine ⟨this.1,by show n<((I6 t).length:Int); rw [tl]; exact this.2,fun k hk=>?_⟩
      have hk:=tg.1 k hk
      refine ⟨hk.1,?_⟩
      show k<((AA (I6 t) n).length:Int)
      unfold I6
      rw [Ll (JX t) this.1 this.2]
      unfold JX
      rw [List.length_map,D7]; exact hk.2
    ·rw [if_neg hty] at h; cases h
   ·rw [if_pos (by simp [hg])] at h; exact absurd h hg
  ·rw [if_pos (by simp [hp])] at h; exact absurd h hp
 ·rw [if_pos (by simp [hv])] at h; exact absurd h hv
def OV (t:AD) (p g:Graph) (pa:Morphism) (inj:Bool):List Morphism × Int:=
 if GI t p g≠0 then ([],GI t p g) else if ¬ (pa.Nodes.length=p.Nodes.length∧pa.Edges.length=p.Edges.length) then ([],20) else
 if NQ pa.Nodes g.Nodes.length≠0 then ([],NQ pa.Nodes g.Nodes.length) else if NQ pa.Edges g.Edges.length≠0 then ([],NQ pa.Edges g.Edges.length) else
 if 5000<(L6 t p g pa inj).length then ([],3) else (L6 t p g pa inj,0)
theorem Xy {t:AD} (hf:BU t) (p g:Graph) (pa:Morphism) (inj:Bool):GF t p g pa inj=some (OV t p g pa inj):=by
 unfold GF OV
 rw [Uc hf,bs]
 refine Je fun h0=>?_
 refine N6 (by simp only [Bool.or_eq_true,Bool.not_eq_true',decide_eq_false_iff_not]; omega) fun h1=>?_
 have h1:=Classical.not_not.1 h1
 rw [WS,bs]
 refine Je fun h2=>?_
 rw [WS,bs]
 refine Je fun h3=>?_
 obtain ⟨hv,hF⟩:=Si (inj:=inj) h0 h1.1 h1.2
 unfold I5
 rw [Z5 hf hv hF,bs]
 by_cases h4:5000<(L6 t p g pa inj).length
 ·rw [if_pos (by rw [decide_eq_true_eq]; omega),if_pos h4]; rfl
 ·rw [if_neg (by rw [decide_eq_true_eq]; omega),if_neg h4]; rfl
theorem X3 {t:AD} (hf:BU t) (p g:Graph) (pa:Morphism) (inj:Bool):Jl t p g pa inj=some (OV t p g pa inj):=by
 unfold Jl OV
 rw [QI hf,bs]
 refine Je fun h0=>?_
 refine N6 (by simp only [Bool.or_eq_true,Bool.not_eq_true',decide_eq_false_iff_not]; omega) fun h1=>?_
 have h1:=Classical.not_not.1 h1
 rw [TL _ (by omega),bs]
 refine Je fun h2=>?_
 rw [TL _ (by omega),bs]
 refine Je fun h3=>?_
 obtain ⟨hv,hF⟩:=Si (inj:=inj) h0 h1.1 h1.2
 rw [jN hv hF,bs]
 by_cases h4:5000<(L6 t p g pa inj).length
 ·rw [if_pos (by rw [decide_eq_true_eq]; omega),if_pos h4]
 ·rw [if_neg (by rw [decide_eq_true_eq]; omega),if_neg h4]
end Go.Sf.Sc
