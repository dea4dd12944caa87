/- Plain lemmas: what the functions of the program and of the reference compute. -/
import Derived.Test.YtmaobfbhdkafkaaGreatP1
import Derived.Test.YtmaobfbhdkafkaaGreatEvA
set_option maxRecDepth 100000
namespace Go.Sf.Sc
open Go Go.Sf
theorem Z6 {t:AD} (hf:BV t) (p:Pattern) {c:AB} (hc:EW c):DY t p c=some (MZ t p c):=by
 by_cases ht:(BC t).2=0
 ·exact cK hf ht p hc
 ·unfold DY MZ
  rw [SW hf,bs]
  refine HM fun h=>?_
  exfalso
  unfold Jq at h
  rw [if_pos ht] at h
  exact ht h
end Go.Sf.Sc
namespace Go.Sf.Sc
open Go Go.Sf
theorem ak {α:Type} [Inhabited α] (b:α->α->Bool) {l m:List α} (hb:∀ x∈l,∀ y∈m,(b x y=true↔x=y)) (hl:l.length=m.length):anyR (fun i=>!b (AA l i) (AA m i)) 0 l.length=false↔l=m:=by
 rw [FL]
 constructor
 ·intro h
  refine be hl (fun i i1 i2=>?_)
  have:=h i i1 i2
  rw [Bool.not_eq_false'] at this
  exact (hb _ (AO i1 i2) _ (AO i1 (by omega))).1 this
 ·rintro rfl i i1 i2
  rw [Bool.not_eq_false']
  exact (hb _ (AO i1 i2) _ (AO i1 i2)).2 rfl
theorem Zo {α:Type} [Inhabited α] [DecidableEq α] {l m:List α} (hl:l.length=m.length) {k:Unit->Option Bool} {kr:Bool->Option Bool}:thenR (forR (ρ:=Bool) (fun (i0:Int) (_:Unit)=>
 (AI l i0).bind fun x18=>
 (AI m i0).bind fun x22=>
 if (!decide (x18=x22))=true then
 some (.ret false)
 else
 some (.next ())) 0 (l.length:Int) ()) k kr=if l=m then k () else kr false:=by
 rw [B3 (fun i=>!decide (AA l i=AA m i)) false]
 ·have:=ak (fun x y:α=>decide (x=y)) (l:=l) (m:=m) (fun _ _ _ _=>decide_eq_true_iff) hl
  by_cases h:l=m
  ·rw [this.2 h,if_pos h]; rfl
  ·rw [if_neg h]
   cases hx:anyR (fun i=>!decide (AA l i=AA m i)) 0 l.length
   ·exact absurd (this.1 hx) h
   ·rfl
 ·intro i i1 i2 _
  rw [AF i1 i2,bs,AF i1 (by omega),bs,IT]
theorem RN {α:Type} [Inhabited α] [DecidableEq α] (l m:List α):(if (!decide ((l.length:Int)=(m.length:Int)))=true then
 some false
 else
 thenR (forR (ρ:=Bool) (fun (i0:Int) (_:Unit)=>
 (AI l i0).bind fun x18=>
 (AI m i0).bind fun x22=>
 if (!decide (x18=x22))=true then
 some (.ret false)
 else
 some (.next ())) 0 (l.length:Int) ()) (fun _=>
 some true) (fun v0=>some v0))=some (decide (l=m)):=by
 by_cases hl:l.length=m.length
 ·rw [if_neg (by simp [hl]),Zo hl]
  by_cases h:l=m
  ·rw [if_pos h,decide_eq_true h]
  ·rw [if_neg h,decide_eq_false h]
 ·rw [if_pos (by simp; omega),decide_eq_false (fun e=>hl (by rw [e]))]
theorem Sa (l m:List Int):FR l m=some (decide (l=m)):=RN l m
theorem aE (l m:List Int):J5 l m=some (decide (l=m)):=RN l m
theorem RT (l m:List Int):Hm l m=some (decide (l=m)):=RN l m
theorem aA (a b:Morphism):JK a b=some (decide (a=b)):=by
 unfold JK
 rw [Sa,Sa]
 obtain ⟨a1,a2⟩:=a
 obtain ⟨b1,b2⟩:=b
 by_cases h:a1=b1 <;> by_cases h':a2=b2 <;> simp [h,h']
end Go.Sf.Sc
namespace Go.Sf.Sc
open Go Go.Sf
mutual
def H3:AB->Nat
 | ⟨_,kids,_,_⟩=>1+MO kids
def MO:List AB->Nat
 | []=>0
 | k::l=>H3 k+MO l
end
mutual
def nJ:AB->Nat
 | ⟨k,kids,_,_⟩=>(if k=5 then 1 else 0)+bn kids
def bn:List AB->Nat
 | []=>0
 | k::l=>max (nJ k) (bn l)
end
theorem St (c:AB):H3 c=1+MO c.Kids:=by cases c; rfl
theorem Zn {l:List AB} {k:Int} (h0:0<=k) (h1:k<l.length):l.drop k.toNat=AA l k::l.drop (k+1).toNat:=by
 rw [show (k+1).toNat=k.toNat+1 by omega,List.drop_eq_getElem_cons (by omega)]
 unfold AA
 rw [List.getD_eq_getElem?_getD,List.getElem?_eq_getElem (by omega)]; rfl
theorem Rg:∀ (N:Nat) (c:AB),SizeOf.sizeOf c<=N->(AJ c).Sm->∀ most:Int,0<=most->most<=1000->∃ r,(∀ n,N<=n->FH n c most=some r)∧-1<=r∧r<=most - 1∧(0<=r->EW c∧(H3 c:Int)+r<=most)
 | 0,c,h,_,_,_,_=>by have:=E6 c; omega
 | N+1,c,h,hs,most,m0,m1=>by
  obtain ⟨hm,hkl,hk⟩:=Zl hs
  obtain ⟨b1,e1,f1⟩:=UR c.Pattern
  obtain ⟨b2,e2,f2⟩:=Zq hm
  have step:∀ n,N+1<=n->∃ m,n=m+1∧N<=m:=fun n hn=>⟨n - 1,by omega,by omega⟩
  cases b1
  ·refine ⟨-1,fun n hn=>?_,by omega,by omega,fun h=>by omega⟩
   obtain ⟨n,rfl,_⟩:=step n hn
   rw [FH,e1]; rfl
  cases b2
  ·refine ⟨-1,fun n hn=>?_,by omega,by omega,fun h=>by omega⟩
   obtain ⟨n,rfl,_⟩:=step n hn
   rw [FH,e1,bs,e2]; rfl
  have loop:∀ (m:Nat) (k left:Int),0<=k->k+m=c.Kids.length->-1<=left->left<=1000->∃ l' k',(∀ n,N<=n->K9 (ρ:=Int) (fun (s0:Int × Int)=>
    if ((decide (s0.2<(c.Kids.length:Int)))&&(decide (0<=s0.1)))=true then
    (AI c.Kids s0.2).bind fun x32=>
    (FH n x32 s0.1).bind fun x35=>
    some (.next (x35,A0 (s0.2+1)))
    else
    some (.brk (s0.1,s0.2))) (left,k) (.inl (l',k')))∧-1<=l'∧l'<=left∧(0<=l'->(∀ j,k<=j->j<c.Kids.length->EW (AA c.Kids j))∧(MO (c.Kids.drop k.toNat):Int)+l'<=left):=by
   intro m
   induction m with
   | zero=>
    intro k left k0 kl l0 l1
    refine ⟨left,k,fun n hn=>.brk ?_,l0,by omega,fun _=>⟨fun j j1 j2=>by omega,?_⟩⟩
    ·rw [if_neg (by simp; omega)]
    ·rw [List.drop_of_length_le (by omega),MO]; omega
   | succ m ih=>
    intro k left k0 kl l0 l1
    by_cases hl:0<=left
    ·have hmem:=AO (l:=c.Kids) k0 (by omega)
     have:=GC hmem
     obtain ⟨r,r1,r2,r3,r4⟩:=Rg N _ (by omega) (hk _ hmem) left hl l1
     obtain ⟨l',k',a1,a2,a3,a4⟩:=ih (k+1) r (by omega) (by omega) r2 (by omega)
     refine ⟨l',k',fun n hn=>.next (s':=(r,k+1)) ?_ (a1 n hn),a2,by omega,fun h0=>⟨fun j j1 j2=>?_,?_⟩⟩
     ·rw [if_pos (by simp; omega),AF k0 (by omega),bs,r1 n hn,bs,BI (by omega) (by omega)]
     ·by_cases hj:j=k
      ·subst hj; exact (r4 (by omega)).1
      ·exact (a4 h0).1 j (by omega) j2
     ·have e1:=(r4 (by omega)).2
      have e2:=(a4 h0).2
      rw [Zn k0 (by omega),MO]
      omega
    ·refine ⟨left,k,fun n hn=>.brk ?_,l0,by omega,fun h=>by omega⟩
     rw [if_neg (by simp; omega)]
  obtain ⟨l',k',a1,a2,a3,a4⟩:=loop c.Kids.length 0 (most - 1) (by omega) (by omega) (by omega) (by omega)
  refine ⟨l',fun n hn=>?_,a2,a3,fun h0=>⟨.mk c (f1 rfl) (f2 rfl) (fun k hk=>?_),?_⟩⟩
  ·obtain ⟨n,rfl,hn'⟩:=step n hn
   rw [FH,e1,bs,e2]
   simp only [bs,Bool.not_true,Bool.false_eq_true,if_false]
   rw [BI (n:=most - 1) (by omega) (by omega),(a1 n hn').eq,DT]
  ·obtain ⟨j,j1,j2,rfl⟩:=FF hk
   exact (a4 h0).1 j j1 j2
  ·have:=(a4 h0).2
   rw [show (0:Int).toNat=0 from rfl,List.drop_zero] at this
   rw [St]
   omega
theorem V3 {c:AB} (hs:(AJ c).Sm):∃ b,MH c=some b∧(b=true->EW c∧H3 c<=40):=by
 obtain ⟨r,r1,_,_,r4⟩:=Rg (SizeOf.sizeOf c) c (Nat.le_refl _) hs 40 (by omega) (by omega)
 have e:OS c 40=some r:=ET (SizeOf.sizeOf c) r1
 unfold MH
 rw [e]
 exact ⟨_,rfl,fun h=>by have:=r4 (by simpa using h); exact ⟨this.1,by have:=this.2; simp at h; omega⟩⟩
theorem Ss:∀ {l:List AB} {k:AB},k∈l->H3 k<=MO l
 | x::l,k,h=>by
  rw [MO]
  rcases List.mem_cons.1 h with rfl | h
  ·omega
  ·have:=Ss h; omega
end Go.Sf.Sc
namespace Go.Sf.Sc
open Go Go.Sf
structure Kt (f:AK):Prop where
 pn:f.partial_.Nodes.length=f.p.Nodes.length
 pe:f.partial_.Edges.length=f.p.Edges.length
 ends : ∀ e ∈ f.p.Edges, 0 ≤ e.From ∧ e.From < f.p.Nodes.length ∧ 0 ≤ e.To ∧ e.To < f.p.Nodes.length
 kinds:∀ n∈f.p.Nodes,0<=n∧n<f.is.length∧∀ t∈f.g.Nodes,0<=t∧t<(AA f.is n).length
 small:f.p.Nodes.length<=1000∧f.p.Edges.length<=1000∧f.g.Nodes.length<=1000∧f.g.Edges.length<=1000
def Jf (f:AK) (i k:Int):Bool:=
 (decide (AA f.partial_.Edges i<0)||decide (AA f.partial_.Edges i=k))&&decide (AA f.g.Edges k=⟨(AA f.p.Edges i).Type',AA f.nodes (AA f.p.Edges i).From,AA f.nodes (AA f.p.Edges i).To⟩)
theorem WD {α:Type} {l:List α} (h:l≠[]):TH l=some ():=by
 unfold TH
 cases l with
 | nil=>exact absurd rfl h
 | cons _ _=>rfl
theorem S7 {l:List Int} {i:Int} (h0:0<=i) (h1:i<l.length):Hy l i=some (AA l i):=by
 unfold Hy
 rw [WD (by intro h; subst h; simp at h1; omega),bs,AF h0 h1,bs]
theorem WQ {f:AK} (hf:Kt f) {i k:Int} (i0:0<=i) (i1:i<f.p.Edges.length) (k0:0<=k) (k1:k<f.g.Edges.length) (hF:(AA f.p.Edges i).From<f.nodes.length) (hT:(AA f.p.Edges i).To<f.nodes.length):EC f i k=some (Jf f i k):=by
 have he:=hf.ends _ (AO i0 i1)
 unfold EC Jf
 rw [AF i0 i1,bs,S7 i0 (by rw [hf.pe]; exact i1),bs,AF k0 k1,bs,AF he.1 hF,bs,AF he.2.2.1 hT,bs]
 by_cases h1:AA f.partial_.Edges i<0
 ·rw [if_neg (by simp; omega)]; simp [h1]
 ·by_cases h2:AA f.partial_.Edges i=k
  ·rw [if_neg (by simp [h2])]; simp [h2]
  ·rw [if_pos (by simp [h2]; omega)]; simp [h1,h2]
def Ln (f:AK):Bool:=!anyR (fun i=>decide (max (AA f.p.Edges i).From (AA f.p.Edges i).To=(f.nodes.length:Int) - 1)&&!anyR (fun k=>Jf f i k) 0 f.g.Edges.length) 0 f.p.Edges.length
theorem Zd {f:Int->Bool->Option (CH Bool Bool)} (p:Int->Bool) {b:Int} (h:∀ i,0<=i->i<b->f i false=some (if p i=true then .brk true else .next false)):forR f 0 b false=some (.inl (anyR p 0 b)):=by
 have key:∀ (m:Nat) (i:Int),0<=i->i+m=b->forGo f m i false=some (.inl (anyR p i b)):=by
  intro m
  induction m with
  | zero=>
   intro i i0 hi
   have:anyR p i b=false:=by rw [FL]; intro j j1 j2; omega
   rw [this]; rfl
  | succ m ih=>
   intro i i0 hi
   rw [GV,h i i0 (by omega)]
   by_cases hp:p i=true
   ·have:anyR p i b=true:=by rw [Ho]; exact ⟨i,Int.le_refl _,by omega,hp⟩
    rw [if_pos hp,this]
   ·have e:anyR p i b=anyR p (i+1) b:=by
     rw [Bool.eq_iff_iff,Ho,Ho]
     constructor
     ·rintro ⟨j,j1,j2,j3⟩
      have:j≠i:=fun e=>hp (e ▸ j3)
      exact ⟨j,by omega,j2,j3⟩
     ·rintro ⟨j,j1,j2,j3⟩
      exact ⟨j,by omega,j2,j3⟩
    rw [if_neg hp,e]
    exact ih (i+1) (by omega) (by omega)
 unfold forR
 by_cases hb:0<=b
 ·exact key _ 0 (Int.le_refl _) (by omega)
 ·have:anyR p 0 b=false:=by rw [FL]; intro j j1 j2; omega
  rw [this,show (b - 0).toNat=0 by omega]; rfl
theorem VP {f:AK} (hf:Kt f) (hn:0<f.nodes.length) (hn2:f.nodes.length<=1000):CJ f=some (Ln f):=by
 unfold CJ Ln
 rw [B3 (fun i=>decide (max (AA f.p.Edges i).From (AA f.p.Edges i).To=(f.nodes.length:Int) - 1)&&!anyR (fun k=>Jf f i k) 0 f.g.Edges.length) false]
 ·generalize anyR (fun i=>decide (max (AA f.p.Edges i).From (AA f.p.Edges i).To=(f.nodes.length:Int) - 1)&&!anyR (fun k=>Jf f i k) 0 f.g.Edges.length) 0 f.p.Edges.length=b
  cases b <;> rfl
 ·intro i i0 i1 _
  rw [AF i0 i1,bs,BI (n:=(f.nodes.length:Int) - 1) (by omega) (by omega)]
  by_cases hm:max (AA f.p.Edges i).From (AA f.p.Edges i).To=(f.nodes.length:Int) - 1
  ·rw [if_neg (by simp [hm]),Zd (fun k=>Jf f i k) (fun k k0 k1=>by
    rw [WQ hf i0 i1 k0 k1 (by omega) (by omega),bs,IT])]
   generalize anyR (fun k=>Jf f i k) 0 f.g.Edges.length=b
   rw [decide_eq_true hm]
   cases b <;> rfl
  ·rw [if_pos (by simp [hm]),if_neg (by simp [hm])]
def BT (n:Nat):List Int:=(List.range n).map Int.ofNat
theorem Pl (n:Nat):BT (n+1)=BT n++[(n:Int)]:=by
 unfold BT
 rw [List.range_succ,List.map_append]; rfl
def Oh (f:AK) (k:Int):Bool:=(decide (AA f.partial_.Nodes f.nodes.length<0)||decide (AA f.partial_.Nodes f.nodes.length=k))&&AA (AA f.is (AA f.p.Nodes f.nodes.length)) (AA f.g.Nodes k)&&!(f.injective&&f.nodes.any fun x=>decide (k=x))
def Og (f:AK) (k:Int):Bool:=Jf f f.edges.length k&&!(f.injective&&f.edges.any fun x=>decide (k=x))
def FC:Nat->AK->List Morphism
 | 0,f=>[⟨f.nodes,f.edges⟩]
 | n+1,f=>(BT f.g.Edges.length).flatMap fun k=>if Og f k=true then FC n { f with edges:=f.edges++[k] } else []
def I1:Nat->AK->List Morphism
 | 0,f=>FC f.p.Edges.length f
 | n+1,f=>(BT f.g.Nodes.length).flatMap fun k=>if (Oh f k&&Ln { f with nodes:=f.nodes++[k] })=true then I1 n { f with nodes:=f.nodes++[k] } else []
theorem SH {α:Type} (a b:List α) (m:Nat):((a.take m)++b).take m=(a++b).take m:=by
 by_cases h:a.length<=m
 ·rw [List.take_of_length_le h]
 ·rw [List.take_append_of_le_length (by simp; omega),List.take_append_of_le_length (by omega),List.take_take,Nat.min_self]
end Go.Sf.Sc
namespace Go.Sf.Sc
open Go Go.Sf
def OK (f:AK) (o:List Morphism):AK:={ f with out:=o }
theorem Kt.out {f:AK} (h:Kt f) (o:List Morphism):Kt (OK f o):=⟨h.pn,h.pe,h.ends,h.kinds,h.small⟩
theorem Mw:∀ (n:Nat) (f:AK) (o:List Morphism),FC n (OK f o)=FC n f
 | 0,_,_=>rfl
 | n+1,f,o=>by
  rw [FC,FC]
  refine congrArg (fun F=>(BT f.g.Edges.length).flatMap F) (funext fun k=>?_)
  have:=Mw n { f with edges:=f.edges++[k] } o
  show (if Og f k=true then FC n (OK { f with edges:=f.edges++[k] } o) else [])=_
  rw [this]
theorem Si:∀ (n:Nat) (f:AK) (o:List Morphism),I1 n (OK f o)=I1 n f
 | 0,f,o=>Mw _ f o
 | n+1,f,o=>by
  rw [I1,I1]
  refine congrArg (fun F=>(BT f.g.Nodes.length).flatMap F) (funext fun k=>?_)
  have:=Si n { f with nodes:=f.nodes++[k] } o
  show (if (Oh f k&&Ln { f with nodes:=f.nodes++[k] })=true then I1 n (OK { f with nodes:=f.nodes++[k] } o) else [])=_
  rw [this]
def BF (f:AK) (l:List Morphism):AK:=OK f ((f.out++l).take f.most.toNat)
structure RK (f:AK):Prop where
 m0:0<=f.most
 m1:f.most<=10000
 out:(f.out.length:Int)<=f.most
theorem Jl {f:AK} (h:RK f):BF f []=f:=by
 unfold BF
 rw [List.append_nil,List.take_of_length_le (by have:=h.out; have:=h.m0; omega)]; rfl
theorem Rs {f:AK} (h:(f.out.length:Int)=f.most) (l:List Morphism):BF f l=f:=by
 unfold BF
 rw [List.take_append_of_le_length (by omega),List.take_of_length_le (by omega)]; rfl
theorem Ru {f:AK} (h:RK f) (l:List Morphism):RK (BF f l):=by
 refine ⟨h.m0,h.m1,?_⟩
 have:=h.m0
 show (((f.out++l).take f.most.toNat).length:Int)<=f.most
 rw [List.length_take]; omega
theorem Rt (f:AK) (a b:List Morphism):BF (BF f a) b=BF f (a++b):=by
 show OK f ((((f.out++a).take f.most.toNat)++b).take f.most.toNat)=_
 rw [SH,List.append_assoc]; rfl
theorem Qr:∀ (n:Nat) (f:AK),Kt f->RK f->f.nodes.length=f.p.Nodes.length->f.edges.length+n=f.p.Edges.length->∀ m,n+1<=m->A3 m f=some (BF f (FC n f))
 | n,f,hf,hr,hn,he,m,hm=>by
  obtain ⟨m,rfl⟩:∃ k,m=k+1:=⟨m - 1,by omega⟩
  have hs:=hf.small
  have h0:=hr.m0
  have h1:=hr.m1
  have h2:=hr.out
  rw [A3]
  by_cases hfull:(f.out.length:Int)=f.most
  ·rw [if_pos (by simpa using hfull),Rs hfull]; rfl
  rw [if_neg (by simpa using hfull),if_neg (by simp; omega)]
  match n,he,hm with
  | 0,he,hm=>
   rw [if_neg (by simp; omega)]
   unfold slices_Clone_int
   rw [Hp (by unfold B0; omega),bs,Hp (by unfold B0; omega),bs,DI (by simp; unfold B0; omega),bs,bs]
   unfold BF
   rw [List.take_of_length_le (by simp [FC]; omega)]; rfl
  | n+1,he,hm=>
   rw [if_pos (by simp; omega)]
   have F:∀ k,Og f k=true->Kt { f with edges:=f.edges++[k] }:=fun k _=>⟨hf.pn,hf.pe,hf.ends,hf.kinds,hf.small⟩
   rw [Hj (a:=0) (s:=f) (fun i=>BF f ((BT i.toNat).flatMap fun k=>if Og f k=true then FC n { f with edges:=f.edges++[k] } else [])) (by omega) (Jl hr)]
   ·rw [bs,bs,Int.toNat_natCast,FC]
   ·intro i i0 i1
    have hu:BT (i+1).toNat=BT i.toNat++[i]:=by
     rw [show (i+1).toNat=i.toNat+1 by omega,Pl]
     rw [show ((i.toNat:Nat):Int)=i by omega]
    have hg:∀ l,BF f ((BT (i+1).toNat).flatMap l)=BF (BF f ((BT i.toNat).flatMap l)) (l i):=by
     intro l
     rw [Rt,hu,List.flatMap_append]; simp
    rw [hg]
    generalize (BT i.toNat).flatMap (fun k=>if Og f k=true then FC n { f with edges:=f.edges++[k] } else [])=L
    have hR:=Ru hr L
    have hf':Kt (BF f L):=hf.out _
    have hend:=hf.ends _ (AO (l:=f.p.Edges) (i:=(f.edges.length:Int)) (by omega) (by omega))
    rw [WQ hf' (i:=(f.edges.length:Int)) (k:=i) (by omega) (by show _<(f.p.Edges.length:Int); omega) i0 (by exact i1) (by show (AA f.p.Edges f.edges.length).From<(f.nodes.length:Int); omega) (by show (AA f.p.Edges f.edges.length).To<(f.nodes.length:Int); omega),bs]
    have hc:DG (BF f L).edges i=some (f.edges.any fun x=>decide (i=x)):=Sv f.edges i
    rw [hc]
    have hfit:Jf (BF f L) f.edges.length i=Jf f f.edges.length i:=rfl
    have key:((CR (BF f L).edges [i]).bind fun x193=>
      (A3 m (AK.mk (BF f L).p (BF f L).g (BF f L).is (BF f L).partial_ (BF f L).injective (BF f L).most (BF f L).nodes x193 (BF f L).out)).bind fun x197=>
      (slc x197.edges 0 (f.edges.length:Int)).bind fun x204=>
      some (AK.mk x197.p x197.g x197.is x197.partial_ x197.injective x197.most x197.nodes x204 x197.out))=some (BF (BF f L) (FC n { f with edges:=f.edges++[i] })):=by
     have e1:CR (BF f L).edges [i]=some (f.edges++[i]):=DI (by show f.edges.length+1<=B0; unfold B0; omega)
     have e2:=Qr n { BF f L with edges:=f.edges++[i] } ⟨hf.pn,hf.pe,hf.ends,hf.kinds,hf.small⟩ ⟨hR.m0,hR.m1,hR.out⟩ hn (by show (f.edges++[i]).length+n=f.p.Edges.length; simp; omega) m (by omega)
     have e3:FC n { BF f L with edges:=f.edges++[i] }=FC n { f with edges:=f.edges++[i] }:=Mw n { f with edges:=f.edges++[i] } _
     rw [e3] at e2
     rw [e1,bs]
     show (A3 m { BF f L with edges:=f.edges++[i] }).bind _=_
     rw [e2,bs]
     have e4:slc (BF { BF f L with edges:=f.edges++[i] } (FC n { f with edges:=f.edges++[i] })).edges 0 (f.edges.length:Int)=some f.edges:=by
      show slc (f.edges++[i]) 0 (f.edges.length:Int)=_
      rw [Lr (by omega) (by rw [List.length_append]; omega),Int.toNat_natCast,List.take_left]
     rw [e4]; rfl
    rw [key,hfit]
    have hok:Og f i=(Jf f f.edges.length i&&!(f.injective&&f.edges.any fun x=>decide (i=x))):=rfl
    have hinj:(BF f L).injective=f.injective:=rfl
    rw [hok,hinj]
    generalize hA:FC n { f with edges:=f.edges++[i] }=A
    cases Jf f f.edges.length i
    ·simp only [Bool.false_and,Bool.false_eq_true,if_false,Jl hR]; rfl
    ·cases f.injective
     ·rfl
     ·cases f.edges.any fun x=>decide (i=x)
      ·rfl
      ·simp only [Bool.and_self,Bool.not_true,Bool.and_false,Bool.false_eq_true,if_false,Jl hR]; rfl
end Go.Sf.Sc
namespace Go.Sf.Sc
open Go Go.Sf
theorem Qs:∀ (n:Nat) (f:AK),Kt f->RK f->f.edges=[]->f.nodes.length+n=f.p.Nodes.length->∀ m,n+f.p.Edges.length+1<=m->A3 m f=some (BF f (I1 n f))
 | 0,f,hf,hr,he,hn,m,hm=>by
  rw [I1]
  exact Qr _ f hf hr (by omega) (by rw [he]; simp) m (by omega)
 | n+1,f,hf,hr,he,hn,m,hm=>by
  obtain ⟨m,rfl⟩:∃ k,m=k+1:=⟨m - 1,by omega⟩
  have hs:=hf.small
  have h0:=hr.m0
  have h1:=hr.m1
  have h2:=hr.out
  rw [A3]
  by_cases hfull:(f.out.length:Int)=f.most
  ·rw [if_pos (by simpa using hfull),Rs hfull]; rfl
  rw [if_neg (by simpa using hfull),if_pos (by simp; omega)]
  rw [Hj (a:=0) (s:=f) (fun i=>BF f ((BT i.toNat).flatMap fun k=>if (Oh f k&&Ln { f with nodes:=f.nodes++[k] })=true then I1 n { f with nodes:=f.nodes++[k] } else [])) (by omega) (Jl hr)]
  ·rw [bs,bs,Int.toNat_natCast,I1]
  ·intro i i0 i1
   have hu:BT (i+1).toNat=BT i.toNat++[i]:=by
    rw [show (i+1).toNat=i.toNat+1 by omega,Pl]
    rw [show ((i.toNat:Nat):Int)=i by omega]
   have hg:∀ l,BF f ((BT (i+1).toNat).flatMap l)=BF (BF f ((BT i.toNat).flatMap l)) (l i):=by
    intro l
    rw [Rt,hu,List.flatMap_append]; simp
   rw [hg]
   generalize (BT i.toNat).flatMap (fun k=>if (Oh f k&&Ln { f with nodes:=f.nodes++[k] })=true then I1 n { f with nodes:=f.nodes++[k] } else [])=L
   have hR:=Ru hr L
   have hpn:(f.nodes.length:Int)<(f.p.Nodes.length:Int):=by omega
   have hkd:=hf.kinds _ (AO (l:=f.p.Nodes) (i:=(f.nodes.length:Int)) (by omega) hpn)
   have hty:=hkd.2.2 _ (AO i0 i1)
   have key:((CR (BF f L).nodes [i]).bind fun x123=>
     (CJ (AK.mk (BF f L).p (BF f L).g (BF f L).is (BF f L).partial_ (BF f L).injective (BF f L).most x123 (BF f L).edges (BF f L).out)).bind fun x127=>
     if x127=true then
     (A3 m (AK.mk (BF f L).p (BF f L).g (BF f L).is (BF f L).partial_ (BF f L).injective (BF f L).most x123 (BF f L).edges (BF f L).out)).bind fun x129=>
     (slc x129.nodes 0 (f.nodes.length:Int)).bind fun x136=>
     some (AK.mk x129.p x129.g x129.is x129.partial_ x129.injective x129.most x136 x129.edges x129.out)
     else
     (slc x123 0 (f.nodes.length:Int)).bind fun x136=>
     some (AK.mk (BF f L).p (BF f L).g (BF f L).is (BF f L).partial_ (BF f L).injective (BF f L).most x136 (BF f L).edges (BF f L).out))=some (BF (BF f L) (if Ln { f with nodes:=f.nodes++[i] }=true then I1 n { f with nodes:=f.nodes++[i] } else [])):=by
    have e1:CR (BF f L).nodes [i]=some (f.nodes++[i]):=DI (by show f.nodes.length+1<=B0; unfold B0; omega)
    have e0:slc (f.nodes++[i]) 0 (f.nodes.length:Int)=some f.nodes:=by
     rw [Lr (by omega) (by rw [List.length_append]; omega),Int.toNat_natCast,List.take_left]
    have ep:CJ { BF f L with nodes:=f.nodes++[i] }=some (Ln { f with nodes:=f.nodes++[i] }):=VP (f:={ BF f L with nodes:=f.nodes++[i] }) ⟨hf.pn,hf.pe,hf.ends,hf.kinds,hf.small⟩ (by show 0<(f.nodes++[i]).length; simp) (by show (f.nodes++[i]).length<=1000; rw [List.length_append]; simp; omega)
    have e2:=Qs n { BF f L with nodes:=f.nodes++[i] } ⟨hf.pn,hf.pe,hf.ends,hf.kinds,hf.small⟩ ⟨hR.m0,hR.m1,hR.out⟩ he (by show (f.nodes++[i]).length+n=f.p.Nodes.length; rw [List.length_append]; simp; omega) m (by show n+f.p.Edges.length+1<=m; omega)
    have e3:I1 n { BF f L with nodes:=f.nodes++[i] }=I1 n { f with nodes:=f.nodes++[i] }:=Si n { f with nodes:=f.nodes++[i] } _
    rw [e3] at e2
    rw [e1,bs]
    show (CJ { BF f L with nodes:=f.nodes++[i] }).bind _=_
    rw [ep,bs]
    cases Ln { f with nodes:=f.nodes++[i] }
    ·rw [if_neg (by decide),if_neg (by decide),e0,Jl hR]; rfl
    ·rw [if_pos rfl,if_pos rfl]
     show (A3 m { BF f L with nodes:=f.nodes++[i] }).bind _=_
     rw [e2,bs]
     have e4:slc (BF { BF f L with nodes:=f.nodes++[i] } (I1 n { f with nodes:=f.nodes++[i] })).nodes 0 (f.nodes.length:Int)=some f.nodes:=e0
     rw [e4]; rfl
   have hw:Hy (BF f L).partial_.Nodes (f.nodes.length:Int)=some (AA f.partial_.Nodes f.nodes.length):=S7 (by omega) (by show (f.nodes.length:Int)<(f.partial_.Nodes.length:Int); rw [hf.pn]; exact hpn)
   have hp:AI (BF f L).p.Nodes (f.nodes.length:Int)=some (AA f.p.Nodes f.nodes.length):=AF (by omega) hpn
   have hi:AI (BF f L).is (AA f.p.Nodes f.nodes.length)=some (AA f.is (AA f.p.Nodes f.nodes.length)):=AF hkd.1 hkd.2.1
   have ht:AI (AA f.is (AA f.p.Nodes f.nodes.length)) (AA f.g.Nodes i)=some (AA (AA f.is (AA f.p.Nodes f.nodes.length)) (AA f.g.Nodes i)):=AF hty.1 hty.2
   have hc:DG (BF f L).nodes i=some (f.nodes.any fun x=>decide (i=x)):=Sv f.nodes i
   have hinj:(BF f L).injective=f.injective:=rfl
   have hok:Oh f i=((decide (AA f.partial_.Nodes f.nodes.length<0)||decide (AA f.partial_.Nodes f.nodes.length=i))&&AA (AA f.is (AA f.p.Nodes f.nodes.length)) (AA f.g.Nodes i)&&!(f.injective&&f.nodes.any fun x=>decide (i=x))):=rfl
   rw [AF i0 i1,bs,hw,bs,hp,bs,hi,bs,ht,bs,hc,key,hinj,hok]
   generalize AA (AA f.is (AA f.p.Nodes f.nodes.length)) (AA f.g.Nodes i)=c2
   have hb:(decide (0<=AA f.partial_.Nodes f.nodes.length)&&!decide (AA f.partial_.Nodes f.nodes.length=i))=!(decide (AA f.partial_.Nodes f.nodes.length<0)||decide (AA f.partial_.Nodes f.nodes.length=i)):=by
    rw [Bool.not_or]
    congr 1
    rw [←decide_not]
    exact decide_eq_decide.2 (by omega)
   rw [hb]
   generalize (decide (AA f.partial_.Nodes f.nodes.length<0)||decide (AA f.partial_.Nodes f.nodes.length=i))=c1
   generalize Ln { f with nodes:=f.nodes++[i] }=c5
   generalize I1 n { f with nodes:=f.nodes++[i] }=A
   cases c1
   ·simp only [Bool.false_and,Bool.false_eq_true,if_false,Jl hR]; rfl
   ·cases c2
    ·simp only [Bool.and_false,Bool.false_and,Bool.false_eq_true,if_false,Jl hR]; rfl
    ·cases f.injective
     ·rfl
     ·cases f.nodes.any fun x=>decide (i=x)
      ·rfl
      ·simp only [Bool.and_self,Bool.not_true,Bool.and_false,Bool.false_and,Bool.false_eq_true,if_false,Jl hR]; rfl
theorem cM {f:AK} (hf:Kt f) (hr:RK f) (he:f.edges=[]) (hn:f.nodes=[]):FU f=some (BF f (I1 f.p.Nodes.length f)):=
 ET (f.p.Nodes.length+f.p.Edges.length+1) fun m hm=>Qs _ f hf hr he (by rw [hn]; simp) m hm
end Go.Sf.Sc
namespace Go.Sf.Sc
open Go Go.Sf
theorem D9 (n:Nat):(BT n).length=n:=by simp [BT]
theorem JC {n:Nat} {i:Int}:i∈BT n↔0<=i∧i<n:=by
 unfold BT
 rw [List.mem_map]
 constructor
 ·rintro ⟨k,hk,rfl⟩
  have:=List.mem_range.1 hk
  exact ⟨Int.natCast_nonneg k,Int.ofNat_lt.2 this⟩
 ·rintro ⟨h0,h1⟩
  exact ⟨i.toNat,List.mem_range.2 (by omega),by show ((i.toNat:Nat):Int)=i; omega⟩
theorem Lt {n:Nat} {α:Type} [Inhabited α] (F:Int->α) {i:Int} (h0:0<=i) (h1:i<n):AA ((BT n).map F) i=F i:=by
 unfold AA BT
 rw [List.map_map,List.getD_eq_getElem?_getD,List.getElem?_map,List.getElem?_range (by omega)]
 show F (Int.ofNat i.toNat)=F i
 congr 1
 show ((i.toNat:Nat):Int)=i
 omega
theorem J8 {i:Int} (h0:0<=i):BT (i+1).toNat=BT i.toNat++[i]:=by
 rw [show (i+1).toNat=i.toNat+1 by omega,Pl,show ((i.toNat:Nat):Int)=i by omega]
def Jb (t:AD) (a:Int):List Bool:=(BT t.Nodes.length).map fun k=>H5 t k a
def JA (t:AD):List (List Bool):=(BT t.Nodes.length).map (Jb t)
theorem Z3 {t:AD} (hf:BV t) (h:G8 t) (hv:(BC t).2=0) {a:Int} (a0:0<=a) (a1:a<t.Nodes.length):Hh t a=some ((BT t.Nodes.length).filter fun i=>H5 t i a,0):=by
 have hn:=h.nodes
 unfold Hh
 have hb:H4 t a=true:=by simp [H4,a0,a1]
 rw [RS hf,bs,if_neg (by simp [hv,hb])]
 rw [Hj (fun i=>(BT i.toNat).filter fun i=>H5 t i a) (by omega) (by rfl),bs,Int.toNat_natCast]
 intro i i0 i1
 rw [X0 h i0 i1,bs,J8 i0,List.filter_append]
 have hl:((BT i.toNat).filter fun i=>H5 t i a).length<=i.toNat:=by
  have:=List.length_filter_le (fun i=>H5 t i a) (BT i.toNat)
  rwa [D9] at this
 by_cases hi:H5 t i a=true
 ·rw [if_pos hi,DI (by simp; unfold B0; omega),bs]
  simp [hi]
 ·rw [if_neg hi]
  simp [hi]
theorem al {n:Nat} {l:List Int} (hl:∀ x∈l,0<=x∧x<n):forA (fun (i2:Int) (s2:List Bool)=>
  (AI l i2).bind fun x30=>
  (AI s2 x30).bind fun _=>
  some (CU s2 x30 true)) 0 (l.length:Int) (List.replicate n false)=some ((BT n).map fun k=>l.any fun x=>decide (x=k)):=by
 rw [Hj (fun j=>(BT n).map fun k=>(l.take j.toNat).any fun x=>decide (x=k)) (by omega) (by
  refine List.ext_getElem (by simp [D9]) (fun j j1 j2=>by simp))]
 ·rw [Int.toNat_natCast,List.take_length]
 ·intro j j0 j1
  have hx:=hl _ (AO j0 j1)
  rw [AF j0 j1,bs,AF hx.1 (by rw [List.length_map,D9]; exact hx.2),bs,Iv j0 j1]
  congr 1
  unfold CU
  refine List.ext_getElem (by simp) (fun k k1 k2=>?_)
  have hk:k<n:=by simpa [D9] using k2
  rw [List.getElem_set]
  have e:(BT n)[k]'(by rw [D9]; exact hk)=(k:Int):=by simp [BT]
  simp only [List.getElem_map,e,List.any_append,List.any_cons,List.any_nil,Bool.or_false]
  by_cases hjk:(AA l j).toNat=k
  ·rw [if_pos hjk,decide_eq_true (show AA l j=(k:Int) by omega),Bool.or_true]
  ·rw [if_neg hjk,decide_eq_false (show ¬ AA l j=(k:Int) by omega),Bool.or_false]
theorem Y4 {t:AD} (hf:BV t) (h:G8 t) (hv:(BC t).2=0):GA t=some (JA t):=by
 have hn:=h.nodes
 unfold GA
 rw [Hj (fun i=>(BT i.toNat).map (Jb t)) (by omega) (by rfl),bs,Int.toNat_natCast]
 ·rfl
 ·intro i i0 i1
  have hm:KP (t.Nodes.length:Int) false=some (List.replicate t.Nodes.length false):=by
   unfold KP
   rw [if_pos (by omega),Int.toNat_natCast]
  rw [hm,bs,Z3 hf h hv i0 i1,bs]
  have:=al (n:=t.Nodes.length) (l:=(BT t.Nodes.length).filter fun k=>H5 t k i) (fun x hx=>JC.1 (List.mem_filter.1 hx).1)
  show (forA (fun (i2:Int) (s2:List Bool)=>
   (AI ((BT t.Nodes.length).filter fun k=>H5 t k i) i2).bind fun x30=>
   (AI s2 x30).bind fun _=>
   some (CU s2 x30 true)) 0 (((BT t.Nodes.length).filter fun k=>H5 t k i).length:Int) (List.replicate t.Nodes.length false)).bind _=_
  rw [this,bs,DI (by rw [List.length_map,D9]; simp; unfold B0; omega),bs,J8 i0,List.map_append]
  congr 2
  simp only [List.map_cons,List.map_nil]
  congr 1
  unfold Jb
  refine List.map_congr_left (fun k hk=>?_)
  have hk:=JC.1 hk
  rw [Bool.eq_iff_iff,List.any_eq_true]
  constructor
  ·rintro ⟨x,hx,e⟩
   rw [decide_eq_true_eq] at e
   subst e
   exact (List.mem_filter.1 hx).2
  ·intro hb
   exact ⟨k,List.mem_filter.2 ⟨JC.2 hk,hb⟩,by simp⟩
end Go.Sf.Sc
namespace Go.Sf.Sc
open Go Go.Sf
def HE:Nat->AK->List Morphism
 | 0,f=>FC f.p.Edges.length f
 | n+1,f=>(BT f.g.Nodes.length).flatMap fun k=>if Oh f k=true then HE n { f with nodes:=f.nodes++[k] } else []
def U1 (f:AK) (i:Int):Prop:=0<=i∧i<f.p.Edges.length∧0<=(AA f.p.Edges i).From∧(AA f.p.Edges i).From<f.nodes.length∧0<=(AA f.p.Edges i).To∧(AA f.p.Edges i).To<f.nodes.length∧∀ k:Int,0<=k->k<f.g.Edges.length->Jf f i k=false
theorem QX (f:AK) (i k:Int):Jf f i k=((decide (AA f.partial_.Edges i<0)||decide (AA f.partial_.Edges i=k))&&decide (AA f.g.Edges k=⟨(AA f.p.Edges i).Type',AA f.nodes (AA f.p.Edges i).From,AA f.nodes (AA f.p.Edges i).To⟩)):=rfl
theorem Qf {α:Type} [Inhabited α] (l:List α) (x:α) {i:Int} (h0:0<=i) (h1:i<l.length):AA (l++[x]) i=AA l i:=by
 unfold AA
 rw [List.getD_eq_getElem?_getD,List.getD_eq_getElem?_getD,List.getElem?_append_left (by omega)]
theorem V1:∀ (n:Nat) (f:AK) (i:Int),U1 f i->(f.edges.length:Int)<=i->i<f.edges.length+n->FC n f=[]
 | 0,f,i,_,h1,h2=>by omega
 | n+1,f,i,hd,h1,h2=>by
  rw [FC]
  refine List.flatMap_eq_nil_iff.2 (fun k hk=>?_)
  have hk:=JC.1 hk
  by_cases he:(f.edges.length:Int)=i
  ·have:Og f k=false:=by
    unfold Og
    rw [he,hd.2.2.2.2.2.2 k hk.1 hk.2]; rfl
   rw [if_neg (by rw [this]; decide)]
  ·split
   ·exact V1 n { f with edges:=f.edges++[k] } i hd (by show ((f.edges++[k]).length:Int)<=i; rw [List.length_append]; simp; omega) (by show i<((f.edges++[k]).length:Int)+n; rw [List.length_append]; simp; omega)
   ·rfl
theorem Sw:∀ (n:Nat) (f:AK) (i:Int),f.edges=[]->U1 f i->HE n f=[]
 | 0,f,i,he,hd=>by
  rw [HE]
  exact V1 _ f i hd (by rw [he]; simpa using hd.1) (by rw [he]; simpa using hd.2.1)
 | n+1,f,i,he,hd=>by
  rw [HE]
  refine List.flatMap_eq_nil_iff.2 (fun k hk=>?_)
  split
  ·refine Sw n { f with nodes:=f.nodes++[k] } i he ?_
   obtain ⟨d1,d2,d3,d4,d5,d6,d7⟩:=hd
   have hl:((f.nodes++[k]).length:Int)=f.nodes.length+1:=by rw [List.length_append]; simp
   refine ⟨d1,d2,d3,?_,d5,?_,fun j j0 j1=>?_⟩
   ·show (AA f.p.Edges i).From<((f.nodes++[k]).length:Int); omega
   ·show (AA f.p.Edges i).To<((f.nodes++[k]).length:Int); omega
   ·have:=d7 j j0 j1
    rw [QX] at this ⊢
    show ((decide (AA f.partial_.Edges i<0)||decide (AA f.partial_.Edges i=j))&&decide (AA f.g.Edges j=⟨(AA f.p.Edges i).Type',AA (f.nodes++[k]) (AA f.p.Edges i).From,AA (f.nodes++[k]) (AA f.p.Edges i).To⟩))=false
    rw [Qf _ _ d3 d4,Qf _ _ d5 d6]
    exact this
  ·rfl
theorem X2 {f:AK} (hf:Kt f) (h:Ln f=false):∃ i,U1 f i:=by
 unfold Ln at h
 rw [Bool.not_eq_false',Ho] at h
 obtain ⟨i,i0,i1,h⟩:=h
 rw [Bool.and_eq_true,decide_eq_true_eq,Bool.not_eq_true',FL] at h
 have he:=hf.ends _ (AO i0 i1)
 exact ⟨i,i0,i1,he.1,by omega,he.2.2.1,by omega,h.2⟩
theorem Vw:∀ (n:Nat) (f:AK),Kt f->f.edges=[]->I1 n f=HE n f
 | 0,_,_,_=>rfl
 | n+1,f,hf,he=>by
  rw [I1,HE]
  refine congrArg (fun F=>(BT f.g.Nodes.length).flatMap F) (funext fun k=>?_)
  have hf':Kt { f with nodes:=f.nodes++[k] }:=⟨hf.pn,hf.pe,hf.ends,hf.kinds,hf.small⟩
  cases Oh f k
  ·rfl
  ·cases hp:Ln { f with nodes:=f.nodes++[k] }
   ·obtain ⟨i,hd⟩:=X2 hf' hp
    rw [Sw n { f with nodes:=f.nodes++[k] } i he hd]; rfl
   ·simp only [Bool.and_self,if_true]
    exact Vw n _ hf' he
end Go.Sf.Sc
namespace Go.Sf.Sc
open Go Go.Sf
theorem Tv {σ ρ:Type} {f:σ × Int->Option (CH (σ × Int) ρ)} (g:Int->σ) {a b:Int} {s:σ} (hab:a<=b) (hs:s=g a) (h:∀ i,a<=i->i<b->f (g i,i)=some (.next (g (i+1),i+1))) (hb:f (g b,b)=some (.brk (g b,b))):IR f (s,a)=some (.inl (g b,b)):=by
 subst hs
 have key:∀ (n:Nat) (i:Int),a<=i->i+n=b->K9 f (g i,i) (.inl (g b,b)):=by
  intro n
  induction n with
  | zero=>
   intro i _ hi
   have:i=b:=by omega
   subst this
   exact .brk hb
  | succ n ih=>
   intro i h1 h2
   exact .next (h i h1 (by omega)) (ih (i+1) (by omega) (by omega))
 exact (key (b - a).toNat a (Int.le_refl _) (by omega)).eq
def FS (s:AQ) (nodes edges:List Int):AK:=⟨s.p,s.g,JA s.t,s.partial_,s.injective,s.most+1,nodes,edges,s.found⟩
def CW (s:AQ) (l:List Morphism):AQ:={ s with found:=(s.found++l).take (s.most+1).toNat }
structure Qd (s:AQ):Prop where
 m0:0<=s.most
 m1:s.most<=9999
 out:(s.found.length:Int)<=s.most+1
theorem MI {s:AQ} (h:Qd s):CW s []=s:=by
 unfold CW
 rw [List.append_nil,List.take_of_length_le (by have:=h.out; have:=h.m0; omega)]
theorem RE {s:AQ} (h:(s.found.length:Int)=s.most+1) (l:List Morphism):CW s l=s:=by
 unfold CW
 rw [List.take_append_of_le_length (by omega),List.take_of_length_le (by omega)]
theorem RF {s:AQ} (h:Qd s) (l:List Morphism):Qd (CW s l):=by
 refine ⟨h.m0,h.m1,?_⟩
 have:=h.m0
 show (((s.found++l).take (s.most+1).toNat).length:Int)<=s.most+1
 rw [List.length_take]; omega
theorem QD (s:AQ) (a b:List Morphism):CW (CW s a) b=CW s (a++b):=by
 show ({ s with found:=(((s.found++a).take (s.most+1).toNat)++b).take (s.most+1).toNat }:AQ)=_
 rw [SH,List.append_assoc]; rfl
theorem Wg (s:AQ) {l:List Int} (hl:l.length<=1000) (n:Int):DM s l n=some (s.injective&&l.any fun x=>decide (n=x)):=by
 unfold DM
 cases s.injective
 ·rw [P2 (fun _=>false) true (a:=0) (b:=0) (Int.le_refl _) (fun i i1 i2=>by omega) (by rw [if_neg (by simp)])]
  rfl
 ·rw [P2 (fun i=>decide (AA l i=n)) true (a:=0) (b:=l.length) (by omega) (fun i i1 i2=>by
   rw [if_pos (by simp; exact i2),AF i1 i2,bs,BI (by omega) (by omega),IT]) (by rw [if_neg (by simp)])]
  have e:anyR (fun i=>decide (AA l i=n)) 0 l.length=l.any fun x=>decide (n=x):=by
   rw [Bool.eq_iff_iff,Ho,List.any_eq_true]
   constructor
   ·rintro ⟨i,i0,i1,h⟩
    exact ⟨_,AO i0 i1,by simpa [eq_comm] using h⟩
   ·rintro ⟨x,hx,h⟩
    obtain ⟨i,i0,i1,rfl⟩:=FF hx
    exact ⟨i,i0,i1,by simpa [eq_comm] using h⟩
  rw [e,Bool.true_and]
  cases l.any fun x=>decide (n=x) <;> rfl
theorem R9:∀ (n:Nat) (s:AQ) (nodes l:List Int),Kt (FS s [] [])->Qd s->nodes.length=s.p.Nodes.length->l.length+n=s.p.Edges.length->∀ m,n+1<=m->CN m s nodes l=some (CW s (FC n (FS s nodes l)))
 | n,s,nodes,l,hf,hr,hn,he,m,hm=>by
  obtain ⟨m,rfl⟩:∃ k,m=k+1:=⟨m - 1,by omega⟩
  have hs:=hf.small
  have s1:s.p.Nodes.length<=1000:=hs.1
  have s2:s.p.Edges.length<=1000:=hs.2.1
  have s3:s.g.Nodes.length<=1000:=hs.2.2.1
  have s4:s.g.Edges.length<=1000:=hs.2.2.2
  have h0:=hr.m0
  have h1:=hr.m1
  have h2:=hr.out
  rw [CN]
  by_cases hfull:(s.found.length:Int)=s.most+1
  ·rw [if_pos (by simp; omega),RE hfull]
  rw [if_neg (by simp; omega)]
  match n,he,hm with
  | 0,he,hm=>
   rw [if_pos (by simp; omega),Hp (by unfold B0; omega),bs,Hp (by unfold B0; omega),bs,DI (by simp; unfold B0; omega),bs]
   unfold CW
   rw [List.take_of_length_le (by simp [FC]; omega)]; rfl
  | n+1,he,hm=>
   have hi0:(0:Int)<=l.length:=by omega
   have hi1:(l.length:Int)<s.p.Edges.length:=by omega
   have hend:=hf.ends _ (AO (l:=s.p.Edges) hi0 hi1)
   have q1:(AA s.p.Edges l.length).From<nodes.length:=by rw [hn]; exact hend.2.1
   have q2:(AA s.p.Edges l.length).To<nodes.length:=by rw [hn]; exact hend.2.2.2
   have hpe:(l.length:Int)<s.partial_.Edges.length:=by
    have:s.partial_.Edges.length=s.p.Edges.length:=hf.pe
    omega
   rw [if_neg (by simp; omega),AF hi0 hi1,bs]
   rw [Tv (fun i=>CW s ((BT i.toNat).flatMap fun k=>if Og (FS s nodes l) k=true then FC n (FS s nodes (l++[k])) else [])) (a:=0) (b:=(s.g.Edges.length:Int)) (s:=s) (by omega) (MI hr).symm (fun i i0 i1=>by
    have hg:∀ F,CW s ((BT (i+1).toNat).flatMap F)=CW (CW s ((BT i.toNat).flatMap F)) (F i):=by
     intro F
     rw [QD,J8 i0,List.flatMap_append]; simp
    rw [hg]
    generalize (BT i.toNat).flatMap (fun k=>if Og (FS s nodes l) k=true then FC n (FS s nodes (l++[k])) else [])=L
    have hR:=RF hr L
    rw [if_pos (by rw [decide_eq_true_eq]; exact i1)]
    have g1:AI (CW s L).g.Edges i=some (AA s.g.Edges i):=AF i0 i1
    have g2:AI (CW s L).partial_.Edges (l.length:Int)=some (AA s.partial_.Edges l.length):=AF hi0 hpe
    have g3:DM (CW s L) l i=some (s.injective&&l.any fun x=>decide (i=x)):=Wg (CW s L) (by omega) i
    have key:((CR [] l).bind fun x130=>
      (CR x130 [i]).bind fun x133=>
      (CN m (CW s L) nodes x133).bind fun x134=>
      some (.next (x134,A0 (i+1)):CH (AQ × Int) AQ))=some (.next (CW (CW s L) (FC n (FS s nodes (l++[i]))),i+1)):=by
     have e2:=R9 n (CW s L) nodes (l++[i]) ⟨hf.pn,hf.pe,hf.ends,hf.kinds,hf.small⟩ hR hn (by show (l++[i]).length+n=s.p.Edges.length; rw [List.length_append]; simp; omega) m (by omega)
     have e3:FC n (FS (CW s L) nodes (l++[i]))=FC n (FS s nodes (l++[i])):=Mw n (FS s nodes (l++[i])) _
     rw [e3] at e2
     rw [Hp (by unfold B0; omega),bs,DI (by simp; unfold B0; omega),bs,e2,bs,BI (by omega) (by omega)]
    rw [g1,bs,g2,bs,g3,key]
    simp only [bs]
    rw [AF hend.1 q1,AF hend.2.2.1 q2,BI (n:=i+1) (by omega) (by omega)]
    simp only [bs]
    have hok:Og (FS s nodes l) i=(((decide (AA s.partial_.Edges l.length<0)||decide (AA s.partial_.Edges l.length=i))&&decide (AA s.g.Edges i=⟨(AA s.p.Edges l.length).Type',AA nodes (AA s.p.Edges l.length).From,AA nodes (AA s.p.Edges l.length).To⟩))&&!(s.injective&&l.any fun x=>decide (i=x))):=rfl
    have hE:decide (AA s.g.Edges i=⟨(AA s.p.Edges l.length).Type',AA nodes (AA s.p.Edges l.length).From,AA nodes (AA s.p.Edges l.length).To⟩)=(decide ((AA s.p.Edges l.length).Type'=(AA s.g.Edges i).Type')&&decide ((AA s.g.Edges i).From=AA nodes (AA s.p.Edges l.length).From)&&decide ((AA s.g.Edges i).To=AA nodes (AA s.p.Edges l.length).To)):=by
     rw [Bool.eq_iff_iff]
     simp only [Bool.and_eq_true,decide_eq_true_eq]
     generalize AA s.g.Edges i=x
     obtain ⟨x1,x2,x3⟩:=x
     simp only [CY.mk.injEq]
     constructor
     ·rintro ⟨a,b,c⟩; exact ⟨⟨a.symm,b⟩,c⟩
     ·rintro ⟨⟨a,b⟩,c⟩; exact ⟨a.symm,b,c⟩
    have hP:(decide (AA s.partial_.Edges l.length<0)||decide (AA s.partial_.Edges l.length=i))=!(decide (0<=AA s.partial_.Edges l.length)&&!decide (AA s.partial_.Edges l.length=i)):=by
     rw [Bool.not_and,Bool.not_not]
     congr 1
     rw [←decide_not]
     exact decide_eq_decide.2 (by omega)
    rw [hok,hE,hP]
    generalize FC n (FS s nodes (l++[i]))=A
    generalize decide (0<=AA s.partial_.Edges l.length)=c1
    generalize decide (AA s.partial_.Edges l.length=i)=c2
    generalize decide ((AA s.p.Edges l.length).Type'=(AA s.g.Edges i).Type')=c3
    generalize decide ((AA s.g.Edges i).From=AA nodes (AA s.p.Edges l.length).From)=c4
    generalize decide ((AA s.g.Edges i).To=AA nodes (AA s.p.Edges l.length).To)=c5
    generalize (s.injective&&l.any fun x=>decide (i=x))=c6
    cases c1 <;> cases c2 <;> cases c3 <;> cases c4 <;> cases c5 <;> cases c6 <;> first | rfl | (simp only [Bool.and_self,Bool.and_true,Bool.true_and,Bool.and_false,Bool.false_and,Bool.not_true,Bool.not_false,Bool.or_true,Bool.or_false,Bool.false_or,Bool.true_or,if_true,Bool.false_eq_true,if_false,MI hR,bs]; try rfl)) (by rw [if_neg (by simp [CW])]),DT,Int.toNat_natCast,FC]
   rfl
end Go.Sf.Sc
namespace Go.Sf.Sc
open Go Go.Sf
def NU (s:AQ) (l:List Int) (i k:Int):Bool:=decide (AA s.g.Edges k=⟨(AA s.p.Edges i).Type',AA l (AA s.p.Edges i).From,AA l (AA s.p.Edges i).To⟩)
def N5 (s:AQ) (l:List Int) (i:Int):Bool:=(decide ((AA s.p.Edges i).From<l.length)&&decide ((AA s.p.Edges i).To<l.length))&&!(BT s.g.Edges.length).any (NU s l i)
theorem cY {s:AQ} {l:List Int} (hf:Kt (FS s [] [])):F5 s l=some (!anyR (N5 s l) 0 s.p.Edges.length):=by
 unfold F5
 rw [B3 (N5 s l) false]
 ·cases anyR (N5 s l) 0 s.p.Edges.length <;> rfl
 ·intro i i0 i1 _
  have he:=hf.ends _ (AO (l:=s.p.Edges) i0 i1)
  rw [AF i0 i1,bs]
  unfold N5
  by_cases hF:(AA s.p.Edges i).From<l.length
  ·by_cases hT:(AA s.p.Edges i).To<l.length
   ·rw [if_neg (by simp; omega),Hj (fun k=>(BT k.toNat).any (NU s l i)) (by omega) (by rfl),bs,Int.toNat_natCast,decide_eq_true hF,decide_eq_true hT]
    ·cases (BT s.g.Edges.length).any (NU s l i) <;> rfl
    ·intro k k0 k1
     rw [AF k0 k1,bs,J8 k0,List.any_append]
     have hE:NU s l i k=(decide ((AA s.p.Edges i).Type'=(AA s.g.Edges k).Type')&&decide ((AA s.g.Edges k).From=AA l (AA s.p.Edges i).From)&&decide ((AA s.g.Edges k).To=AA l (AA s.p.Edges i).To)):=by
      unfold NU
      rw [Bool.eq_iff_iff]
      simp only [Bool.and_eq_true,decide_eq_true_eq]
      generalize AA s.g.Edges k=x
      obtain ⟨x1,x2,x3⟩:=x
      simp only [CY.mk.injEq]
      constructor
      ·rintro ⟨a,b,c⟩; exact ⟨⟨a.symm,b⟩,c⟩
      ·rintro ⟨⟨a,b⟩,c⟩; exact ⟨a.symm,b,c⟩
     rw [AF he.1 hF,AF he.2.2.1 hT]
     simp only [List.any_cons,List.any_nil,Bool.or_false,bs]
     rw [hE]
     generalize (BT k.toNat).any (NU s l i)=c1
     generalize decide ((AA s.p.Edges i).Type'=(AA s.g.Edges k).Type')=c3
     generalize decide ((AA s.g.Edges k).From=AA l (AA s.p.Edges i).From)=c4
     generalize decide ((AA s.g.Edges k).To=AA l (AA s.p.Edges i).To)=c5
     cases c1 <;> cases c3 <;> cases c4 <;> cases c5 <;> rfl
   ·rw [if_pos (by simp; omega),decide_eq_false hT]; simp
  ·rw [if_pos (by simp; omega),decide_eq_false hF]; simp
theorem cW {s:AQ} {l:List Int} (hf:Kt (FS s [] [])) (h:anyR (N5 s l) 0 s.p.Edges.length=true):∃ i,U1 (FS s l []) i:=by
 rw [Ho] at h
 obtain ⟨i,i0,i1,h⟩:=h
 unfold N5 at h
 rw [Bool.and_eq_true,Bool.and_eq_true,decide_eq_true_eq,decide_eq_true_eq,Bool.not_eq_true',List.any_eq_false] at h
 have he:=hf.ends _ (AO (l:=s.p.Edges) i0 i1)
 refine ⟨i,i0,i1,he.1,h.1.1,he.2.2.1,h.1.2,fun k k0 k1=>?_⟩
 have:=h.2 k (JC.2 ⟨k0,k1⟩)
 have e:NU s l i k=false:=by rw [←Bool.not_eq_true]; exact this
 rw [QX]
 show ((decide (AA s.partial_.Edges i<0)||decide (AA s.partial_.Edges i=k))&&NU s l i k)=false
 rw [e,Bool.and_false]
end Go.Sf.Sc
namespace Go.Sf.Sc
open Go Go.Sf
theorem Sj:∀ (n:Nat) (f:AK) (o:List Morphism),HE n (OK f o)=HE n f
 | 0,f,o=>Mw _ f o
 | n+1,f,o=>by
  rw [HE,HE]
  refine congrArg (fun F=>(BT f.g.Nodes.length).flatMap F) (funext fun k=>?_)
  have:=Sj n { f with nodes:=f.nodes++[k] } o
  show (if Oh f k=true then HE n (OK { f with nodes:=f.nodes++[k] } o) else [])=_
  rw [this]
theorem SA:∀ (n:Nat) (s:AQ) (l:List Int),G8 s.t->Kt (FS s [] [])->Qd s->l.length+n=s.p.Nodes.length->∀ m,n+1<=m->CO m s l=some (CW s (HE n (FS s l [])))
 | n,s,l,ht,hf,hr,hl,m,hm=>by
  obtain ⟨m,rfl⟩:∃ k,m=k+1:=⟨m - 1,by omega⟩
  have hs:=hf.small
  have s1:s.p.Nodes.length<=1000:=hs.1
  have s3:s.g.Nodes.length<=1000:=hs.2.2.1
  have h0:=hr.m0
  have h1:=hr.m1
  have h2:=hr.out
  rw [CO]
  by_cases hfull:(s.found.length:Int)=s.most+1
  ·rw [if_pos (by simp; omega),RE hfull]; rfl
  rw [if_neg (by simp; omega),cY hf]
  cases hd:anyR (N5 s l) 0 s.p.Edges.length
  case true=>
   obtain ⟨i,hi⟩:=cW hf hd
   rw [Sw n (FS s l []) i rfl hi,MI hr]; rfl
  simp only [bs,Bool.not_false,Bool.not_true,Bool.false_eq_true,if_false]
  match n,hl,hm with
  | 0,hl,hm=>
   rw [if_pos (by simp; omega),Option.bind_fun_some,HE]
   exact ET (s.p.Edges.length+1) fun m hm=>R9 s.p.Edges.length s l [] hf hr (by omega) (by simp) m (by omega)
  | n+1,hl,hm=>
   have hpn:(l.length:Int)<s.p.Nodes.length:=by omega
   have hi0:(0:Int)<=l.length:=by omega
   have hpp:(l.length:Int)<s.partial_.Nodes.length:=by
    have:s.partial_.Nodes.length=s.p.Nodes.length:=hf.pn
    omega
   have tl:(JA s.t).length=s.t.Nodes.length:=by unfold JA; rw [List.length_map,D9]
   have hkd:=hf.kinds _ (AO (l:=s.p.Nodes) hi0 hpn)
   have hk1:AA s.p.Nodes l.length<s.t.Nodes.length:=by rw [←tl]; exact hkd.2.1
   have hrow:AA (JA s.t) (AA s.p.Nodes l.length)=Jb s.t (AA s.p.Nodes l.length):=Lt (Jb s.t) hkd.1 hk1
   rw [if_neg (by simp; omega)]
   rw [Tv (fun i=>CW s ((BT i.toNat).flatMap fun k=>if Oh (FS s l []) k=true then HE n (FS s (l++[k]) []) else [])) (a:=0) (b:=(s.g.Nodes.length:Int)) (s:=s) (by omega) (MI hr).symm (fun i i0 i1=>by
    have hg:∀ F,CW s ((BT (i+1).toNat).flatMap F)=CW (CW s ((BT i.toNat).flatMap F)) (F i):=by
     intro F
     rw [QD,J8 i0,List.flatMap_append]; simp
    rw [hg]
    generalize (BT i.toNat).flatMap (fun k=>if Oh (FS s l []) k=true then HE n (FS s (l++[k]) []) else [])=L
    have hR:=RF hr L
    rw [if_pos (by rw [decide_eq_true_eq]; exact i1)]
    have hty:=hkd.2.2 _ (AO (l:=s.g.Nodes) i0 i1)
    have ht1:AA s.g.Nodes i<s.t.Nodes.length:=by
     have h:=hty.2
     have e:AA (FS s [] []).is (AA s.p.Nodes l.length)=Jb s.t (AA s.p.Nodes l.length):=hrow
     rw [e] at h
     unfold Jb at h
     rwa [List.length_map,D9] at h
    have hbl:Ht (CW s L).t (AA s.g.Nodes i) (AA s.p.Nodes l.length)=some (H5 s.t (AA s.g.Nodes i) (AA s.p.Nodes l.length)):=Py ht hty.1 ht1 hkd.1
    have g1:AI (CW s L).g.Nodes i=some (AA s.g.Nodes i):=AF i0 i1
    have g2:AI (CW s L).partial_.Nodes (l.length:Int)=some (AA s.partial_.Nodes l.length):=AF hi0 hpp
    have g3:DM (CW s L) l i=some (s.injective&&l.any fun x=>decide (i=x)):=Wg (CW s L) (by omega) i
    have g4:AI (CW s L).p.Nodes (l.length:Int)=some (AA s.p.Nodes l.length):=AF hi0 hpn
    have key:((CR [] l).bind fun x99=>
      (CR x99 [i]).bind fun x102=>
      (CO m (CW s L) x102).bind fun x103=>
      some (.next (x103,A0 (i+1)):CH (AQ × Int) AQ))=some (.next (CW (CW s L) (HE n (FS s (l++[i]) [])),i+1)):=by
     have e2:=SA n (CW s L) (l++[i]) ht ⟨hf.pn,hf.pe,hf.ends,hf.kinds,hf.small⟩ hR (by show (l++[i]).length+n=s.p.Nodes.length; rw [List.length_append]; simp; omega) m (by omega)
     have e3:HE n (FS (CW s L) (l++[i]) [])=HE n (FS s (l++[i]) []):=Sj n (FS s (l++[i]) []) _
     rw [e3] at e2
     rw [Hp (by unfold B0; omega),bs,DI (by simp; unfold B0; omega),bs,e2,bs,BI (by omega) (by omega)]
    rw [g2,bs,g3,g1,g4,key]
    simp only [bs]
    rw [hbl,BI (n:=i+1) (by omega) (by omega)]
    simp only [bs]
    have hok:Oh (FS s l []) i=((decide (AA s.partial_.Nodes l.length<0)||decide (AA s.partial_.Nodes l.length=i))&&AA (AA (JA s.t) (AA s.p.Nodes l.length)) (AA s.g.Nodes i)&&!(s.injective&&l.any fun x=>decide (i=x))):=rfl
    have hB:AA (AA (JA s.t) (AA s.p.Nodes l.length)) (AA s.g.Nodes i)=H5 s.t (AA s.g.Nodes i) (AA s.p.Nodes l.length):=by
     rw [hrow]
     exact Lt (fun k=>H5 s.t k (AA s.p.Nodes l.length)) hty.1 ht1
    have hP:(decide (AA s.partial_.Nodes l.length<0)||decide (AA s.partial_.Nodes l.length=i))=!(decide (0<=AA s.partial_.Nodes l.length)&&!decide (AA s.partial_.Nodes l.length=i)):=by
     rw [Bool.not_and,Bool.not_not]
     congr 1
     rw [←decide_not]
     exact decide_eq_decide.2 (by omega)
    rw [hok,hB,hP]
    generalize HE n (FS s (l++[i]) [])=A
    generalize decide (0<=AA s.partial_.Nodes l.length)=c1
    generalize decide (AA s.partial_.Nodes l.length=i)=c2
    generalize H5 s.t (AA s.g.Nodes i) (AA s.p.Nodes l.length)=c3
    generalize (s.injective&&l.any fun x=>decide (i=x))=c6
    cases c1 <;> cases c2 <;> cases c3 <;> cases c6 <;> first | rfl | (simp only [Bool.and_self,Bool.and_true,Bool.true_and,Bool.and_false,Bool.false_and,Bool.not_true,Bool.not_false,Bool.or_true,Bool.or_false,if_true,Bool.false_eq_true,if_false,MI hR,bs]; try rfl)) (by rw [if_neg (by simp [CW])]),DT,Int.toNat_natCast,HE]
   rfl
end Go.Sf.Sc
namespace Go.Sf.Sc
open Go Go.Sf
def MB (t:AD) (p g:Graph) (pa:Morphism) (inj:Bool):List Morphism:=(HE p.Nodes.length (FS ⟨t,p,g,pa,inj,5000,[]⟩ [] [])).take 5001
theorem Z7 {t:AD} {p g:Graph} {pa:Morphism} {inj:Bool} (ht:BV t) (hv:(BC t).2=0) (hF:Kt (FS ⟨t,p,g,pa,inj,5000,[]⟩ [] [])):G5 t p g pa inj 5001=some (MB t p g pa inj):=by
 unfold G5
 rw [Y4 ht (GG hv) hv,bs]
 have h:=cM (f:=FS ⟨t,p,g,pa,inj,5000,[]⟩ [] []) hF ⟨by show (0:Int)<=5000+1; omega,by show (5000:Int)+1<=10000; omega,by show ((0:Nat):Int)<=5000+1; omega⟩ rfl rfl
 rw [Vw _ _ hF rfl] at h
 have e:AK.mk p g (JA t) pa inj 5001 [] [] []=FS ⟨t,p,g,pa,inj,5000,[]⟩ [] []:=rfl
 rw [e,h]; rfl
theorem jR {t:AD} {p g:Graph} {pa:Morphism} {inj:Bool} (hv:(BC t).2=0) (hF:Kt (FS ⟨t,p,g,pa,inj,5000,[]⟩ [] [])):MG t p g pa inj 5000=some (MB t p g pa inj):=by
 unfold MG
 have h:Ii ⟨t,p,g,pa,inj,5000,[]⟩ []=some (CW ⟨t,p,g,pa,inj,5000,[]⟩ (HE p.Nodes.length (FS ⟨t,p,g,pa,inj,5000,[]⟩ [] []))):=
  ET (p.Nodes.length+1) fun m hm=>SA p.Nodes.length ⟨t,p,g,pa,inj,5000,[]⟩ [] (GG hv) hF ⟨by show (0:Int)<=5000; omega,by show (5000:Int)<=9999; omega,by show ((0:Nat):Int)<=5000+1; omega⟩ (by show 0+p.Nodes.length=p.Nodes.length; omega) m hm
 rw [h]; rfl
end Go.Sf.Sc
namespace Go.Sf.Sc
open Go Go.Sf
def Nz (n k:Int):Bool:=decide (k < -1)||decide (n<=k)
def NO (l:List Int) (n:Int):Int:=if l.any (Nz n)=true then 6 else 0
theorem WM (l:List Int) (n:Int):GZ l n=some (NO l n):=by
 unfold GZ NO
 rw [show (fun y0=>Kn y0 n)=(fun y0=>some (Nz n y0)) from rfl,Sr (p:=Nz n) (fun a _=>rfl),bs]
 cases l.any (Nz n) <;> rfl
theorem Ta {l:List Int} {c:Int} (n:Int) (h:(l.length:Int)=c):Ir l c n=some (NO l n):=by
 unfold Ir NO
 rw [if_neg (by simp [h]),B3 (fun i=>Nz n (AA l i)) 6]
 ·have e:anyR (fun i=>Nz n (AA l i)) 0 l.length=l.any (Nz n):=by
   rw [Bool.eq_iff_iff,Ho,List.any_eq_true]
   constructor
   ·rintro ⟨i,i0,i1,h⟩
    exact ⟨_,AO i0 i1,h⟩
   ·rintro ⟨x,hx,h⟩
    obtain ⟨i,i0,i1,rfl⟩:=FF hx
    exact ⟨i,i0,i1,h⟩
  rw [e]
  cases l.any (Nz n) <;> rfl
 ·intro i i0 i1 _
  rw [AF i0 i1,bs,bs]
  unfold Nz
  cases decide (AA l i < -1) <;> cases decide (n<=AA l i) <;> rfl
end Go.Sf.Sc
namespace Go.Sf.Sc
open Go Go.Sf
theorem TS (t:AD) (g:Graph):FO t g=some (FI t g):=by
 unfold FO FI
 rw [show (fun y0=>Jd y0 t)=(fun y0=>some (decide ((t.Nodes.length:Int)<=y0))) from rfl,Sr (p:=fun n=>decide ((t.Nodes.length:Int)<=n)) (fun a _=>rfl),bs,
  show (fun y0=>Je y0 t)=(fun y0=>some (decide ((t.Edges.length:Int)<=y0.Type'))) from rfl,UM (p:=fun e=>decide ((t.Edges.length:Int)<=e.Type')) (fun a _=>rfl),bs]
 cases g.Nodes.any fun n=>decide ((t.Nodes.length:Int)<=n) <;> rfl
def HP (t:AD) (p g:Graph):Int:=if (BC t).2≠0 then (BC t).2 else if C6 p≠0 then C6 p else if C6 g≠0 then C6 g else if (FI t p&&FI t g)=true then 0 else 13
theorem Ug {t:AD} (hf:BV t) (p g:Graph):GB t p g=some (HP t p g):=by
 unfold GB HP
 rw [Pv hf,bs]
 refine HM fun _=>?_
 have h0:forR (ρ:=Int) (fun (i0:Int) (_:Unit)=>
   (AI [p,g] i0).bind fun x26=>
   (D3 x26).bind fun x29=>
   if (!decide (x29=0))=true then
   some (.ret x29)
   else
   some (.next ())) 0 ([p,g].length:Int) ()=some (if C6 p≠0 then .inr (C6 p) else if C6 g≠0 then .inr (C6 g) else .inl ()):=by
  show forGo _ 2 0 ()=_
  rw [GV,show AI [p,g] 0=some p from rfl,bs,Mp,bs]
  by_cases hp:C6 p=0
  ·rw [if_neg (by simp [hp]),if_neg (by simp [hp])]
   show forGo _ 1 (0+1) ()=_
   rw [GV,show AI [p,g] (0+1)=some g from rfl,bs,Mp,bs]
   by_cases hg:C6 g=0
   ·rw [if_neg (by simp [hg]),if_neg (by simp [hg])]; rfl
   ·rw [if_pos (by simp [hg]),if_pos hg]
  ·rw [if_pos (by simp [hp]),if_pos hp]
 rw [h0]
 by_cases hp:C6 p=0
 ·by_cases hg:C6 g=0
  ·simp only [hp,hg,ne_eq,not_true_eq_false,if_false,DT]
   rw [TS,TS,bs]
   cases FI t p <;> cases FI t g <;> rfl
  ·simp only [hp,hg,ne_eq,not_true_eq_false,not_false_eq_true,if_false,if_true,SI]
 ·simp only [hp,ne_eq,not_false_eq_true,if_true,SI]
theorem QU {t:AD} (hf:BV t) (p g:Graph):IW t p g=some (HP t p g):=by
 unfold IW HP
 rw [Px hf,bs]
 refine HM fun _=>?_
 rw [Mr,bs]
 refine HM fun hp=>?_
 rw [Mr,bs]
 refine HM fun hg=>?_
 rw [RU (FB hp),bs,RU (FB hg)]
 cases FI t p <;> cases FI t g <;> rfl
end Go.Sf.Sc
namespace Go.Sf.Sc
open Go Go.Sf
theorem S0 {t:AD} {p g:Graph} {pa:Morphism} {inj:Bool} (h:HP t p g=0) (h1:pa.Nodes.length=p.Nodes.length) (h2:pa.Edges.length=p.Edges.length):(BC t).2=0∧Kt (FS ⟨t,p,g,pa,inj,5000,[]⟩ [] []):=by
 unfold HP at h
 by_cases hv:(BC t).2=0
 ·rw [if_neg (by simp [hv])] at h
  by_cases hp:C6 p=0
  ·rw [if_neg (by simp [hp])] at h
   by_cases hg:C6 g=0
   ·rw [if_neg (by simp [hg])] at h
    by_cases hty:(FI t p&&FI t g)=true
    ·rw [Bool.and_eq_true] at hty
     have op:=FB hp
     have og:=FB hg
     have tp:=Ls op hty.1
     have tg:=Ls og hty.2
     have tl:(JA t).length=t.Nodes.length:=by unfold JA; rw [List.length_map,D9]
     refine ⟨hv,h1,h2,fun e he=>?_,fun n hn=>?_,Nat.le_trans op.nodes (by omega),Nat.le_trans op.edges (by omega),Nat.le_trans og.nodes (by omega),Nat.le_trans og.edges (by omega)⟩
     ·have:=op.fit e he
      exact ⟨this.2.1.1,this.2.1.2,this.2.2.1,this.2.2.2⟩
     ·have:=tp.1 n hn
      refine ⟨this.1,by show n<((JA t).length:Int); rw [tl]; exact this.2,fun k hk=>?_⟩
      have hk:=tg.1 k hk
      refine ⟨hk.1,?_⟩
      show k<((AA (JA t) n).length:Int)
      unfold JA
      rw [Lt (Jb t) this.1 this.2]
      unfold Jb
      rw [List.length_map,D9]; exact hk.2
    ·rw [if_neg hty] at h; cases h
   ·rw [if_pos (by simp [hg])] at h; exact absurd h hg
  ·rw [if_pos (by simp [hp])] at h; exact absurd h hp
 ·rw [if_pos (by simp [hv])] at h; exact absurd h hv
def N7 (t:AD) (p g:Graph) (pa:Morphism) (inj:Bool):List Morphism × Int:=
 if HP t p g≠0 then ([],HP t p g) else if ¬ (pa.Nodes.length=p.Nodes.length∧pa.Edges.length=p.Edges.length) then ([],20) else
 if NO pa.Nodes g.Nodes.length≠0 then ([],NO pa.Nodes g.Nodes.length) else if NO pa.Edges g.Edges.length≠0 then ([],NO pa.Edges g.Edges.length) else
 if 5000<(MB t p g pa inj).length then ([],3) else (MB t p g pa inj,0)
theorem Xz {t:AD} (hf:BV t) (p g:Graph) (pa:Morphism) (inj:Bool):GK t p g pa inj=some (N7 t p g pa inj):=by
 unfold GK N7
 rw [Ug hf,bs]
 refine KD fun h0=>?_
 refine Nh (by simp only [Bool.or_eq_true,Bool.not_eq_true',decide_eq_false_iff_not]; omega) fun h1=>?_
 have h1:=Classical.not_not.1 h1
 rw [WM,bs]
 refine KD fun h2=>?_
 rw [WM,bs]
 refine KD fun h3=>?_
 obtain ⟨hv,hF⟩:=S0 (inj:=inj) h0 h1.1 h1.2
 unfold I9
 rw [Z7 hf hv hF,bs]
 by_cases h4:5000<(MB t p g pa inj).length
 ·rw [if_pos (by rw [decide_eq_true_eq]; omega),if_pos h4]; rfl
 ·rw [if_neg (by rw [decide_eq_true_eq]; omega),if_neg h4]; rfl
theorem X7 {t:AD} (hf:BV t) (p g:Graph) (pa:Morphism) (inj:Bool):Jt t p g pa inj=some (N7 t p g pa inj):=by
 unfold Jt N7
 rw [QU hf,bs]
 refine KD fun h0=>?_
 refine Nh (by simp only [Bool.or_eq_true,Bool.not_eq_true',decide_eq_false_iff_not]; omega) fun h1=>?_
 have h1:=Classical.not_not.1 h1
 rw [Ta _ (by omega),bs]
 refine KD fun h2=>?_
 rw [Ta _ (by omega),bs]
 refine KD fun h3=>?_
 obtain ⟨hv,hF⟩:=S0 (inj:=inj) h0 h1.1 h1.2
 rw [jR hv hF,bs]
 by_cases h4:5000<(MB t p g pa inj).length
 ·rw [if_pos (by rw [decide_eq_true_eq]; omega),if_pos h4]
 ·rw [if_neg (by rw [decide_eq_true_eq]; omega),if_neg h4]
end Go.Sf.Sc
