/- Plain lemmas: what the functions of the program and of the reference compute. -/
import Derived.Test.YtmaobfbhdkafkaaGreatP1
import Derived.Test.YtmaobfbhdkafkaaGreatEvA
set_option maxRecDepth 100000
namespace Go.Sf.Sc
open Go Go.Sf
theorem ej {t:Types} (hf:BW t) (p:Pattern) {c:AA} (hc:CL c):D0 t p c=some (G9 t p c):=by
 by_cases ht:(A7 t).2=0
 ·exact iJ hf ht p hc
 ·unfold D0 G9
  rw [Ui hf,bs]
  refine Ik fun h=>?_
  exfalso
  unfold Ic at h
  rw [if_pos ht] at h
  exact ht h
end Go.Sf.Sc
namespace Go.Sf.Sc
open Go Go.Sf
theorem XX {α:Type} [Inhabited α] (b:α->α->Bool) {l m:List α} (hb:∀ x∈l,∀ y∈m,(b x y=true↔x=y)) (hl:l.length=m.length):anyR (fun i=>!b (AB l i) (AB m i)) 0 l.length=false↔l=m:=by
 rw [D2]
 constructor
 ·intro h
  refine Y0 hl (fun i i1 i2=>?_)
  have:=h i i1 i2
  rw [Bool.not_eq_false'] at this
  exact (hb _ (AN i1 i2) _ (AN i1 (by omega))).1 this
 ·rintro rfl i i1 i2
  rw [Bool.not_eq_false']
  exact (hb _ (AN i1 i2) _ (AN i1 i2)).2 rfl
theorem eG {α:Type} [Inhabited α] [DecidableEq α] {l m:List α} (hl:l.length=m.length) {k:Unit->Option Bool} {kr:Bool->Option Bool}:thenR (forR (ρ:=Bool) (fun (i0:Int) (_:Unit)=>
 (AH l i0).bind fun x18=>
 (AH m i0).bind fun x22=>
 if (!decide (x18=x22))=true then
 some (.ret false)
 else
 some (.next ())) 0 (l.length:Int) ()) k kr=if l=m then k () else kr false:=by
 rw [CD (fun i=>!decide (AB l i=AB m i)) false]
 ·have:=XX (fun x y:α=>decide (x=y)) (l:=l) (m:=m) (fun _ _ _ _=>decide_eq_true_iff) hl
  by_cases h:l=m
  ·rw [this.2 h,if_pos h]; rfl
  ·rw [if_neg h]
   cases hx:anyR (fun i=>!decide (AB l i=AB m i)) 0 l.length
   ·exact absurd (this.1 hx) h
   ·rfl
 ·intro i i1 i2 _
  rw [AF i1 i2,bs,AF i1 (by omega),bs,KZ]
theorem Rd {α:Type} [Inhabited α] [DecidableEq α] (l m:List α):(if (!decide ((l.length:Int)=(m.length:Int)))=true then
 some false
 else
 thenR (forR (ρ:=Bool) (fun (i0:Int) (_:Unit)=>
 (AH l i0).bind fun x18=>
 (AH m i0).bind fun x22=>
 if (!decide (x18=x22))=true then
 some (.ret false)
 else
 some (.next ())) 0 (l.length:Int) ()) (fun _=>
 some true) (fun v0=>some v0))=some (decide (l=m)):=by
 by_cases hl:l.length=m.length
 ·rw [if_neg (by simp [hl]),eG hl]
  by_cases h:l=m
  ·rw [if_pos h,decide_eq_true h]
  ·rw [if_neg h,decide_eq_false h]
 ·rw [if_pos (by simp; omega),decide_eq_false (fun e=>hl (by rw [e]))]
theorem Um (l m:List Int):ER l m=some (decide (l=m)):=Rd l m
theorem iV (l m:List BX):JL l m=some (decide (l=m)):=Rd l m
theorem iW (l m:List B4):JM l m=some (decide (l=m)):=Rd l m
theorem iX (l m:List Test):JN l m=some (decide (l=m)):=Rd l m
theorem ey (a b:Morphism):If a b=some (decide (a=b)):=by
 unfold If
 rw [Um,Um]
 obtain ⟨a1,a2⟩:=a
 obtain ⟨b1,b2⟩:=b
 by_cases h:a1=b1 <;> by_cases h':a2=b2 <;> simp [h,h']
noncomputable def F4 (a b:AA):Bool:=@decide (a=b) (Classical.propDecidable _)
theorem IG {a b:AA}:F4 a b=true↔a=b:=by
 unfold F4
 exact @decide_eq_true_iff _ (Classical.propDecidable _)
noncomputable def Tr (l m:List AA):Bool:=@decide (l=m) (Classical.propDecidable _)
theorem Rc {l m:List AA}:Tr l m=true↔l=m:=by
 unfold Tr
 exact @decide_eq_true_iff _ (Classical.propDecidable _)
theorem eE (a b:AA):F4 a b=(decide (a.Kind=b.Kind)&&decide (a.Map=b.Map)&&decide (a.Pattern=b.Pattern)&&Tr a.Kids b.Kids):=by
 rw [Bool.eq_iff_iff,IG]
 obtain ⟨a1,a2,a3,a4⟩:=a
 obtain ⟨b1,b2,b3,b4⟩:=b
 simp only [zzZ,zzX,Rc,AA.mk.injEq]
 constructor
 ·rintro ⟨h1,h2,h3,h4⟩; exact ⟨⟨⟨h1,h3⟩,h4⟩,h2⟩
 ·rintro ⟨⟨⟨h1,h3⟩,h4⟩,h2⟩; exact ⟨h1,h2,h3,h4⟩
theorem ZW {l m:List AA} {f:AA->AA->Option Bool} (hf:∀ x∈l,∀ y,f x y=some (F4 x y)) (hl:l.length=m.length):thenR (forR (ρ:=Bool) (fun (i0:Int) (_:Unit)=>
 (AH l i0).bind fun x20=>
 (AH m i0).bind fun x24=>
 (f x20 x24).bind fun x29=>
 if (!x29)=true then
 some (.ret false)
 else
 some (.next ())) 0 (l.length:Int) ()) (fun _=>
 some true) (fun v0=>some v0)=some (Tr l m):=by
 rw [CD (fun i=>!F4 (AB l i) (AB m i)) false]
 ·have:=XX F4 (l:=l) (m:=m) (fun _ _ _ _=>IG) hl
  cases hx:anyR (fun i=>!F4 (AB l i) (AB m i)) 0 l.length
  ·rw [Rc.2 (this.1 hx)]; rfl
  ·have:Tr l m=false:=by
    rw [←Bool.not_eq_true,Rc]
    intro h
    rw [this.2 h] at hx; cases hx
   rw [this]; rfl
 ·intro i i1 i2 _
  rw [AF i1 i2,bs,AF i1 (by omega),bs,hf _ (AN i1 i2),bs,KZ]
theorem eF {l m:List AA} (h:¬ l.length=m.length):Tr l m=false:=by
 rw [←Bool.not_eq_true,Rc]
 exact fun e=>h (by rw [e])
theorem Zi:∀ (N:Nat) (a b:AA),SizeOf.sizeOf a<=N->∀ n,N<=n->ED n a b=some (F4 a b)
 | 0,a,_,h,_,_=>by have:=DO a; omega
 | N+1,a,b,h,n,hn=>by
  obtain ⟨n,rfl⟩:∃ m,n=m+1:=⟨n - 1,by omega⟩
  have hk:D5 a.Kids b.Kids (ED n)=some (Tr a.Kids b.Kids):=by
   unfold D5
   by_cases hl:a.Kids.length=b.Kids.length
   ·rw [if_neg (by simp [hl]),ZW (fun x hx y=>by have:=D3 hx; exact Zi N x y (by omega) n (by omega)) hl]
   ·rw [if_pos (by simp; omega),eF hl]
  rw [ED,ey,Um,iV,iW,iX,hk,eE]
  have hp:decide (a.Pattern=b.Pattern)=(decide (a.Pattern.Vars=b.Pattern.Vars)&&decide (a.Pattern.Graph.Nodes=b.Pattern.Graph.Nodes)&&decide (a.Pattern.Graph.Edges=b.Pattern.Graph.Edges)&&decide (a.Pattern.Slots=b.Pattern.Slots)&&decide (a.Pattern.Tests=b.Pattern.Tests)):=by
   rw [Bool.eq_iff_iff]
   simp only [zzZ,zzX]
   obtain ⟨_,_,_,⟨⟨a1,a2⟩,a3,a4,a5⟩⟩:=a
   obtain ⟨_,_,_,⟨⟨b1,b2⟩,b3,b4,b5⟩⟩:=b
   simp only [Pattern.mk.injEq,Graph.mk.injEq]
   constructor
   ·rintro ⟨⟨h1,h2⟩,h3,h4,h5⟩; exact ⟨⟨⟨⟨h4,h1⟩,h2⟩,h3⟩,h5⟩
   ·rintro ⟨⟨⟨⟨h4,h1⟩,h2⟩,h3⟩,h5⟩; exact ⟨⟨h1,h2⟩,h3,h4,h5⟩
  rw [hp]
  generalize decide (a.Kind=b.Kind)=c1
  generalize decide (a.Map=b.Map)=c2
  generalize decide (a.Pattern.Vars=b.Pattern.Vars)=c3
  generalize decide (a.Pattern.Graph.Nodes=b.Pattern.Graph.Nodes)=c4
  generalize decide (a.Pattern.Graph.Edges=b.Pattern.Graph.Edges)=c5
  generalize decide (a.Pattern.Slots=b.Pattern.Slots)=c6
  generalize decide (a.Pattern.Tests=b.Pattern.Tests)=c7
  generalize Tr a.Kids b.Kids=c8
  cases c1
  ·rfl
  cases c2
  ·rfl
  cases c3
  ·rfl
  cases c4
  ·rfl
  cases c5
  ·rfl
  cases c6
  ·rfl
  cases c7
  ·rfl
  rfl
theorem ew (a b:AA):Mu a b=some (F4 a b):=E2 (SizeOf.sizeOf a) fun n hn=>Zi _ a b (Nat.le_refl _) n hn
end Go.Sf.Sc
namespace Go.Sf.Sc
open Go Go.Sf
mutual
def cnt:AA->Nat
 | ⟨_,kids,_,_⟩=>1+B2 kids
def B2:List AA->Nat
 | []=>0
 | k::l=>cnt k+B2 l
end
mutual
def JG:AA->Nat
 | ⟨k,kids,_,_⟩=>(if k=5 then 1 else 0)+C4 kids
def C4:List AA->Nat
 | []=>0
 | k::l=>max (JG k) (C4 l)
end
theorem GG (c:AA):cnt c=1+B2 c.Kids:=by cases c; rfl
theorem MK (c:AA):JG c=(if c.Kind=5 then 1 else 0)+C4 c.Kids:=by cases c; rfl
theorem Wu {l:List AA} {k:Int} (h0:0<=k) (h1:k<l.length):l.drop k.toNat=AB l k::l.drop (k+1).toNat:=by
 rw [show (k+1).toNat=k.toNat+1 by omega,List.drop_eq_getElem_cons (by omega)]
 unfold AB
 rw [List.getD_eq_getElem?_getD,List.getElem?_eq_getElem (by omega)]; rfl
theorem Tt:∀ (N:Nat) (c:AA),SizeOf.sizeOf c<=N->(AG c).Sm->∀ most:Int,0<=most->most<=1000->∃ r,(∀ n,N<=n->FH n c most=some r)∧-1<=r∧r<=most - 1∧(0<=r->CL c∧(cnt c:Int)+r<=most)
 | 0,c,h,_,_,_,_=>by have:=DO c; omega
 | N+1,c,h,hs,most,m0,m1=>by
  obtain ⟨hm,hkl,hk⟩:=d8 hs
  obtain ⟨b1,e1,f1⟩:=W4 c.Pattern
  obtain ⟨b2,e2,f2⟩:=eJ hm
  have step:∀ n,N+1<=n->∃ m,n=m+1∧N<=m:=fun n hn=>⟨n - 1,by omega,by omega⟩
  cases b1
  ·refine ⟨-1,fun n hn=>?_,by omega,by omega,fun h=>by omega⟩
   obtain ⟨n,rfl,_⟩:=step n hn
   rw [FH,e1]; rfl
  cases b2
  ·refine ⟨-1,fun n hn=>?_,by omega,by omega,fun h=>by omega⟩
   obtain ⟨n,rfl,_⟩:=step n hn
   rw [FH,e1,bs,e2]; rfl
  have loop:∀ (m:Nat) (k left:Int),0<=k->k+m=c.Kids.length->-1<=left->left<=1000->∃ l' k',(∀ n,N<=n->MA (ρ:=Int) (fun (s0:Int × Int)=>
    if ((decide (s0.2<(c.Kids.length:Int)))&&(decide (0<=s0.1)))=true then
    (AH c.Kids s0.2).bind fun x32=>
    (FH n x32 s0.1).bind fun x35=>
    some (.next (x35,AJ (s0.2+1)))
    else
    some (.brk (s0.1,s0.2))) (left,k) (.inl (l',k')))∧-1<=l'∧l'<=left∧(0<=l'->(∀ j,k<=j->j<c.Kids.length->CL (AB c.Kids j))∧(B2 (c.Kids.drop k.toNat):Int)+l'<=left):=by
   intro m
   induction m with
   | zero=>
    intro k left k0 kl l0 l1
    refine ⟨left,k,fun n hn=>.brk ?_,l0,by omega,fun _=>⟨fun j j1 j2=>by omega,?_⟩⟩
    ·rw [if_neg (by simp; omega)]
    ·rw [List.drop_of_length_le (by omega),B2]; omega
   | succ m ih=>
    intro k left k0 kl l0 l1
    by_cases hl:0<=left
    ·have hmem:=AN (l:=c.Kids) k0 (by omega)
     have:=D3 hmem
     obtain ⟨r,r1,r2,r3,r4⟩:=Tt N _ (by omega) (hk _ hmem) left hl l1
     obtain ⟨l',k',a1,a2,a3,a4⟩:=ih (k+1) r (by omega) (by omega) r2 (by omega)
     refine ⟨l',k',fun n hn=>.next (s':=(r,k+1)) ?_ (a1 n hn),a2,by omega,fun h0=>⟨fun j j1 j2=>?_,?_⟩⟩
     ·rw [if_pos (by simp; omega),AF k0 (by omega),bs,r1 n hn,bs,AW (by omega) (by omega)]
     ·by_cases hj:j=k
      ·subst hj; exact (r4 (by omega)).1
      ·exact (a4 h0).1 j (by omega) j2
     ·have e1:=(r4 (by omega)).2
      have e2:=(a4 h0).2
      rw [Wu k0 (by omega),B2]
      omega
    ·refine ⟨left,k,fun n hn=>.brk ?_,l0,by omega,fun h=>by omega⟩
     rw [if_neg (by simp; omega)]
  obtain ⟨l',k',a1,a2,a3,a4⟩:=loop c.Kids.length 0 (most - 1) (by omega) (by omega) (by omega) (by omega)
  refine ⟨l',fun n hn=>?_,a2,a3,fun h0=>⟨.mk c (f1 rfl) (f2 rfl) (fun k hk=>?_),?_⟩⟩
  ·obtain ⟨n,rfl,hn'⟩:=step n hn
   rw [FH,e1,bs,e2]
   simp only [bs,Bool.not_true,Bool.false_eq_true,if_false]
   rw [AW (n:=most - 1) (by omega) (by omega),(a1 n hn').eq,C9]
  ·obtain ⟨j,j1,j2,rfl⟩:=E3 hk
   exact (a4 h0).1 j j1 j2
  ·have:=(a4 h0).2
   rw [show (0:Int).toNat=0 from rfl,List.drop_zero] at this
   rw [GG]
   omega
theorem ZJ {c:AA} (hs:(AG c).Sm):∃ b,Na c=some b∧(b=true->CL c∧cnt c<=40):=by
 obtain ⟨r,r1,_,_,r4⟩:=Tt (SizeOf.sizeOf c) c (Nat.le_refl _) hs 40 (by omega) (by omega)
 have e:Qa c 40=some r:=E2 (SizeOf.sizeOf c) r1
 unfold Na
 rw [e]
 exact ⟨_,rfl,fun h=>by have:=r4 (by simpa using h); exact ⟨this.1,by have:=this.2; simp at h; omega⟩⟩
theorem QA:∀ {l:List AA} {k:AA},k∈l->cnt k<=B2 l
 | x::l,k,h=>by
  rw [B2]
  rcases List.mem_cons.1 h with rfl | h
  ·omega
  ·have:=QA h; omega
theorem Wt:∀ (N:Nat) (c:AA),SizeOf.sizeOf c<=N->JG c<=cnt c
 | 0,c,h=>by have:=DO c; omega
 | N+1,c,h=>by
  have key:∀ l:List AA,(∀ k∈l,k∈c.Kids)->C4 l<=B2 l:=by
   intro l
   induction l with
   | nil=>intro _; exact Nat.le_refl _
   | cons k l ih=>
    intro hl
    have h1:=ih (fun x hx=>hl x (List.mem_cons_of_mem _ hx))
    have:=D3 (hl k List.mem_cons_self)
    have h2:=Wt N k (by omega)
    rw [C4,B2]
    omega
  have:=key c.Kids (fun _ h=>h)
  rw [MK,GG]
  split <;> omega
theorem XF:∀ (N:Nat) (c:AA),SizeOf.sizeOf c<=N->cnt c<=1000->Jt N c=((cnt c:Int),(JG c:Int))
 | 0,c,h,_=>by have:=DO c; omega
 | N+1,c,h,hc=>by
  have key:∀ (l:List AA) (a b:Nat),(∀ k∈l,k∈c.Kids)->a+B2 l<=1000->l.foldl (fun s k=>(AJ (s.1+(Jt N k).1),max s.2 (Jt N k).2)) (((a:Int),(b:Int)):Int × Int)=(((a+B2 l:Nat):Int),((max b (C4 l):Nat):Int)):=by
   intro l
   induction l with
   | nil=>intro a b _ _; simp [B2,C4]
   | cons k l ih=>
    intro a b hl ha
    rw [B2] at ha
    have:=D3 (hl k List.mem_cons_self)
    rw [List.foldl_cons,XF N k (by omega) (by omega)]
    have e1:AJ ((a:Int)+(cnt k:Int))=((a+cnt k:Nat):Int):=by rw [AW (by omega) (by omega)]; omega
    have e2:max (b:Int) (JG k:Int)=((max b (JG k):Nat):Int):=by omega
    simp only [e1,e2]
    rw [ih (a+cnt k) (max b (JG k)) (fun x hx=>hl x (List.mem_cons_of_mem _ hx)) (by omega),B2,C4,Nat.add_assoc,Nat.max_assoc]
  have hc':=hc
  rw [GG] at hc'
  have:=key c.Kids 1 0 (fun _ h=>h) hc'
  have hd:=Wt (N+1) c h
  rw [Jt]
  rw [show ((1,0):Int × Int)=(((1:Nat):Int),((0:Nat):Int)) from rfl,this,GG,MK]
  rw [MK] at hd
  by_cases h5:c.Kind=5
  ·rw [if_pos h5] at hd ⊢
   rw [if_pos h5]
   rw [AW (by simp only [Nat.zero_max]; omega) (by simp only [Nat.zero_max]; omega)]
   simp only [Nat.zero_max,Prod.mk.injEq,true_and]
   omega
  ·rw [if_neg h5,if_neg h5]
   simp
theorem SH {c:AA} (h:cnt c<=1000):N2 c=((cnt c:Int),(JG c:Int)):=XF _ c (Nat.le_refl _) h
end Go.Sf.Sc
namespace Go.Sf.Sc
open Go Go.Sf
structure Lu (f:AI):Prop where
 pn:f.partial_.Nodes.length=f.p.Nodes.length
 pe:f.partial_.Edges.length=f.p.Edges.length
 ends : ∀ e ∈ f.p.Edges, 0 ≤ e.From ∧ e.From < f.p.Nodes.length ∧ 0 ≤ e.To ∧ e.To < f.p.Nodes.length
 kinds:∀ n∈f.p.Nodes,0<=n∧n<f.is.length∧∀ t∈f.g.Nodes,0<=t∧t<(AB f.is n).length
 small:f.p.Nodes.length<=1000∧f.p.Edges.length<=1000∧f.g.Nodes.length<=1000∧f.g.Edges.length<=1000
def Kj (f:AI) (i k:Int):Bool:=
 (decide (AB f.partial_.Edges i<0)||decide (AB f.partial_.Edges i=k))&&decide (AB f.g.Edges k=⟨(AB f.p.Edges i).Type',AB f.nodes (AB f.p.Edges i).From,AB f.nodes (AB f.p.Edges i).To⟩)
theorem Zb {α:Type} {l:List α} (h:l≠[]):Ve l=some ():=by
 unfold Ve
 cases l with
 | nil=>exact absurd rfl h
 | cons _ _=>rfl
theorem VQ {l:List Int} {i:Int} (h0:0<=i) (h1:i<l.length):IU l i=some (AB l i):=by
 unfold IU
 rw [Zb (by intro h; subst h; simp at h1; omega),bs,AF h0 h1,bs]
theorem Zj {f:AI} (hf:Lu f) {i k:Int} (i0:0<=i) (i1:i<f.p.Edges.length) (k0:0<=k) (k1:k<f.g.Edges.length) (hF:(AB f.p.Edges i).From<f.nodes.length) (hT:(AB f.p.Edges i).To<f.nodes.length):EI f i k=some (Kj f i k):=by
 have he:=hf.ends _ (AN i0 i1)
 unfold EI Kj
 rw [AF i0 i1,bs,VQ i0 (by rw [hf.pe]; exact i1),bs,AF k0 k1,bs,AF he.1 hF,bs,AF he.2.2.1 hT,bs]
 by_cases h1:AB f.partial_.Edges i<0
 ·rw [if_neg (by simp; omega)]; simp [h1]
 ·by_cases h2:AB f.partial_.Edges i=k
  ·rw [if_neg (by simp [h2])]; simp [h2]
  ·rw [if_pos (by simp [h2]; omega)]; simp [h1,h2]
def M5 (f:AI):Bool:=!anyR (fun i=>decide (max (AB f.p.Edges i).From (AB f.p.Edges i).To=(f.nodes.length:Int) - 1)&&!anyR (fun k=>Kj f i k) 0 f.g.Edges.length) 0 f.p.Edges.length
theorem dl {f:Int->Bool->Option (B9 Bool Bool)} (p:Int->Bool) {b:Int} (h:∀ i,0<=i->i<b->f i false=some (if p i=true then .brk true else .next false)):forR f 0 b false=some (.inl (anyR p 0 b)):=by
 have key:∀ (m:Nat) (i:Int),0<=i->i+m=b->forGo f m i false=some (.inl (anyR p i b)):=by
  intro m
  induction m with
  | zero=>
   intro i i0 hi
   have:anyR p i b=false:=by rw [D2]; intro j j1 j2; omega
   rw [this]; rfl
  | succ m ih=>
   intro i i0 hi
   rw [FM,h i i0 (by omega)]
   by_cases hp:p i=true
   ·have:anyR p i b=true:=by rw [IL]; exact ⟨i,Int.le_refl _,by omega,hp⟩
    rw [if_pos hp,this]
   ·have e:anyR p i b=anyR p (i+1) b:=by
     rw [Bool.eq_iff_iff,IL,IL]
     constructor
     ·rintro ⟨j,j1,j2,j3⟩
      have:j≠i:=fun e=>hp (e ▸ j3)
      exact ⟨j,by omega,j2,j3⟩
     ·rintro ⟨j,j1,j2,j3⟩
      exact ⟨j,by omega,j2,j3⟩
    rw [if_neg hp,e]
    exact ih (i+1) (by omega) (by omega)
 unfold forR
 by_cases hb:0<=b
 ·exact key _ 0 (Int.le_refl _) (by omega)
 ·have:anyR p 0 b=false:=by rw [D2]; intro j j1 j2; omega
  rw [this,show (b - 0).toNat=0 by omega]; rfl
theorem YG {f:AI} (hf:Lu f) (hn:0<f.nodes.length) (hn2:f.nodes.length<=1000):CN f=some (M5 f):=by
 unfold CN M5
 rw [CD (fun i=>decide (max (AB f.p.Edges i).From (AB f.p.Edges i).To=(f.nodes.length:Int) - 1)&&!anyR (fun k=>Kj f i k) 0 f.g.Edges.length) false]
 ·generalize anyR (fun i=>decide (max (AB f.p.Edges i).From (AB f.p.Edges i).To=(f.nodes.length:Int) - 1)&&!anyR (fun k=>Kj f i k) 0 f.g.Edges.length) 0 f.p.Edges.length=b
  cases b <;> rfl
 ·intro i i0 i1 _
  rw [AF i0 i1,bs,AW (n:=(f.nodes.length:Int) - 1) (by omega) (by omega)]
  by_cases hm:max (AB f.p.Edges i).From (AB f.p.Edges i).To=(f.nodes.length:Int) - 1
  ·rw [if_neg (by simp [hm]),dl (fun k=>Kj f i k) (fun k k0 k1=>by
    rw [Zj hf i0 i1 k0 k1 (by omega) (by omega),bs,KZ])]
   generalize anyR (fun k=>Kj f i k) 0 f.g.Edges.length=b
   rw [decide_eq_true hm]
   cases b <;> rfl
  ·rw [if_pos (by simp [hm]),if_neg (by simp [hm])]
def BS (n:Nat):List Int:=(List.range n).map Int.ofNat
theorem Pa (n:Nat):BS (n+1)=BS n++[(n:Int)]:=by
 unfold BS
 rw [List.range_succ,List.map_append]; rfl
def PP (f:AI) (k:Int):Bool:=(decide (AB f.partial_.Nodes f.nodes.length<0)||decide (AB f.partial_.Nodes f.nodes.length=k))&&AB (AB f.is (AB f.p.Nodes f.nodes.length)) (AB f.g.Nodes k)&&!(f.injective&&f.nodes.any fun x=>decide (k=x))
def PO (f:AI) (k:Int):Bool:=Kj f f.edges.length k&&!(f.injective&&f.edges.any fun x=>decide (k=x))
def EH:Nat->AI->List Morphism
 | 0,f=>[⟨f.nodes,f.edges⟩]
 | n+1,f=>(BS f.g.Edges.length).flatMap fun k=>if PO f k=true then EH n { f with edges:=f.edges++[k] } else []
def Jl:Nat->AI->List Morphism
 | 0,f=>EH f.p.Edges.length f
 | n+1,f=>(BS f.g.Nodes.length).flatMap fun k=>if (PP f k&&M5 { f with nodes:=f.nodes++[k] })=true then Jl n { f with nodes:=f.nodes++[k] } else []
theorem UT {α:Type} (a b:List α) (m:Nat):((a.take m)++b).take m=(a++b).take m:=by
 by_cases h:a.length<=m
 ·rw [List.take_of_length_le h]
 ·rw [List.take_append_of_le_length (by simp; omega),List.take_append_of_le_length (by omega),List.take_take,Nat.min_self]
end Go.Sf.Sc
namespace Go.Sf.Sc
open Go Go.Sf
def QU (f:AI) (o:List Morphism):AI:={ f with out:=o }
theorem Lu.out {f:AI} (h:Lu f) (o:List Morphism):Lu (QU f o):=⟨h.pn,h.pe,h.ends,h.kinds,h.small⟩
theorem OJ:∀ (n:Nat) (f:AI) (o:List Morphism),EH n (QU f o)=EH n f
 | 0,_,_=>rfl
 | n+1,f,o=>by
  rw [EH,EH]
  refine congrArg (fun F=>(BS f.g.Edges.length).flatMap F) (funext fun k=>?_)
  have:=OJ n { f with edges:=f.edges++[k] } o
  show (if PO f k=true then EH n (QU { f with edges:=f.edges++[k] } o) else [])=_
  rw [this]
theorem Uw:∀ (n:Nat) (f:AI) (o:List Morphism),Jl n (QU f o)=Jl n f
 | 0,f,o=>OJ _ f o
 | n+1,f,o=>by
  rw [Jl,Jl]
  refine congrArg (fun F=>(BS f.g.Nodes.length).flatMap F) (funext fun k=>?_)
  have:=Uw n { f with nodes:=f.nodes++[k] } o
  show (if (PP f k&&M5 { f with nodes:=f.nodes++[k] })=true then Jl n (QU { f with nodes:=f.nodes++[k] } o) else [])=_
  rw [this]
def BG (f:AI) (l:List Morphism):AI:=QU f ((f.out++l).take f.most.toNat)
structure TO (f:AI):Prop where
 m0:0<=f.most
 m1:f.most<=10000
 out:(f.out.length:Int)<=f.most
theorem Ko {f:AI} (h:TO f):BG f []=f:=by
 unfold BG
 rw [List.append_nil,List.take_of_length_le (by have:=h.out; have:=h.m0; omega)]; rfl
theorem T3 {f:AI} (h:(f.out.length:Int)=f.most) (l:List Morphism):BG f l=f:=by
 unfold BG
 rw [List.take_append_of_le_length (by omega),List.take_of_length_le (by omega)]; rfl
theorem T5 {f:AI} (h:TO f) (l:List Morphism):TO (BG f l):=by
 refine ⟨h.m0,h.m1,?_⟩
 have:=h.m0
 show (((f.out++l).take f.most.toNat).length:Int)<=f.most
 rw [List.length_take]; omega
theorem T4 (f:AI) (a b:List Morphism):BG (BG f a) b=BG f (a++b):=by
 show QU f ((((f.out++a).take f.most.toNat)++b).take f.most.toNat)=_
 rw [UT,List.append_assoc]; rfl
theorem Sl:∀ (n:Nat) (f:AI),Lu f->TO f->f.nodes.length=f.p.Nodes.length->f.edges.length+n=f.p.Edges.length->∀ m,n+1<=m->A3 m f=some (BG f (EH n f))
 | n,f,hf,hr,hn,he,m,hm=>by
  obtain ⟨m,rfl⟩:∃ k,m=k+1:=⟨m - 1,by omega⟩
  have hs:=hf.small
  have h0:=hr.m0
  have h1:=hr.m1
  have h2:=hr.out
  rw [A3]
  by_cases hfull:(f.out.length:Int)=f.most
  ·rw [if_pos (by simpa using hfull),T3 hfull]; rfl
  rw [if_neg (by simpa using hfull),if_neg (by simp; omega)]
  match n,he,hm with
  | 0,he,hm=>
   rw [if_neg (by simp; omega)]
   unfold slices_Clone_int
   rw [DX (by unfold BA; omega),bs,DX (by unfold BA; omega),bs,BE (by simp; unfold BA; omega),bs,bs]
   unfold BG
   rw [List.take_of_length_le (by simp [EH]; omega)]; rfl
  | n+1,he,hm=>
   rw [if_pos (by simp; omega)]
   have F:∀ k,PO f k=true->Lu { f with edges:=f.edges++[k] }:=fun k _=>⟨hf.pn,hf.pe,hf.ends,hf.kinds,hf.small⟩
   rw [IH (a:=0) (s:=f) (fun i=>BG f ((BS i.toNat).flatMap fun k=>if PO f k=true then EH n { f with edges:=f.edges++[k] } else [])) (by omega) (Ko hr)]
   ·rw [bs,bs,Int.toNat_natCast,EH]
   ·intro i i0 i1
    have hu:BS (i+1).toNat=BS i.toNat++[i]:=by
     rw [show (i+1).toNat=i.toNat+1 by omega,Pa]
     rw [show ((i.toNat:Nat):Int)=i by omega]
    have hg:∀ l,BG f ((BS (i+1).toNat).flatMap l)=BG (BG f ((BS i.toNat).flatMap l)) (l i):=by
     intro l
     rw [T4,hu,List.flatMap_append]; simp
    rw [hg]
    generalize (BS i.toNat).flatMap (fun k=>if PO f k=true then EH n { f with edges:=f.edges++[k] } else [])=L
    have hR:=T5 hr L
    have hf':Lu (BG f L):=hf.out _
    have hend:=hf.ends _ (AN (l:=f.p.Edges) (i:=(f.edges.length:Int)) (by omega) (by omega))
    rw [Zj hf' (i:=(f.edges.length:Int)) (k:=i) (by omega) (by show _<(f.p.Edges.length:Int); omega) i0 (by exact i1) (by show (AB f.p.Edges f.edges.length).From<(f.nodes.length:Int); omega) (by show (AB f.p.Edges f.edges.length).To<(f.nodes.length:Int); omega),bs]
    have hc:DI (BG f L).edges i=some (f.edges.any fun x=>decide (i=x)):=U7 f.edges i
    rw [hc]
    have hfit:Kj (BG f L) f.edges.length i=Kj f f.edges.length i:=rfl
    have key:((AX (BG f L).edges [i]).bind fun x193=>
      (A3 m (AI.mk (BG f L).p (BG f L).g (BG f L).is (BG f L).partial_ (BG f L).injective (BG f L).most (BG f L).nodes x193 (BG f L).out)).bind fun x197=>
      (slc x197.edges 0 (f.edges.length:Int)).bind fun x204=>
      some (AI.mk x197.p x197.g x197.is x197.partial_ x197.injective x197.most x197.nodes x204 x197.out))=some (BG (BG f L) (EH n { f with edges:=f.edges++[i] })):=by
     have e1:AX (BG f L).edges [i]=some (f.edges++[i]):=BE (by show f.edges.length+1<=BA; unfold BA; omega)
     have e2:=Sl n { BG f L with edges:=f.edges++[i] } ⟨hf.pn,hf.pe,hf.ends,hf.kinds,hf.small⟩ ⟨hR.m0,hR.m1,hR.out⟩ hn (by show (f.edges++[i]).length+n=f.p.Edges.length; simp; omega) m (by omega)
     have e3:EH n { BG f L with edges:=f.edges++[i] }=EH n { f with edges:=f.edges++[i] }:=OJ n { f with edges:=f.edges++[i] } _
     rw [e3] at e2
     rw [e1,bs]
     show (A3 m { BG f L with edges:=f.edges++[i] }).bind _=_
     rw [e2,bs]
     have e4:slc (BG { BG f L with edges:=f.edges++[i] } (EH n { f with edges:=f.edges++[i] })).edges 0 (f.edges.length:Int)=some f.edges:=by
      show slc (f.edges++[i]) 0 (f.edges.length:Int)=_
      rw [Jx (by omega) (by rw [List.length_append]; omega),Int.toNat_natCast,List.take_left]
     rw [e4]; rfl
    rw [key,hfit]
    have hok:PO f i=(Kj f f.edges.length i&&!(f.injective&&f.edges.any fun x=>decide (i=x))):=rfl
    have hinj:(BG f L).injective=f.injective:=rfl
    rw [hok,hinj]
    generalize hA:EH n { f with edges:=f.edges++[i] }=A
    cases Kj f f.edges.length i
    ·simp only [Bool.false_and,Bool.false_eq_true,if_false,Ko hR]; rfl
    ·cases f.injective
     ·rfl
     ·cases f.edges.any fun x=>decide (i=x)
      ·rfl
      ·simp only [Bool.and_self,Bool.not_true,Bool.and_false,Bool.false_eq_true,if_false,Ko hR]; rfl
end Go.Sf.Sc
namespace Go.Sf.Sc
open Go Go.Sf
theorem Sn:∀ (n:Nat) (f:AI),Lu f->TO f->f.edges=[]->f.nodes.length+n=f.p.Nodes.length->∀ m,n+f.p.Edges.length+1<=m->A3 m f=some (BG f (Jl n f))
 | 0,f,hf,hr,he,hn,m,hm=>by
  rw [Jl]
  exact Sl _ f hf hr (by omega) (by rw [he]; simp) m (by omega)
 | n+1,f,hf,hr,he,hn,m,hm=>by
  obtain ⟨m,rfl⟩:∃ k,m=k+1:=⟨m - 1,by omega⟩
  have hs:=hf.small
  have h0:=hr.m0
  have h1:=hr.m1
  have h2:=hr.out
  rw [A3]
  by_cases hfull:(f.out.length:Int)=f.most
  ·rw [if_pos (by simpa using hfull),T3 hfull]; rfl
  rw [if_neg (by simpa using hfull),if_pos (by simp; omega)]
  rw [IH (a:=0) (s:=f) (fun i=>BG f ((BS i.toNat).flatMap fun k=>if (PP f k&&M5 { f with nodes:=f.nodes++[k] })=true then Jl n { f with nodes:=f.nodes++[k] } else [])) (by omega) (Ko hr)]
  ·rw [bs,bs,Int.toNat_natCast,Jl]
  ·intro i i0 i1
   have hu:BS (i+1).toNat=BS i.toNat++[i]:=by
    rw [show (i+1).toNat=i.toNat+1 by omega,Pa]
    rw [show ((i.toNat:Nat):Int)=i by omega]
   have hg:∀ l,BG f ((BS (i+1).toNat).flatMap l)=BG (BG f ((BS i.toNat).flatMap l)) (l i):=by
    intro l
    rw [T4,hu,List.flatMap_append]; simp
   rw [hg]
   generalize (BS i.toNat).flatMap (fun k=>if (PP f k&&M5 { f with nodes:=f.nodes++[k] })=true then Jl n { f with nodes:=f.nodes++[k] } else [])=L
   have hR:=T5 hr L
   have hpn:(f.nodes.length:Int)<(f.p.Nodes.length:Int):=by omega
   have hkd:=hf.kinds _ (AN (l:=f.p.Nodes) (i:=(f.nodes.length:Int)) (by omega) hpn)
   have hty:=hkd.2.2 _ (AN i0 i1)
   have key:((AX (BG f L).nodes [i]).bind fun x123=>
     (CN (AI.mk (BG f L).p (BG f L).g (BG f L).is (BG f L).partial_ (BG f L).injective (BG f L).most x123 (BG f L).edges (BG f L).out)).bind fun x127=>
     if x127=true then
     (A3 m (AI.mk (BG f L).p (BG f L).g (BG f L).is (BG f L).partial_ (BG f L).injective (BG f L).most x123 (BG f L).edges (BG f L).out)).bind fun x129=>
     (slc x129.nodes 0 (f.nodes.length:Int)).bind fun x136=>
     some (AI.mk x129.p x129.g x129.is x129.partial_ x129.injective x129.most x136 x129.edges x129.out)
     else
     (slc x123 0 (f.nodes.length:Int)).bind fun x136=>
     some (AI.mk (BG f L).p (BG f L).g (BG f L).is (BG f L).partial_ (BG f L).injective (BG f L).most x136 (BG f L).edges (BG f L).out))=some (BG (BG f L) (if M5 { f with nodes:=f.nodes++[i] }=true then Jl n { f with nodes:=f.nodes++[i] } else [])):=by
    have e1:AX (BG f L).nodes [i]=some (f.nodes++[i]):=BE (by show f.nodes.length+1<=BA; unfold BA; omega)
    have e0:slc (f.nodes++[i]) 0 (f.nodes.length:Int)=some f.nodes:=by
     rw [Jx (by omega) (by rw [List.length_append]; omega),Int.toNat_natCast,List.take_left]
    have ep:CN { BG f L with nodes:=f.nodes++[i] }=some (M5 { f with nodes:=f.nodes++[i] }):=YG (f:={ BG f L with nodes:=f.nodes++[i] }) ⟨hf.pn,hf.pe,hf.ends,hf.kinds,hf.small⟩ (by show 0<(f.nodes++[i]).length; simp) (by show (f.nodes++[i]).length<=1000; rw [List.length_append]; simp; omega)
    have e2:=Sn n { BG f L with nodes:=f.nodes++[i] } ⟨hf.pn,hf.pe,hf.ends,hf.kinds,hf.small⟩ ⟨hR.m0,hR.m1,hR.out⟩ he (by show (f.nodes++[i]).length+n=f.p.Nodes.length; rw [List.length_append]; simp; omega) m (by show n+f.p.Edges.length+1<=m; omega)
    have e3:Jl n { BG f L with nodes:=f.nodes++[i] }=Jl n { f with nodes:=f.nodes++[i] }:=Uw n { f with nodes:=f.nodes++[i] } _
    rw [e3] at e2
    rw [e1,bs]
    show (CN { BG f L with nodes:=f.nodes++[i] }).bind _=_
    rw [ep,bs]
    cases M5 { f with nodes:=f.nodes++[i] }
    ·rw [if_neg (by decide),if_neg (by decide),e0,Ko hR]; rfl
    ·rw [if_pos rfl,if_pos rfl]
     show (A3 m { BG f L with nodes:=f.nodes++[i] }).bind _=_
     rw [e2,bs]
     have e4:slc (BG { BG f L with nodes:=f.nodes++[i] } (Jl n { f with nodes:=f.nodes++[i] })).nodes 0 (f.nodes.length:Int)=some f.nodes:=e0
     rw [e4]; rfl
   have hw:IU (BG f L).partial_.Nodes (f.nodes.length:Int)=some (AB f.partial_.Nodes f.nodes.length):=VQ (by omega) (by show (f.nodes.length:Int)<(f.partial_.Nodes.length:Int); rw [hf.pn]; exact hpn)
   have hp:AH (BG f L).p.Nodes (f.nodes.length:Int)=some (AB f.p.Nodes f.nodes.length):=AF (by omega) hpn
   have hi:AH (BG f L).is (AB f.p.Nodes f.nodes.length)=some (AB f.is (AB f.p.Nodes f.nodes.length)):=AF hkd.1 hkd.2.1
   have ht:AH (AB f.is (AB f.p.Nodes f.nodes.length)) (AB f.g.Nodes i)=some (AB (AB f.is (AB f.p.Nodes f.nodes.length)) (AB f.g.Nodes i)):=AF hty.1 hty.2
   have hc:DI (BG f L).nodes i=some (f.nodes.any fun x=>decide (i=x)):=U7 f.nodes i
   have hinj:(BG f L).injective=f.injective:=rfl
   have hok:PP f i=((decide (AB f.partial_.Nodes f.nodes.length<0)||decide (AB f.partial_.Nodes f.nodes.length=i))&&AB (AB f.is (AB f.p.Nodes f.nodes.length)) (AB f.g.Nodes i)&&!(f.injective&&f.nodes.any fun x=>decide (i=x))):=rfl
   rw [AF i0 i1,bs,hw,bs,hp,bs,hi,bs,ht,bs,hc,key,hinj,hok]
   generalize AB (AB f.is (AB f.p.Nodes f.nodes.length)) (AB f.g.Nodes i)=c2
   have hb:(decide (0<=AB f.partial_.Nodes f.nodes.length)&&!decide (AB f.partial_.Nodes f.nodes.length=i))=!(decide (AB f.partial_.Nodes f.nodes.length<0)||decide (AB f.partial_.Nodes f.nodes.length=i)):=by
    rw [Bool.not_or]
    congr 1
    rw [←decide_not]
    exact decide_eq_decide.2 (by omega)
   rw [hb]
   generalize (decide (AB f.partial_.Nodes f.nodes.length<0)||decide (AB f.partial_.Nodes f.nodes.length=i))=c1
   generalize M5 { f with nodes:=f.nodes++[i] }=c5
   generalize Jl n { f with nodes:=f.nodes++[i] }=A
   cases c1
   ·simp only [Bool.false_and,Bool.false_eq_true,if_false,Ko hR]; rfl
   ·cases c2
    ·simp only [Bool.and_false,Bool.false_and,Bool.false_eq_true,if_false,Ko hR]; rfl
    ·cases f.injective
     ·rfl
     ·cases f.nodes.any fun x=>decide (i=x)
      ·rfl
      ·simp only [Bool.and_self,Bool.not_true,Bool.and_false,Bool.false_and,Bool.false_eq_true,if_false,Ko hR]; rfl
theorem iM {f:AI} (hf:Lu f) (hr:TO f) (he:f.edges=[]) (hn:f.nodes=[]):FU f=some (BG f (Jl f.p.Nodes.length f)):=
 E2 (f.p.Nodes.length+f.p.Edges.length+1) fun m hm=>Sn _ f hf hr he (by rw [hn]; simp) m hm
end Go.Sf.Sc
namespace Go.Sf.Sc
open Go Go.Sf
theorem DK (n:Nat):(BS n).length=n:=by simp [BS]
theorem H0 {n:Nat} {i:Int}:i∈BS n↔0<=i∧i<n:=by
 unfold BS
 rw [List.mem_map]
 constructor
 ·rintro ⟨k,hk,rfl⟩
  have:=List.mem_range.1 hk
  exact ⟨Int.natCast_nonneg k,Int.ofNat_lt.2 this⟩
 ·rintro ⟨h0,h1⟩
  exact ⟨i.toNat,List.mem_range.2 (by omega),by show ((i.toNat:Nat):Int)=i; omega⟩
theorem L7 {n:Nat} {α:Type} [Inhabited α] (F:Int->α) {i:Int} (h0:0<=i) (h1:i<n):AB ((BS n).map F) i=F i:=by
 unfold AB BS
 rw [List.map_map,List.getD_eq_getElem?_getD,List.getElem?_map,List.getElem?_range (by omega)]
 show F (Int.ofNat i.toNat)=F i
 congr 1
 show ((i.toNat:Nat):Int)=i
 omega
theorem LD {i:Int} (h0:0<=i):BS (i+1).toNat=BS i.toNat++[i]:=by
 rw [show (i+1).toNat=i.toNat+1 by omega,Pa,show ((i.toNat:Nat):Int)=i by omega]
def Kb (t:Types) (a:Int):List Bool:=(BS t.Nodes.length).map fun k=>It t k a
def Jy (t:Types):List (List Bool):=(BS t.Nodes.length).map (Kb t)
theorem ee {t:Types} (hf:BW t) (h:G3 t) (hv:(A7 t).2=0) {a:Int} (a0:0<=a) (a1:a<t.Nodes.length):IE t a=some ((BS t.Nodes.length).filter fun i=>It t i a,0):=by
 have hn:=h.nodes
 unfold IE
 have hb:Ia t a=true:=by simp [Ia,a0,a1]
 rw [Td hf,bs,if_neg (by simp [hv,hb])]
 rw [IH (fun i=>(BS i.toNat).filter fun i=>It t i a) (by omega) (by rfl),bs,Int.toNat_natCast]
 intro i i0 i1
 rw [bR h i0 i1,bs,LD i0,List.filter_append]
 have hl:((BS i.toNat).filter fun i=>It t i a).length<=i.toNat:=by
  have:=List.length_filter_le (fun i=>It t i a) (BS i.toNat)
  rwa [DK] at this
 by_cases hi:It t i a=true
 ·rw [if_pos hi,BE (by simp; unfold BA; omega),bs]
  simp [hi]
 ·rw [if_neg hi]
  simp [hi]
theorem fg {n:Nat} {l:List Int} (hl:∀ x∈l,0<=x∧x<n):forA (fun (i2:Int) (s2:List Bool)=>
  (AH l i2).bind fun x30=>
  (AH s2 x30).bind fun _=>
  some (CT s2 x30 true)) 0 (l.length:Int) (List.replicate n false)=some ((BS n).map fun k=>l.any fun x=>decide (x=k)):=by
 rw [IH (fun j=>(BS n).map fun k=>(l.take j.toNat).any fun x=>decide (x=k)) (by omega) (by
  refine List.ext_getElem (by simp [DK]) (fun j j1 j2=>by simp))]
 ·rw [Int.toNat_natCast,List.take_length]
 ·intro j j0 j1
  have hx:=hl _ (AN j0 j1)
  rw [AF j0 j1,bs,AF hx.1 (by rw [List.length_map,DK]; exact hx.2),bs,HY j0 j1]
  congr 1
  unfold CT
  refine List.ext_getElem (by simp) (fun k k1 k2=>?_)
  have hk:k<n:=by simpa [DK] using k2
  rw [List.getElem_set]
  have e:(BS n)[k]'(by rw [DK]; exact hk)=(k:Int):=by simp [BS]
  simp only [List.getElem_map,e,List.any_append,List.any_cons,List.any_nil,Bool.or_false]
  by_cases hjk:(AB l j).toNat=k
  ·rw [if_pos hjk,decide_eq_true (show AB l j=(k:Int) by omega),Bool.or_true]
  ·rw [if_neg hjk,decide_eq_false (show ¬ AB l j=(k:Int) by omega),Bool.or_false]
theorem dG {t:Types} (hf:BW t) (h:G3 t) (hv:(A7 t).2=0):GL t=some (Jy t):=by
 have hn:=h.nodes
 unfold GL
 rw [IH (fun i=>(BS i.toNat).map (Kb t)) (by omega) (by rfl),bs,Int.toNat_natCast]
 ·rfl
 ·intro i i0 i1
  have hm:Kf (t.Nodes.length:Int) false=some (List.replicate t.Nodes.length false):=by
   unfold Kf
   rw [if_pos (by omega),Int.toNat_natCast]
  rw [hm,bs,ee hf h hv i0 i1,bs]
  have:=fg (n:=t.Nodes.length) (l:=(BS t.Nodes.length).filter fun k=>It t k i) (fun x hx=>H0.1 (List.mem_filter.1 hx).1)
  show (forA (fun (i2:Int) (s2:List Bool)=>
   (AH ((BS t.Nodes.length).filter fun k=>It t k i) i2).bind fun x30=>
   (AH s2 x30).bind fun _=>
   some (CT s2 x30 true)) 0 (((BS t.Nodes.length).filter fun k=>It t k i).length:Int) (List.replicate t.Nodes.length false)).bind _=_
  rw [this,bs,BE (by rw [List.length_map,DK]; simp; unfold BA; omega),bs,LD i0,List.map_append]
  congr 2
  simp only [List.map_cons,List.map_nil]
  congr 1
  unfold Kb
  refine List.map_congr_left (fun k hk=>?_)
  have hk:=H0.1 hk
  rw [Bool.eq_iff_iff,List.any_eq_true]
  constructor
  ·rintro ⟨x,hx,e⟩
   rw [zzX] at e
   subst e
   exact (List.mem_filter.1 hx).2
  ·intro hb
   exact ⟨k,List.mem_filter.2 ⟨H0.2 hk,hb⟩,by simp⟩
end Go.Sf.Sc
namespace Go.Sf.Sc
open Go Go.Sf
def GD:Nat->AI->List Morphism
 | 0,f=>EH f.p.Edges.length f
 | n+1,f=>(BS f.g.Nodes.length).flatMap fun k=>if PP f k=true then GD n { f with nodes:=f.nodes++[k] } else []
def Xq (f:AI) (i:Int):Prop:=0<=i∧i<f.p.Edges.length∧0<=(AB f.p.Edges i).From∧(AB f.p.Edges i).From<f.nodes.length∧0<=(AB f.p.Edges i).To∧(AB f.p.Edges i).To<f.nodes.length∧∀ k:Int,0<=k->k<f.g.Edges.length->Kj f i k=false
theorem Qf (f:AI) (i k:Int):Kj f i k=((decide (AB f.partial_.Edges i<0)||decide (AB f.partial_.Edges i=k))&&decide (AB f.g.Edges k=⟨(AB f.p.Edges i).Type',AB f.nodes (AB f.p.Edges i).From,AB f.nodes (AB f.p.Edges i).To⟩)):=rfl
theorem Qw {α:Type} [Inhabited α] (l:List α) (x:α) {i:Int} (h0:0<=i) (h1:i<l.length):AB (l++[x]) i=AB l i:=by
 unfold AB
 rw [List.getD_eq_getElem?_getD,List.getD_eq_getElem?_getD,List.getElem?_append_left (by omega)]
theorem Y9:∀ (n:Nat) (f:AI) (i:Int),Xq f i->(f.edges.length:Int)<=i->i<f.edges.length+n->EH n f=[]
 | 0,f,i,_,h1,h2=>by omega
 | n+1,f,i,hd,h1,h2=>by
  rw [EH]
  refine List.flatMap_eq_nil_iff.2 (fun k hk=>?_)
  have hk:=H0.1 hk
  by_cases he:(f.edges.length:Int)=i
  ·have:PO f k=false:=by
    unfold PO
    rw [he,hd.2.2.2.2.2.2 k hk.1 hk.2]; rfl
   rw [if_neg (by rw [this]; decide)]
  ·split
   ·exact Y9 n { f with edges:=f.edges++[k] } i hd (by show ((f.edges++[k]).length:Int)<=i; rw [List.length_append]; simp; omega) (by show i<((f.edges++[k]).length:Int)+n; rw [List.length_append]; simp; omega)
   ·rfl
theorem U9:∀ (n:Nat) (f:AI) (i:Int),f.edges=[]->Xq f i->GD n f=[]
 | 0,f,i,he,hd=>by
  rw [GD]
  exact Y9 _ f i hd (by rw [he]; simpa using hd.1) (by rw [he]; simpa using hd.2.1)
 | n+1,f,i,he,hd=>by
  rw [GD]
  refine List.flatMap_eq_nil_iff.2 (fun k hk=>?_)
  split
  ·refine U9 n { f with nodes:=f.nodes++[k] } i he ?_
   obtain ⟨d1,d2,d3,d4,d5,d6,d7⟩:=hd
   have hl:((f.nodes++[k]).length:Int)=f.nodes.length+1:=by rw [List.length_append]; simp
   refine ⟨d1,d2,d3,?_,d5,?_,fun j j0 j1=>?_⟩
   ·show (AB f.p.Edges i).From<((f.nodes++[k]).length:Int); omega
   ·show (AB f.p.Edges i).To<((f.nodes++[k]).length:Int); omega
   ·have:=d7 j j0 j1
    rw [Qf] at this ⊢
    show ((decide (AB f.partial_.Edges i<0)||decide (AB f.partial_.Edges i=j))&&decide (AB f.g.Edges j=⟨(AB f.p.Edges i).Type',AB (f.nodes++[k]) (AB f.p.Edges i).From,AB (f.nodes++[k]) (AB f.p.Edges i).To⟩))=false
    rw [Qw _ _ d3 d4,Qw _ _ d5 d6]
    exact this
  ·rfl
theorem bS {f:AI} (hf:Lu f) (h:M5 f=false):∃ i,Xq f i:=by
 unfold M5 at h
 rw [Bool.not_eq_false',IL] at h
 obtain ⟨i,i0,i1,h⟩:=h
 rw [zzZ,zzX,Bool.not_eq_true',D2] at h
 have he:=hf.ends _ (AN i0 i1)
 exact ⟨i,i0,i1,he.1,by omega,he.2.2.1,by omega,h.2⟩
theorem Yz:∀ (n:Nat) (f:AI),Lu f->f.edges=[]->Jl n f=GD n f
 | 0,_,_,_=>rfl
 | n+1,f,hf,he=>by
  rw [Jl,GD]
  refine congrArg (fun F=>(BS f.g.Nodes.length).flatMap F) (funext fun k=>?_)
  have hf':Lu { f with nodes:=f.nodes++[k] }:=⟨hf.pn,hf.pe,hf.ends,hf.kinds,hf.small⟩
  cases PP f k
  ·rfl
  ·cases hp:M5 { f with nodes:=f.nodes++[k] }
   ·obtain ⟨i,hd⟩:=bS hf' hp
    rw [U9 n { f with nodes:=f.nodes++[k] } i he hd]; rfl
   ·simp only [Bool.and_self,if_true]
    exact Yz n _ hf' he
end Go.Sf.Sc
namespace Go.Sf.Sc
open Go Go.Sf
theorem RY {σ ρ:Type} {f:σ × Int->Option (B9 (σ × Int) ρ)} (g:Int->σ) {a b:Int} {s:σ} (hab:a<=b) (hs:s=g a) (h:∀ i,a<=i->i<b->f (g i,i)=some (.next (g (i+1),i+1))) (hb:f (g b,b)=some (.brk (g b,b))):FP f (s,a)=some (.inl (g b,b)):=by
 subst hs
 have key:∀ (n:Nat) (i:Int),a<=i->i+n=b->MA f (g i,i) (.inl (g b,b)):=by
  intro n
  induction n with
  | zero=>
   intro i _ hi
   have:i=b:=by omega
   subst this
   exact .brk hb
  | succ n ih=>
   intro i h1 h2
   exact .next (h i h1 (by omega)) (ih (i+1) (by omega) (by omega))
 exact (key (b - a).toNat a (Int.le_refl _) (by omega)).eq
def FS (s:AO) (nodes edges:List Int):AI:=⟨s.p,s.g,Jy s.t,s.partial_,s.injective,s.most+1,nodes,edges,s.found⟩
def CX (s:AO) (l:List Morphism):AO:={ s with found:=(s.found++l).take (s.most+1).toNat }
structure SV (s:AO):Prop where
 m0:0<=s.most
 m1:s.most<=9999
 out:(s.found.length:Int)<=s.most+1
theorem Nb {s:AO} (h:SV s):CX s []=s:=by
 unfold CX
 rw [List.append_nil,List.take_of_length_le (by have:=h.out; have:=h.m0; omega)]
theorem TH {s:AO} (h:(s.found.length:Int)=s.most+1) (l:List Morphism):CX s l=s:=by
 unfold CX
 rw [List.take_append_of_le_length (by omega),List.take_of_length_le (by omega)]
theorem TI {s:AO} (h:SV s) (l:List Morphism):SV (CX s l):=by
 refine ⟨h.m0,h.m1,?_⟩
 have:=h.m0
 show (((s.found++l).take (s.most+1).toNat).length:Int)<=s.most+1
 rw [List.length_take]; omega
theorem R1 (s:AO) (a b:List Morphism):CX (CX s a) b=CX s (a++b):=by
 show ({ s with found:=(((s.found++a).take (s.most+1).toNat)++b).take (s.most+1).toNat }:AO)=_
 rw [UT,List.append_assoc]; rfl
theorem Zx (s:AO) {l:List Int} (hl:l.length<=1000) (n:Int):DM s l n=some (s.injective&&l.any fun x=>decide (n=x)):=by
 unfold DM
 cases s.injective
 ·rw [Rs (fun _=>false) true (a:=0) (b:=0) (Int.le_refl _) (fun i i1 i2=>by omega) (by rw [if_neg (by simp)])]
  rfl
 ·rw [Rs (fun i=>decide (AB l i=n)) true (a:=0) (b:=l.length) (by omega) (fun i i1 i2=>by
   rw [if_pos (by simp; exact i2),AF i1 i2,bs,AW (by omega) (by omega),KZ]) (by rw [if_neg (by simp)])]
  have e:anyR (fun i=>decide (AB l i=n)) 0 l.length=l.any fun x=>decide (n=x):=by
   rw [Bool.eq_iff_iff,IL,List.any_eq_true]
   constructor
   ·rintro ⟨i,i0,i1,h⟩
    exact ⟨_,AN i0 i1,by simpa [eq_comm] using h⟩
   ·rintro ⟨x,hx,h⟩
    obtain ⟨i,i0,i1,rfl⟩:=E3 hx
    exact ⟨i,i0,i1,by simpa [eq_comm] using h⟩
  rw [e,Bool.true_and]
  cases l.any fun x=>decide (n=x) <;> rfl
theorem UL:∀ (n:Nat) (s:AO) (nodes l:List Int),Lu (FS s [] [])->SV s->nodes.length=s.p.Nodes.length->l.length+n=s.p.Edges.length->∀ m,n+1<=m->CR m s nodes l=some (CX s (EH n (FS s nodes l)))
 | n,s,nodes,l,hf,hr,hn,he,m,hm=>by
  obtain ⟨m,rfl⟩:∃ k,m=k+1:=⟨m - 1,by omega⟩
  have hs:=hf.small
  have s1:s.p.Nodes.length<=1000:=hs.1
  have s2:s.p.Edges.length<=1000:=hs.2.1
  have s3:s.g.Nodes.length<=1000:=hs.2.2.1
  have s4:s.g.Edges.length<=1000:=hs.2.2.2
  have h0:=hr.m0
  have h1:=hr.m1
  have h2:=hr.out
  rw [CR]
  by_cases hfull:(s.found.length:Int)=s.most+1
  ·rw [if_pos (by simp; omega),TH hfull]
  rw [if_neg (by simp; omega)]
  match n,he,hm with
  | 0,he,hm=>
   rw [if_pos (by simp; omega),DX (by unfold BA; omega),bs,DX (by unfold BA; omega),bs,BE (by simp; unfold BA; omega),bs]
   unfold CX
   rw [List.take_of_length_le (by simp [EH]; omega)]; rfl
  | n+1,he,hm=>
   have hi0:(0:Int)<=l.length:=by omega
   have hi1:(l.length:Int)<s.p.Edges.length:=by omega
   have hend:=hf.ends _ (AN (l:=s.p.Edges) hi0 hi1)
   have q1:(AB s.p.Edges l.length).From<nodes.length:=by rw [hn]; exact hend.2.1
   have q2:(AB s.p.Edges l.length).To<nodes.length:=by rw [hn]; exact hend.2.2.2
   have hpe:(l.length:Int)<s.partial_.Edges.length:=by
    have:s.partial_.Edges.length=s.p.Edges.length:=hf.pe
    omega
   rw [if_neg (by simp; omega),AF hi0 hi1,bs]
   rw [RY (fun i=>CX s ((BS i.toNat).flatMap fun k=>if PO (FS s nodes l) k=true then EH n (FS s nodes (l++[k])) else [])) (a:=0) (b:=(s.g.Edges.length:Int)) (s:=s) (by omega) (Nb hr).symm (fun i i0 i1=>by
    have hg:∀ F,CX s ((BS (i+1).toNat).flatMap F)=CX (CX s ((BS i.toNat).flatMap F)) (F i):=by
     intro F
     rw [R1,LD i0,List.flatMap_append]; simp
    rw [hg]
    generalize (BS i.toNat).flatMap (fun k=>if PO (FS s nodes l) k=true then EH n (FS s nodes (l++[k])) else [])=L
    have hR:=TI hr L
    rw [if_pos (by rw [zzX]; exact i1)]
    have g1:AH (CX s L).g.Edges i=some (AB s.g.Edges i):=AF i0 i1
    have g2:AH (CX s L).partial_.Edges (l.length:Int)=some (AB s.partial_.Edges l.length):=AF hi0 hpe
    have g3:DM (CX s L) l i=some (s.injective&&l.any fun x=>decide (i=x)):=Zx (CX s L) (by omega) i
    have key:((AX [] l).bind fun x130=>
      (AX x130 [i]).bind fun x133=>
      (CR m (CX s L) nodes x133).bind fun x134=>
      some (.next (x134,AJ (i+1)):B9 (AO × Int) AO))=some (.next (CX (CX s L) (EH n (FS s nodes (l++[i]))),i+1)):=by
     have e2:=UL n (CX s L) nodes (l++[i]) ⟨hf.pn,hf.pe,hf.ends,hf.kinds,hf.small⟩ hR hn (by show (l++[i]).length+n=s.p.Edges.length; rw [List.length_append]; simp; omega) m (by omega)
     have e3:EH n (FS (CX s L) nodes (l++[i]))=EH n (FS s nodes (l++[i])):=OJ n (FS s nodes (l++[i])) _
     rw [e3] at e2
     rw [DX (by unfold BA; omega),bs,BE (by simp; unfold BA; omega),bs,e2,bs,AW (by omega) (by omega)]
    rw [g1,bs,g2,bs,g3,key]
    simp only [bs]
    rw [AF hend.1 q1,AF hend.2.2.1 q2,AW (n:=i+1) (by omega) (by omega)]
    simp only [bs]
    have hok:PO (FS s nodes l) i=(((decide (AB s.partial_.Edges l.length<0)||decide (AB s.partial_.Edges l.length=i))&&decide (AB s.g.Edges i=⟨(AB s.p.Edges l.length).Type',AB nodes (AB s.p.Edges l.length).From,AB nodes (AB s.p.Edges l.length).To⟩))&&!(s.injective&&l.any fun x=>decide (i=x))):=rfl
    have hE:decide (AB s.g.Edges i=⟨(AB s.p.Edges l.length).Type',AB nodes (AB s.p.Edges l.length).From,AB nodes (AB s.p.Edges l.length).To⟩)=(decide ((AB s.p.Edges l.length).Type'=(AB s.g.Edges i).Type')&&decide ((AB s.g.Edges i).From=AB nodes (AB s.p.Edges l.length).From)&&decide ((AB s.g.Edges i).To=AB nodes (AB s.p.Edges l.length).To)):=by
     rw [Bool.eq_iff_iff]
     simp only [zzZ,zzX]
     generalize AB s.g.Edges i=x
     obtain ⟨x1,x2,x3⟩:=x
     simp only [BX.mk.injEq]
     constructor
     ·rintro ⟨a,b,c⟩; exact ⟨⟨a.symm,b⟩,c⟩
     ·rintro ⟨⟨a,b⟩,c⟩; exact ⟨a.symm,b,c⟩
    have hP:(decide (AB s.partial_.Edges l.length<0)||decide (AB s.partial_.Edges l.length=i))=!(decide (0<=AB s.partial_.Edges l.length)&&!decide (AB s.partial_.Edges l.length=i)):=by
     rw [Bool.not_and,Bool.not_not]
     congr 1
     rw [←decide_not]
     exact decide_eq_decide.2 (by omega)
    rw [hok,hE,hP]
    generalize EH n (FS s nodes (l++[i]))=A
    generalize decide (0<=AB s.partial_.Edges l.length)=c1
    generalize decide (AB s.partial_.Edges l.length=i)=c2
    generalize decide ((AB s.p.Edges l.length).Type'=(AB s.g.Edges i).Type')=c3
    generalize decide ((AB s.g.Edges i).From=AB nodes (AB s.p.Edges l.length).From)=c4
    generalize decide ((AB s.g.Edges i).To=AB nodes (AB s.p.Edges l.length).To)=c5
    generalize (s.injective&&l.any fun x=>decide (i=x))=c6
    cases c1 <;> cases c2 <;> cases c3 <;> cases c4 <;> cases c5 <;> cases c6 <;> first | rfl | (simp only [Bool.and_self,Bool.and_true,Bool.true_and,Bool.and_false,Bool.false_and,Bool.not_true,Bool.not_false,Bool.or_true,Bool.or_false,Bool.false_or,Bool.true_or,if_true,Bool.false_eq_true,if_false,Nb hR,bs]; try rfl)) (by rw [if_neg (by simp [CX])]),C9,Int.toNat_natCast,EH]
   rfl
end Go.Sf.Sc
namespace Go.Sf.Sc
open Go Go.Sf
def PX (s:AO) (l:List Int) (i k:Int):Bool:=decide (AB s.g.Edges k=⟨(AB s.p.Edges i).Type',AB l (AB s.p.Edges i).From,AB l (AB s.p.Edges i).To⟩)
def QB (s:AO) (l:List Int) (i:Int):Bool:=(decide ((AB s.p.Edges i).From<l.length)&&decide ((AB s.p.Edges i).To<l.length))&&!(BS s.g.Edges.length).any (PX s l i)
theorem ia {s:AO} {l:List Int} (hf:Lu (FS s [] [])):GB s l=some (!anyR (QB s l) 0 s.p.Edges.length):=by
 unfold GB
 rw [CD (QB s l) false]
 ·cases anyR (QB s l) 0 s.p.Edges.length <;> rfl
 ·intro i i0 i1 _
  have he:=hf.ends _ (AN (l:=s.p.Edges) i0 i1)
  rw [AF i0 i1,bs]
  unfold QB
  by_cases hF:(AB s.p.Edges i).From<l.length
  ·by_cases hT:(AB s.p.Edges i).To<l.length
   ·rw [if_neg (by simp; omega),IH (fun k=>(BS k.toNat).any (PX s l i)) (by omega) (by rfl),bs,Int.toNat_natCast,decide_eq_true hF,decide_eq_true hT]
    ·cases (BS s.g.Edges.length).any (PX s l i) <;> rfl
    ·intro k k0 k1
     rw [AF k0 k1,bs,LD k0,List.any_append]
     have hE:PX s l i k=(decide ((AB s.p.Edges i).Type'=(AB s.g.Edges k).Type')&&decide ((AB s.g.Edges k).From=AB l (AB s.p.Edges i).From)&&decide ((AB s.g.Edges k).To=AB l (AB s.p.Edges i).To)):=by
      unfold PX
      rw [Bool.eq_iff_iff]
      simp only [zzZ,zzX]
      generalize AB s.g.Edges k=x
      obtain ⟨x1,x2,x3⟩:=x
      simp only [BX.mk.injEq]
      constructor
      ·rintro ⟨a,b,c⟩; exact ⟨⟨a.symm,b⟩,c⟩
      ·rintro ⟨⟨a,b⟩,c⟩; exact ⟨a.symm,b,c⟩
     rw [AF he.1 hF,AF he.2.2.1 hT]
     simp only [List.any_cons,List.any_nil,Bool.or_false,bs]
     rw [hE]
     generalize (BS k.toNat).any (PX s l i)=c1
     generalize decide ((AB s.p.Edges i).Type'=(AB s.g.Edges k).Type')=c3
     generalize decide ((AB s.g.Edges k).From=AB l (AB s.p.Edges i).From)=c4
     generalize decide ((AB s.g.Edges k).To=AB l (AB s.p.Edges i).To)=c5
     cases c1 <;> cases c3 <;> cases c4 <;> cases c5 <;> rfl
   ·rw [if_pos (by simp; omega),decide_eq_false hT]; simp
  ·rw [if_pos (by simp; omega),decide_eq_false hF]; simp
theorem iY {s:AO} {l:List Int} (hf:Lu (FS s [] [])) (h:anyR (QB s l) 0 s.p.Edges.length=true):∃ i,Xq (FS s l []) i:=by
 rw [IL] at h
 obtain ⟨i,i0,i1,h⟩:=h
 unfold QB at h
 rw [zzZ,zzZ,zzX,zzX,Bool.not_eq_true',List.any_eq_false] at h
 have he:=hf.ends _ (AN (l:=s.p.Edges) i0 i1)
 refine ⟨i,i0,i1,he.1,h.1.1,he.2.2.1,h.1.2,fun k k0 k1=>?_⟩
 have:=h.2 k (H0.2 ⟨k0,k1⟩)
 have e:PX s l i k=false:=by rw [←Bool.not_eq_true]; exact this
 rw [Qf]
 show ((decide (AB s.partial_.Edges i<0)||decide (AB s.partial_.Edges i=k))&&PX s l i k)=false
 rw [e,Bool.and_false]
end Go.Sf.Sc
namespace Go.Sf.Sc
open Go Go.Sf
theorem Ux:∀ (n:Nat) (f:AI) (o:List Morphism),GD n (QU f o)=GD n f
 | 0,f,o=>OJ _ f o
 | n+1,f,o=>by
  rw [GD,GD]
  refine congrArg (fun F=>(BS f.g.Nodes.length).flatMap F) (funext fun k=>?_)
  have:=Ux n { f with nodes:=f.nodes++[k] } o
  show (if PP f k=true then GD n (QU { f with nodes:=f.nodes++[k] } o) else [])=_
  rw [this]
theorem UM:∀ (n:Nat) (s:AO) (l:List Int),G3 s.t->Lu (FS s [] [])->SV s->l.length+n=s.p.Nodes.length->∀ m,n+1<=m->CS m s l=some (CX s (GD n (FS s l [])))
 | n,s,l,ht,hf,hr,hl,m,hm=>by
  obtain ⟨m,rfl⟩:∃ k,m=k+1:=⟨m - 1,by omega⟩
  have hs:=hf.small
  have s1:s.p.Nodes.length<=1000:=hs.1
  have s3:s.g.Nodes.length<=1000:=hs.2.2.1
  have h0:=hr.m0
  have h1:=hr.m1
  have h2:=hr.out
  rw [CS]
  by_cases hfull:(s.found.length:Int)=s.most+1
  ·rw [if_pos (by simp; omega),TH hfull]; rfl
  rw [if_neg (by simp; omega),ia hf]
  cases hd:anyR (QB s l) 0 s.p.Edges.length
  case true=>
   obtain ⟨i,hi⟩:=iY hf hd
   rw [U9 n (FS s l []) i rfl hi,Nb hr]; rfl
  simp only [bs,Bool.not_false,Bool.not_true,Bool.false_eq_true,if_false]
  match n,hl,hm with
  | 0,hl,hm=>
   rw [if_pos (by simp; omega),Option.bind_fun_some,GD]
   exact E2 (s.p.Edges.length+1) fun m hm=>UL s.p.Edges.length s l [] hf hr (by omega) (by simp) m (by omega)
  | n+1,hl,hm=>
   have hpn:(l.length:Int)<s.p.Nodes.length:=by omega
   have hi0:(0:Int)<=l.length:=by omega
   have hpp:(l.length:Int)<s.partial_.Nodes.length:=by
    have:s.partial_.Nodes.length=s.p.Nodes.length:=hf.pn
    omega
   have tl:(Jy s.t).length=s.t.Nodes.length:=by unfold Jy; rw [List.length_map,DK]
   have hkd:=hf.kinds _ (AN (l:=s.p.Nodes) hi0 hpn)
   have hk1:AB s.p.Nodes l.length<s.t.Nodes.length:=by rw [←tl]; exact hkd.2.1
   have hrow:AB (Jy s.t) (AB s.p.Nodes l.length)=Kb s.t (AB s.p.Nodes l.length):=L7 (Kb s.t) hkd.1 hk1
   rw [if_neg (by simp; omega)]
   rw [RY (fun i=>CX s ((BS i.toNat).flatMap fun k=>if PP (FS s l []) k=true then GD n (FS s (l++[k]) []) else [])) (a:=0) (b:=(s.g.Nodes.length:Int)) (s:=s) (by omega) (Nb hr).symm (fun i i0 i1=>by
    have hg:∀ F,CX s ((BS (i+1).toNat).flatMap F)=CX (CX s ((BS i.toNat).flatMap F)) (F i):=by
     intro F
     rw [R1,LD i0,List.flatMap_append]; simp
    rw [hg]
    generalize (BS i.toNat).flatMap (fun k=>if PP (FS s l []) k=true then GD n (FS s (l++[k]) []) else [])=L
    have hR:=TI hr L
    rw [if_pos (by rw [zzX]; exact i1)]
    have hty:=hkd.2.2 _ (AN (l:=s.g.Nodes) i0 i1)
    have ht1:AB s.g.Nodes i<s.t.Nodes.length:=by
     have h:=hty.2
     have e:AB (FS s [] []).is (AB s.p.Nodes l.length)=Kb s.t (AB s.p.Nodes l.length):=hrow
     rw [e] at h
     unfold Kb at h
     rwa [List.length_map,DK] at h
    have hbl:HP (CX s L).t (AB s.g.Nodes i) (AB s.p.Nodes l.length)=some (It s.t (AB s.g.Nodes i) (AB s.p.Nodes l.length)):=Te ht hty.1 ht1 hkd.1
    have g1:AH (CX s L).g.Nodes i=some (AB s.g.Nodes i):=AF i0 i1
    have g2:AH (CX s L).partial_.Nodes (l.length:Int)=some (AB s.partial_.Nodes l.length):=AF hi0 hpp
    have g3:DM (CX s L) l i=some (s.injective&&l.any fun x=>decide (i=x)):=Zx (CX s L) (by omega) i
    have g4:AH (CX s L).p.Nodes (l.length:Int)=some (AB s.p.Nodes l.length):=AF hi0 hpn
    have key:((AX [] l).bind fun x99=>
      (AX x99 [i]).bind fun x102=>
      (CS m (CX s L) x102).bind fun x103=>
      some (.next (x103,AJ (i+1)):B9 (AO × Int) AO))=some (.next (CX (CX s L) (GD n (FS s (l++[i]) [])),i+1)):=by
     have e2:=UM n (CX s L) (l++[i]) ht ⟨hf.pn,hf.pe,hf.ends,hf.kinds,hf.small⟩ hR (by show (l++[i]).length+n=s.p.Nodes.length; rw [List.length_append]; simp; omega) m (by omega)
     have e3:GD n (FS (CX s L) (l++[i]) [])=GD n (FS s (l++[i]) []):=Ux n (FS s (l++[i]) []) _
     rw [e3] at e2
     rw [DX (by unfold BA; omega),bs,BE (by simp; unfold BA; omega),bs,e2,bs,AW (by omega) (by omega)]
    rw [g2,bs,g3,g1,g4,key]
    simp only [bs]
    rw [hbl,AW (n:=i+1) (by omega) (by omega)]
    simp only [bs]
    have hok:PP (FS s l []) i=((decide (AB s.partial_.Nodes l.length<0)||decide (AB s.partial_.Nodes l.length=i))&&AB (AB (Jy s.t) (AB s.p.Nodes l.length)) (AB s.g.Nodes i)&&!(s.injective&&l.any fun x=>decide (i=x))):=rfl
    have hB:AB (AB (Jy s.t) (AB s.p.Nodes l.length)) (AB s.g.Nodes i)=It s.t (AB s.g.Nodes i) (AB s.p.Nodes l.length):=by
     rw [hrow]
     exact L7 (fun k=>It s.t k (AB s.p.Nodes l.length)) hty.1 ht1
    have hP:(decide (AB s.partial_.Nodes l.length<0)||decide (AB s.partial_.Nodes l.length=i))=!(decide (0<=AB s.partial_.Nodes l.length)&&!decide (AB s.partial_.Nodes l.length=i)):=by
     rw [Bool.not_and,Bool.not_not]
     congr 1
     rw [←decide_not]
     exact decide_eq_decide.2 (by omega)
    rw [hok,hB,hP]
    generalize GD n (FS s (l++[i]) [])=A
    generalize decide (0<=AB s.partial_.Nodes l.length)=c1
    generalize decide (AB s.partial_.Nodes l.length=i)=c2
    generalize It s.t (AB s.g.Nodes i) (AB s.p.Nodes l.length)=c3
    generalize (s.injective&&l.any fun x=>decide (i=x))=c6
    cases c1 <;> cases c2 <;> cases c3 <;> cases c6 <;> first | rfl | (simp only [Bool.and_self,Bool.and_true,Bool.true_and,Bool.and_false,Bool.false_and,Bool.not_true,Bool.not_false,Bool.or_true,Bool.or_false,if_true,Bool.false_eq_true,if_false,Nb hR,bs]; try rfl)) (by rw [if_neg (by simp [CX])]),C9,Int.toNat_natCast,GD]
   rfl
end Go.Sf.Sc
namespace Go.Sf.Sc
open Go Go.Sf
def LQ (t:Types) (p g:Graph) (pa:Morphism) (inj:Bool):List Morphism:=(GD p.Nodes.length (FS ⟨t,p,g,pa,inj,5000,[]⟩ [] [])).take 5001
theorem en {t:Types} {p g:Graph} {pa:Morphism} {inj:Bool} (ht:BW t) (hv:(A7 t).2=0) (hF:Lu (FS ⟨t,p,g,pa,inj,5000,[]⟩ [] [])):HU t p g pa inj 5001=some (LQ t p g pa inj):=by
 unfold HU
 rw [dG ht (GR hv) hv,bs]
 have h:=iM (f:=FS ⟨t,p,g,pa,inj,5000,[]⟩ [] []) hF ⟨by show (0:Int)<=5000+1; omega,by show (5000:Int)+1<=10000; omega,by show ((0:Nat):Int)<=5000+1; omega⟩ rfl rfl
 rw [Yz _ _ hF rfl] at h
 have e:AI.mk p g (Jy t) pa inj 5001 [] [] []=FS ⟨t,p,g,pa,inj,5000,[]⟩ [] []:=rfl
 rw [e,h]; rfl
theorem oi {t:Types} {p g:Graph} {pa:Morphism} {inj:Bool} (hv:(A7 t).2=0) (hF:Lu (FS ⟨t,p,g,pa,inj,5000,[]⟩ [] [])):NZ t p g pa inj 5000=some (LQ t p g pa inj):=by
 unfold NZ
 have h:JR ⟨t,p,g,pa,inj,5000,[]⟩ []=some (CX ⟨t,p,g,pa,inj,5000,[]⟩ (GD p.Nodes.length (FS ⟨t,p,g,pa,inj,5000,[]⟩ [] []))):=
  E2 (p.Nodes.length+1) fun m hm=>UM p.Nodes.length ⟨t,p,g,pa,inj,5000,[]⟩ [] (GR hv) hF ⟨by show (0:Int)<=5000; omega,by show (5000:Int)<=9999; omega,by show ((0:Nat):Int)<=5000+1; omega⟩ (by show 0+p.Nodes.length=p.Nodes.length; omega) m hm
 rw [h]; rfl
end Go.Sf.Sc
namespace Go.Sf.Sc
open Go Go.Sf
def TQ (n k:Int):Bool:=decide (k < -1)||decide (n<=k)
def PS (l:List Int) (n:Int):Int:=if l.any (TQ n)=true then 6 else 0
theorem Zg (l:List Int) (n:Int):HE l n=some (PS l n):=by
 unfold HE PS
 rw [show (fun y0=>Lp y0 n)=(fun y0=>some (TQ n y0)) from rfl,U4 (p:=TQ n) (fun a _=>rfl),bs]
 cases l.any (TQ n) <;> rfl
end Go.Sf.Sc
namespace Go.Sf.Sc
open Go Go.Sf
theorem Vq (t:Types) (g:Graph):FO t g=some (FI t g):=by
 unfold FO FI
 rw [show (fun y0=>Kh y0 t)=(fun y0=>some (decide ((t.Nodes.length:Int)<=y0))) from rfl,U4 (p:=fun n=>decide ((t.Nodes.length:Int)<=n)) (fun a _=>rfl),bs,
  show (fun y0=>Ki y0 t)=(fun y0=>some (decide ((t.Edges.length:Int)<=y0.Type'))) from rfl,Wq (p:=fun e=>decide ((t.Edges.length:Int)<=e.Type')) (fun a _=>rfl),bs]
 cases g.Nodes.any fun n=>decide ((t.Nodes.length:Int)<=n) <;> rfl
def G0 (t:Types) (p g:Graph):Int:=if (A7 t).2≠0 then (A7 t).2 else if C6 p≠0 then C6 p else if C6 g≠0 then C6 g else if (FI t p&&FI t g)=true then 0 else 13
theorem XQ {t:Types} (hf:BW t) (p g:Graph):GM t p g=some (G0 t p g):=by
 unfold GM G0
 rw [Rl hf,bs]
 refine Ik fun _=>?_
 have h0:forR (ρ:=Int) (fun (i0:Int) (_:Unit)=>
   (AH [p,g] i0).bind fun x26=>
   (D8 x26).bind fun x29=>
   if (!decide (x29=0))=true then
   some (.ret x29)
   else
   some (.next ())) 0 ([p,g].length:Int) ()=some (if C6 p≠0 then .inr (C6 p) else if C6 g≠0 then .inr (C6 g) else .inl ()):=by
  show forGo _ 2 0 ()=_
  rw [FM,show AH [p,g] 0=some p from rfl,bs,OD,bs]
  by_cases hp:C6 p=0
  ·rw [if_neg (by simp [hp]),if_neg (by simp [hp])]
   show forGo _ 1 (0+1) ()=_
   rw [FM,show AH [p,g] (0+1)=some g from rfl,bs,OD,bs]
   by_cases hg:C6 g=0
   ·rw [if_neg (by simp [hg]),if_neg (by simp [hg])]; rfl
   ·rw [if_pos (by simp [hg]),if_pos hg]
  ·rw [if_pos (by simp [hp]),if_pos hp]
 rw [h0]
 by_cases hp:C6 p=0
 ·by_cases hg:C6 g=0
  ·simp only [hp,hg,ne_eq,not_true_eq_false,if_false,C9]
   rw [Vq,Vq,bs]
   cases FI t p <;> cases FI t g <;> rfl
  ·simp only [hp,hg,ne_eq,not_true_eq_false,not_false_eq_true,if_false,if_true,UU]
 ·simp only [hp,ne_eq,not_false_eq_true,if_true,UU]
theorem Vu {t:Types} (hf:BW t) (p g:Graph):KP t p g=some (G0 t p g):=by
 unfold KP G0
 rw [Rp hf,bs]
 refine Ik fun _=>?_
 rw [OF,bs]
 refine Ik fun hp=>?_
 rw [OF,bs]
 refine Ik fun hg=>?_
 rw [Tf (FG hp),bs,Tf (FG hg)]
 cases FI t p <;> cases FI t g <;> rfl
end Go.Sf.Sc
namespace Go.Sf.Sc
open Go Go.Sf
theorem VF {t:Types} {p g:Graph} {pa:Morphism} {inj:Bool} (h:G0 t p g=0) (h1:pa.Nodes.length=p.Nodes.length) (h2:pa.Edges.length=p.Edges.length):(A7 t).2=0∧Lu (FS ⟨t,p,g,pa,inj,5000,[]⟩ [] []):=by
 unfold G0 at h
 by_cases hv:(A7 t).2=0
 ·rw [if_neg (by simp [hv])] at h
  by_cases hp:C6 p=0
  ·rw [if_neg (by simp [hp])] at h
   by_cases hg:C6 g=0
   ·rw [if_neg (by simp [hg])] at h
    by_cases hty:(FI t p&&FI t g)=true
    ·rw [zzZ] at hty
     have op:=FG hp
     have og:=FG hg
     have tp:=M7 op hty.1
     have tg:=M7 og hty.2
     have tl:(Jy t).length=t.Nodes.length:=by unfold Jy; rw [List.length_map,DK]
     refine ⟨hv,h1,h2,fun e he=>?_,fun n hn=>?_,Nat.le_trans op.nodes (by omega),Nat.le_trans op.edges (by omega),Nat.le_trans og.nodes (by omega),Nat.le_trans og.edges (by omega)⟩
     ·have:=op.fit e he
      exact ⟨this.2.1.1,this.2.1.2,this.2.2.1,this.2.2.2⟩
     ·have:=tp.1 n hn
      refine ⟨this.1,by show n<((Jy t).length:Int); rw [tl]; exact this.2,fun k hk=>?_⟩
      have hk:=tg.1 k hk
      refine ⟨hk.1,?_⟩
      show k<((AB (Jy t) n).length:Int)
      unfold Jy
      rw [L7 (Kb t) this.1 this.2]
      unfold Kb
      rw [List.length_map,DK]; exact hk.2
    ·rw [if_neg hty] at h; cases h
   ·rw [if_pos (by simp [hg])] at h; exact absurd h hg
  ·rw [if_pos (by simp [hp])] at h; exact absurd h hp
 ·rw [if_pos (by simp [hv])] at h; exact absurd h hv
def QF (t:Types) (p g:Graph) (pa:Morphism) (inj:Bool):List Morphism × Int:=
 if G0 t p g≠0 then ([],G0 t p g) else if ¬ (pa.Nodes.length=p.Nodes.length∧pa.Edges.length=p.Edges.length) then ([],20) else
 if PS pa.Nodes g.Nodes.length≠0 then ([],PS pa.Nodes g.Nodes.length) else if PS pa.Edges g.Edges.length≠0 then ([],PS pa.Edges g.Edges.length) else
 if 5000<(LQ t p g pa inj).length then ([],3) else (LQ t p g pa inj,0)
theorem bQ {t:Types} (hf:BW t) (p g:Graph) (pa:Morphism) (inj:Bool):GV t p g pa inj=some (QF t p g pa inj):=by
 unfold GV QF
 rw [XQ hf,bs]
 refine OK fun h0=>?_
 refine Qm (by simp only [Bool.or_eq_true,Bool.not_eq_true',decide_eq_false_iff_not]; omega) fun h1=>?_
 have h1:=Classical.not_not.1 h1
 rw [Zg,bs]
 refine OK fun h2=>?_
 rw [Zg,bs]
 refine OK fun h3=>?_
 obtain ⟨hv,hF⟩:=VF (inj:=inj) h0 h1.1 h1.2
 unfold Jw
 rw [en hf hv hF,bs]
 by_cases h4:5000<(LQ t p g pa inj).length
 ·rw [if_pos (by rw [zzX]; omega),if_pos h4]; rfl
 ·rw [if_neg (by rw [zzX]; omega),if_neg h4]; rfl
end Go.Sf.Sc
