/- Plain lemmas: what the functions of the program and of the reference compute. -/
import Derived.Test.YtmaobfbhdkafkaaGreatP1
import Derived.Test.YtmaobfbhdkafkaaGreatEval
set_option maxRecDepth 100000
namespace Go.Sf.Sc
open Go Go.Sf
theorem cr {t:Types} (hf:BV t) (p:Pattern) {c:AA} (hc:C5 c):DU t p c=some (E8 t p c):=by
 by_cases ht:(A7 t).2=0
 ·exact fS hf ht p hc
 ·unfold DU E8
  rw [Tv hf,bs]
  refine IN fun h=>?_
  exfalso
  unfold IH at h
  rw [if_pos ht] at h
  exact ht h
end Go.Sf.Sc
namespace Go.Sf.Sc
open Go Go.Sf
theorem db {α:Type} [Inhabited α] (b:α->α->Bool) {l m:List α} (hb:∀ x∈l,∀ y∈m,(b x y=true↔x=y)) (hl:l.length=m.length):anyR (fun i=>!b (AB l i) (AB m i)) 0 l.length=false↔l=m:=by
 rw [DW]
 constructor
 ·intro h
  refine X2 hl (fun i i1 i2=>?_)
  have:=h i i1 i2
  rw [Bool.not_eq_false'] at this
  exact (hb _ (AN i1 i2) _ (AN i1 (by omega))).1 this
 ·rintro rfl i i1 i2
  rw [Bool.not_eq_false']
  exact (hb _ (AN i1 i2) _ (AN i1 i2)).2 rfl
theorem cV {α:Type} [Inhabited α] [DecidableEq α] {l m:List α} (hl:l.length=m.length) {k:Unit->Option Bool} {kr:Bool->Option Bool}:thenR (forR (ρ:=Bool) (fun (i0:Int) (_:Unit)=>
 (AH l i0).bind fun x18=>
 (AH m i0).bind fun x22=>
 if (!decide (x18=x22))=true then
 some (.ret false)
 else
 some (.next ())) 0 (l.length:Int) ()) k kr=if l=m then k () else kr false:=by
 rw [CE (fun i=>!decide (AB l i=AB m i)) false]
 ·have:=db (fun x y:α=>decide (x=y)) (l:=l) (m:=m) (fun _ _ _ _=>decide_eq_true_iff) hl
  by_cases h:l=m
  ·rw [this.2 h,if_pos h]; rfl
  ·rw [if_neg h]
   cases hx:anyR (fun i=>!decide (AB l i=AB m i)) 0 l.length
   ·exact absurd (this.1 hx) h
   ·rfl
 ·intro i i1 i2 _
  rw [AF i1 i2,bs,AF i1 (by omega),bs,KI]
theorem cU {α:Type} [Inhabited α] [DecidableEq α] (l m:List α):(if (!decide ((l.length:Int)=(m.length:Int)))=true then
 some false
 else
 thenR (forR (ρ:=Bool) (fun (i0:Int) (_:Unit)=>
 (AH l i0).bind fun x18=>
 (AH m i0).bind fun x22=>
 if (!decide (x18=x22))=true then
 some (.ret false)
 else
 some (.next ())) 0 (l.length:Int) ()) (fun _=>
 some true) (fun v0=>some v0))=some (decide (l=m)):=by
 by_cases hl:l.length=m.length
 ·rw [if_neg (by simp [hl]),cV hl]
  by_cases h:l=m
  ·rw [if_pos h,decide_eq_true h]
  ·rw [if_neg h,decide_eq_false h]
 ·rw [if_pos (by simp; omega),decide_eq_false (fun e=>hl (by rw [e]))]
theorem mY (l m:List Int):FE l m=some (decide (l=m)):=cU l m
noncomputable def bO (a b:AA):Bool:=@decide (a=b) (Classical.propDecidable _)
end Go.Sf.Sc
namespace Go.Sf.Sc
open Go Go.Sf
mutual
def cnt:AA->Nat
 | ⟨_,kids,_,_⟩=>1+HN kids
def HN:List AA->Nat
 | []=>0
 | k::l=>cnt k+HN l
end
mutual
def NE:AA->Nat
 | ⟨k,kids,_,_⟩=>(if k=5 then 1 else 0)+OT kids
def OT:List AA->Nat
 | []=>0
 | k::l=>max (NE k) (OT l)
end
theorem Lh (c:AA):cnt c=1+HN c.Kids:=by cases c; rfl
theorem UJ (c:AA):NE c=(if c.Kind=5 then 1 else 0)+OT c.Kids:=by cases c; rfl
theorem cT {l:List AA} {k:Int} (h0:0<=k) (h1:k<l.length):l.drop k.toNat=AB l k::l.drop (k+1).toNat:=by
 rw [show (k+1).toNat=k.toNat+1 by omega,List.drop_eq_getElem_cons (by omega)]
 unfold AB
 rw [List.getD_eq_getElem?_getD,List.getElem?_eq_getElem (by omega)]; rfl
theorem S8:∀ (N:Nat) (c:AA),SizeOf.sizeOf c<=N->(AJ c).Sm->∀ most:Int,0<=most->most<=1000->∃ r,(∀ n,N<=n->E4 n c most=some r)∧-1<=r∧r<=most - 1∧(0<=r->C5 c∧(cnt c:Int)+r<=most)
 | 0,c,h,_,_,_,_=>by have:=DI c; omega
 | N+1,c,h,hs,most,m0,m1=>by
  obtain ⟨hm,hkl,hk⟩:=cO hs
  obtain ⟨b1,e1,f1⟩:=V4 c.Pattern
  obtain ⟨b2,e2,f2⟩:=cX hm
  have step:∀ n,N+1<=n->∃ m,n=m+1∧N<=m:=fun n hn=>⟨n - 1,by omega,by omega⟩
  cases b1
  ·refine ⟨-1,fun n hn=>?_,by omega,by omega,fun h=>by omega⟩
   obtain ⟨n,rfl,_⟩:=step n hn
   rw [E4,e1]; rfl
  cases b2
  ·refine ⟨-1,fun n hn=>?_,by omega,by omega,fun h=>by omega⟩
   obtain ⟨n,rfl,_⟩:=step n hn
   rw [E4,e1,bs,e2]; rfl
  have loop:∀ (m:Nat) (k left:Int),0<=k->k+m=c.Kids.length->-1<=left->left<=1000->∃ l' k',(∀ n,N<=n->LZ (ρ:=Int) (fun (s0:Int × Int)=>
    if ((decide (s0.2<(c.Kids.length:Int)))&&(decide (0<=s0.1)))=true then
    (AH c.Kids s0.2).bind fun x32=>
    (E4 n x32 s0.1).bind fun x35=>
    some (.next (x35,AI (s0.2+1)))
    else
    some (.brk (s0.1,s0.2))) (left,k) (.inl (l',k')))∧-1<=l'∧l'<=left∧(0<=l'->(∀ j,k<=j->j<c.Kids.length->C5 (AB c.Kids j))∧(HN (c.Kids.drop k.toNat):Int)+l'<=left):=by
   intro m
   induction m with
   | zero=>
    intro k left k0 kl l0 l1
    refine ⟨left,k,fun n hn=>.brk ?_,l0,by omega,fun _=>⟨fun j j1 j2=>by omega,?_⟩⟩
    ·rw [if_neg (by simp; omega)]
    ·rw [List.drop_of_length_le (by omega),HN]; omega
   | succ m ih=>
    intro k left k0 kl l0 l1
    by_cases hl:0<=left
    ·have hmem:=AN (l:=c.Kids) k0 (by omega)
     have:=D3 hmem
     obtain ⟨r,r1,r2,r3,r4⟩:=S8 N _ (by omega) (hk _ hmem) left hl l1
     obtain ⟨l',k',a1,a2,a3,a4⟩:=ih (k+1) r (by omega) (by omega) r2 (by omega)
     refine ⟨l',k',fun n hn=>.next (s':=(r,k+1)) ?_ (a1 n hn),a2,by omega,fun h0=>⟨fun j j1 j2=>?_,?_⟩⟩
     ·rw [if_pos (by simp; omega),AF k0 (by omega),bs,r1 n hn,bs,AW (by omega) (by omega)]
     ·by_cases hj:j=k
      ·subst hj; exact (r4 (by omega)).1
      ·exact (a4 h0).1 j (by omega) j2
     ·have e1:=(r4 (by omega)).2
      have e2:=(a4 h0).2
      rw [cT k0 (by omega),HN]
      omega
    ·refine ⟨left,k,fun n hn=>.brk ?_,l0,by omega,fun h=>by omega⟩
     rw [if_neg (by simp; omega)]
  obtain ⟨l',k',a1,a2,a3,a4⟩:=loop c.Kids.length 0 (most - 1) (by omega) (by omega) (by omega) (by omega)
  refine ⟨l',fun n hn=>?_,a2,a3,fun h0=>⟨.mk c (f1 rfl) (f2 rfl) (fun k hk=>?_),?_⟩⟩
  ·obtain ⟨n,rfl,hn'⟩:=step n hn
   rw [E4,e1,bs,e2]
   simp only [bs,Bool.not_true,Bool.false_eq_true,if_false]
   rw [AW (n:=most - 1) (by omega) (by omega),(a1 n hn').eq,C4]
  ·obtain ⟨j,j1,j2,rfl⟩:=EP hk
   exact (a4 h0).1 j j1 j2
  ·have:=(a4 h0).2
   rw [show (0:Int).toNat=0 from rfl,List.drop_zero] at this
   rw [Lh]
   omega
theorem YF {c:AA} (hs:(AJ c).Sm):∃ b,M0 c=some b∧(b=true->C5 c∧cnt c<=40):=by
 obtain ⟨r,r1,_,_,r4⟩:=S8 (SizeOf.sizeOf c) c (Nat.le_refl _) hs 40 (by omega) (by omega)
 have e:Pu c 40=some r:=FK (SizeOf.sizeOf c) r1
 unfold M0
 rw [e]
 exact ⟨_,rfl,fun h=>by have:=r4 (by simpa using h); exact ⟨this.1,by have:=this.2; simp at h; omega⟩⟩
theorem RQ:∀ {l:List AA} {k:AA},k∈l->cnt k<=HN l
 | x::l,k,h=>by
  rw [HN]
  rcases List.mem_cons.1 h with rfl | h
  ·omega
  ·have:=RQ h; omega
theorem Vz:∀ (N:Nat) (c:AA),SizeOf.sizeOf c<=N->NE c<=cnt c
 | 0,c,h=>by have:=DI c; omega
 | N+1,c,h=>by
  have key:∀ l:List AA,(∀ k∈l,k∈c.Kids)->OT l<=HN l:=by
   intro l
   induction l with
   | nil=>intro _; exact Nat.le_refl _
   | cons k l ih=>
    intro hl
    have h1:=ih (fun x hx=>hl x (List.mem_cons_of_mem _ hx))
    have:=D3 (hl k List.mem_cons_self)
    have h2:=Vz N k (by omega)
    rw [OT,HN]
    omega
  have:=key c.Kids (fun _ h=>h)
  rw [UJ,Lh]
  split <;> omega
theorem WG:∀ (N:Nat) (c:AA),SizeOf.sizeOf c<=N->cnt c<=1000->JS N c=((cnt c:Int),(NE c:Int))
 | 0,c,h,_=>by have:=DI c; omega
 | N+1,c,h,hc=>by
  have key:∀ (l:List AA) (a b:Nat),(∀ k∈l,k∈c.Kids)->a+HN l<=1000->l.foldl (fun s k=>(AI (s.1+(JS N k).1),max s.2 (JS N k).2)) (((a:Int),(b:Int)):Int × Int)=(((a+HN l:Nat):Int),((max b (OT l):Nat):Int)):=by
   intro l
   induction l with
   | nil=>intro a b _ _; simp [HN,OT]
   | cons k l ih=>
    intro a b hl ha
    rw [HN] at ha
    have:=D3 (hl k List.mem_cons_self)
    rw [List.foldl_cons,WG N k (by omega) (by omega)]
    have e1:AI ((a:Int)+(cnt k:Int))=((a+cnt k:Nat):Int):=by rw [AW (by omega) (by omega)]; omega
    have e2:max (b:Int) (NE k:Int)=((max b (NE k):Nat):Int):=by omega
    simp only [e1,e2]
    rw [ih (a+cnt k) (max b (NE k)) (fun x hx=>hl x (List.mem_cons_of_mem _ hx)) (by omega),HN,OT,Nat.add_assoc,Nat.max_assoc]
  have hc':=hc
  rw [Lh] at hc'
  have:=key c.Kids 1 0 (fun _ h=>h) hc'
  have hd:=Vz (N+1) c h
  rw [JS]
  rw [show ((1,0):Int × Int)=(((1:Nat):Int),((0:Nat):Int)) from rfl,this,Lh,UJ]
  rw [UJ] at hd
  by_cases h5:c.Kind=5
  ·rw [if_pos h5] at hd ⊢
   rw [if_pos h5]
   rw [AW (by simp only [Nat.zero_max]; omega) (by simp only [Nat.zero_max]; omega)]
   simp only [Nat.zero_max,Prod.mk.injEq,true_and]
   omega
  ·rw [if_neg h5,if_neg h5]
   simp
theorem RY {c:AA} (h:cnt c<=1000):NP c=((cnt c:Int),(NE c:Int)):=WG _ c (Nat.le_refl _) h
end Go.Sf.Sc
namespace Go.Sf.Sc
open Go Go.Sf
structure LK (f:AG):Prop where
 pn:f.partial_.Nodes.length=f.p.Nodes.length
 pe:f.partial_.Edges.length=f.p.Edges.length
 ends : ∀ e ∈ f.p.Edges, 0 ≤ e.From ∧ e.From < f.p.Nodes.length ∧ 0 ≤ e.To ∧ e.To < f.p.Nodes.length
 kinds:∀ n∈f.p.Nodes,0<=n∧n<f.is.length∧∀ t∈f.g.Nodes,0<=t∧t<(AB f.is n).length
 small:f.p.Nodes.length<=1000∧f.p.Edges.length<=1000∧f.g.Nodes.length<=1000∧f.g.Edges.length<=1000
def KC (f:AG) (i k:Int):Bool:=
 (decide (AB f.partial_.Edges i<0)||decide (AB f.partial_.Edges i=k))&&decide (AB f.g.Edges k=⟨(AB f.p.Edges i).Type',AB f.nodes (AB f.p.Edges i).From,AB f.nodes (AB f.p.Edges i).To⟩)
theorem YV {α:Type} {l:List α} (h:l≠[]):Ui l=some ():=by
 unfold Ui
 cases l with
 | nil=>exact absurd rfl h
 | cons _ _=>rfl
theorem UU {l:List Int} {i:Int} (h0:0<=i) (h1:i<l.length):IA l i=some (AB l i):=by
 unfold IA
 rw [YV (by intro h; subst h; simp at h1; omega),bs,AF h0 h1,bs]
theorem Yc {f:AG} (hf:LK f) {i k:Int} (i0:0<=i) (i1:i<f.p.Edges.length) (k0:0<=k) (k1:k<f.g.Edges.length) (hF:(AB f.p.Edges i).From<f.nodes.length) (hT:(AB f.p.Edges i).To<f.nodes.length):D7 f i k=some (KC f i k):=by
 have he:=hf.ends _ (AN i0 i1)
 unfold D7 KC
 rw [AF i0 i1,bs,UU i0 (by rw [hf.pe]; exact i1),bs,AF k0 k1,bs,AF he.1 hF,bs,AF he.2.2.1 hT,bs]
 by_cases h1:AB f.partial_.Edges i<0
 ·rw [if_neg (by simp; omega)]; simp [h1]
 ·by_cases h2:AB f.partial_.Edges i=k
  ·rw [if_neg (by simp [h2])]; simp [h2]
  ·rw [if_pos (by simp [h2]; omega)]; simp [h1,h2]
def MV (f:AG):Bool:=!anyR (fun i=>decide (max (AB f.p.Edges i).From (AB f.p.Edges i).To=(f.nodes.length:Int) - 1)&&!anyR (fun k=>KC f i k) 0 f.g.Edges.length) 0 f.p.Edges.length
theorem cE {f:Int->Bool->Option (B8 Bool Bool)} (p:Int->Bool) {b:Int} (h:∀ i,0<=i->i<b->f i false=some (if p i=true then .brk true else .next false)):forR f 0 b false=some (.inl (anyR p 0 b)):=by
 have key:∀ (m:Nat) (i:Int),0<=i->i+m=b->forGo f m i false=some (.inl (anyR p i b)):=by
  intro m
  induction m with
  | zero=>
   intro i i0 hi
   have:anyR p i b=false:=by rw [DW]; intro j j1 j2; omega
   rw [this]; rfl
  | succ m ih=>
   intro i i0 hi
   rw [F4,h i i0 (by omega)]
   by_cases hp:p i=true
   ·have:anyR p i b=true:=by rw [H2]; exact ⟨i,Int.le_refl _,by omega,hp⟩
    rw [if_pos hp,this]
   ·have e:anyR p i b=anyR p (i+1) b:=by
     rw [Bool.eq_iff_iff,H2,H2]
     constructor
     ·rintro ⟨j,j1,j2,j3⟩
      have:j≠i:=fun e=>hp (e ▸ j3)
      exact ⟨j,by omega,j2,j3⟩
     ·rintro ⟨j,j1,j2,j3⟩
      exact ⟨j,by omega,j2,j3⟩
    rw [if_neg hp,e]
    exact ih (i+1) (by omega) (by omega)
 unfold forR
 by_cases hb:0<=b
 ·exact key _ 0 (Int.le_refl _) (by omega)
 ·have:anyR p 0 b=false:=by rw [DW]; intro j j1 j2; omega
  rw [this,show (b - 0).toNat=0 by omega]; rfl
theorem XF {f:AG} (hf:LK f) (hn:0<f.nodes.length) (hn2:f.nodes.length<=1000):CI f=some (MV f):=by
 unfold CI MV
 rw [CE (fun i=>decide (max (AB f.p.Edges i).From (AB f.p.Edges i).To=(f.nodes.length:Int) - 1)&&!anyR (fun k=>KC f i k) 0 f.g.Edges.length) false]
 ·generalize anyR (fun i=>decide (max (AB f.p.Edges i).From (AB f.p.Edges i).To=(f.nodes.length:Int) - 1)&&!anyR (fun k=>KC f i k) 0 f.g.Edges.length) 0 f.p.Edges.length=b
  cases b <;> rfl
 ·intro i i0 i1 _
  rw [AF i0 i1,bs,AW (n:=(f.nodes.length:Int) - 1) (by omega) (by omega)]
  by_cases hm:max (AB f.p.Edges i).From (AB f.p.Edges i).To=(f.nodes.length:Int) - 1
  ·rw [if_neg (by simp [hm]),cE (fun k=>KC f i k) (fun k k0 k1=>by
    rw [Yc hf i0 i1 k0 k1 (by omega) (by omega),bs,KI])]
   generalize anyR (fun k=>KC f i k) 0 f.g.Edges.length=b
   rw [decide_eq_true hm]
   cases b <;> rfl
  ·rw [if_pos (by simp [hm]),if_neg (by simp [hm])]
def BQ (n:Nat):List Int:=(List.range n).map Int.ofNat
theorem OM (n:Nat):BQ (n+1)=BQ n++[(n:Int)]:=by
 unfold BQ
 rw [List.range_succ,List.map_append]; rfl
def OC (f:AG) (k:Int):Bool:=(decide (AB f.partial_.Nodes f.nodes.length<0)||decide (AB f.partial_.Nodes f.nodes.length=k))&&AB (AB f.is (AB f.p.Nodes f.nodes.length)) (AB f.g.Nodes k)&&!(f.injective&&f.nodes.any fun x=>decide (k=x))
def OB (f:AG) (k:Int):Bool:=KC f f.edges.length k&&!(f.injective&&f.edges.any fun x=>decide (k=x))
def D6:Nat->AG->List Morphism
 | 0,f=>[⟨f.nodes,f.edges⟩]
 | n+1,f=>(BQ f.g.Edges.length).flatMap fun k=>if OB f k=true then D6 n { f with edges:=f.edges++[k] } else []
def JL:Nat->AG->List Morphism
 | 0,f=>D6 f.p.Edges.length f
 | n+1,f=>(BQ f.g.Nodes.length).flatMap fun k=>if (OC f k&&MV { f with nodes:=f.nodes++[k] })=true then JL n { f with nodes:=f.nodes++[k] } else []
theorem Tf {α:Type} (a b:List α) (m:Nat):((a.take m)++b).take m=(a++b).take m:=by
 by_cases h:a.length<=m
 ·rw [List.take_of_length_le h]
 ·rw [List.take_append_of_le_length (by simp; omega),List.take_append_of_le_length (by omega),List.take_take,Nat.min_self]
end Go.Sf.Sc
namespace Go.Sf.Sc
open Go Go.Sf
def Po (f:AG) (o:List Morphism):AG:={ f with out:=o }
theorem LK.out {f:AG} (h:LK f) (o:List Morphism):LK (Po f o):=⟨h.pn,h.pe,h.ends,h.kinds,h.small⟩
theorem Nf:∀ (n:Nat) (f:AG) (o:List Morphism),D6 n (Po f o)=D6 n f
 | 0,_,_=>rfl
 | n+1,f,o=>by
  rw [D6,D6]
  refine congrArg (fun F=>(BQ f.g.Edges.length).flatMap F) (funext fun k=>?_)
  have:=Nf n { f with edges:=f.edges++[k] } o
  show (if OB f k=true then D6 n (Po { f with edges:=f.edges++[k] } o) else [])=_
  rw [this]
theorem T7:∀ (n:Nat) (f:AG) (o:List Morphism),JL n (Po f o)=JL n f
 | 0,f,o=>Nf _ f o
 | n+1,f,o=>by
  rw [JL,JL]
  refine congrArg (fun F=>(BQ f.g.Nodes.length).flatMap F) (funext fun k=>?_)
  have:=T7 n { f with nodes:=f.nodes++[k] } o
  show (if (OC f k&&MV { f with nodes:=f.nodes++[k] })=true then JL n (Po { f with nodes:=f.nodes++[k] } o) else [])=_
  rw [this]
def BC (f:AG) (l:List Morphism):AG:=Po f ((f.out++l).take f.most.toNat)
structure SZ (f:AG):Prop where
 m0:0<=f.most
 m1:f.most<=10000
 out:(f.out.length:Int)<=f.most
theorem KG {f:AG} (h:SZ f):BC f []=f:=by
 unfold BC
 rw [List.append_nil,List.take_of_length_le (by have:=h.out; have:=h.m0; omega)]; rfl
theorem TG {f:AG} (h:(f.out.length:Int)=f.most) (l:List Morphism):BC f l=f:=by
 unfold BC
 rw [List.take_append_of_le_length (by omega),List.take_of_length_le (by omega)]; rfl
theorem TI {f:AG} (h:SZ f) (l:List Morphism):SZ (BC f l):=by
 refine ⟨h.m0,h.m1,?_⟩
 have:=h.m0
 show (((f.out++l).take f.most.toNat).length:Int)<=f.most
 rw [List.length_take]; omega
theorem TH (f:AG) (a b:List Morphism):BC (BC f a) b=BC f (a++b):=by
 show Po f ((((f.out++a).take f.most.toNat)++b).take f.most.toNat)=_
 rw [Tf,List.append_assoc]; rfl
theorem Rz:∀ (n:Nat) (f:AG),LK f->SZ f->f.nodes.length=f.p.Nodes.length->f.edges.length+n=f.p.Edges.length->∀ m,n+1<=m->A2 m f=some (BC f (D6 n f))
 | n,f,hf,hr,hn,he,m,hm=>by
  obtain ⟨m,rfl⟩:∃ k,m=k+1:=⟨m - 1,by omega⟩
  have hs:=hf.small
  have h0:=hr.m0
  have h1:=hr.m1
  have h2:=hr.out
  rw [A2]
  by_cases hfull:(f.out.length:Int)=f.most
  ·rw [if_pos (by simpa using hfull),TG hfull]; rfl
  rw [if_neg (by simpa using hfull),if_neg (by simp; omega)]
  match n,he,hm with
  | 0,he,hm=>
   rw [if_neg (by simp; omega)]
   unfold slices_Clone_int
   rw [FZ (by unfold BF; omega),bs,FZ (by unfold BF; omega),bs,BM (by simp; unfold BF; omega),bs,bs]
   unfold BC
   rw [List.take_of_length_le (by simp [D6]; omega)]; rfl
  | n+1,he,hm=>
   rw [if_pos (by simp; omega)]
   have F:∀ k,OB f k=true->LK { f with edges:=f.edges++[k] }:=fun k _=>⟨hf.pn,hf.pe,hf.ends,hf.kinds,hf.small⟩
   rw [I5 (a:=0) (s:=f) (fun i=>BC f ((BQ i.toNat).flatMap fun k=>if OB f k=true then D6 n { f with edges:=f.edges++[k] } else [])) (by omega) (KG hr)]
   ·rw [bs,bs,Int.toNat_natCast,D6]
   ·intro i i0 i1
    have hu:BQ (i+1).toNat=BQ i.toNat++[i]:=by
     rw [show (i+1).toNat=i.toNat+1 by omega,OM]
     rw [show ((i.toNat:Nat):Int)=i by omega]
    have hg:∀ l,BC f ((BQ (i+1).toNat).flatMap l)=BC (BC f ((BQ i.toNat).flatMap l)) (l i):=by
     intro l
     rw [TH,hu,List.flatMap_append]; simp
    rw [hg]
    generalize (BQ i.toNat).flatMap (fun k=>if OB f k=true then D6 n { f with edges:=f.edges++[k] } else [])=L
    have hR:=TI hr L
    have hf':LK (BC f L):=hf.out _
    have hend:=hf.ends _ (AN (l:=f.p.Edges) (i:=(f.edges.length:Int)) (by omega) (by omega))
    rw [Yc hf' (i:=(f.edges.length:Int)) (k:=i) (by omega) (by show _<(f.p.Edges.length:Int); omega) i0 (by exact i1) (by show (AB f.p.Edges f.edges.length).From<(f.nodes.length:Int); omega) (by show (AB f.p.Edges f.edges.length).To<(f.nodes.length:Int); omega),bs]
    have hc:DC (BC f L).edges i=some (f.edges.any fun x=>decide (i=x)):=UG f.edges i
    rw [hc]
    have hfit:KC (BC f L) f.edges.length i=KC f f.edges.length i:=rfl
    have key:((A3 (BC f L).edges [i]).bind fun x193=>
      (A2 m (AG.mk (BC f L).p (BC f L).g (BC f L).is (BC f L).partial_ (BC f L).injective (BC f L).most (BC f L).nodes x193 (BC f L).out)).bind fun x197=>
      (slc x197.edges 0 (f.edges.length:Int)).bind fun x204=>
      some (AG.mk x197.p x197.g x197.is x197.partial_ x197.injective x197.most x197.nodes x204 x197.out))=some (BC (BC f L) (D6 n { f with edges:=f.edges++[i] })):=by
     have e1:A3 (BC f L).edges [i]=some (f.edges++[i]):=BM (by show f.edges.length+1<=BF; unfold BF; omega)
     have e2:=Rz n { BC f L with edges:=f.edges++[i] } ⟨hf.pn,hf.pe,hf.ends,hf.kinds,hf.small⟩ ⟨hR.m0,hR.m1,hR.out⟩ hn (by show (f.edges++[i]).length+n=f.p.Edges.length; simp; omega) m (by omega)
     have e3:D6 n { BC f L with edges:=f.edges++[i] }=D6 n { f with edges:=f.edges++[i] }:=Nf n { f with edges:=f.edges++[i] } _
     rw [e3] at e2
     rw [e1,bs]
     show (A2 m { BC f L with edges:=f.edges++[i] }).bind _=_
     rw [e2,bs]
     have e4:slc (BC { BC f L with edges:=f.edges++[i] } (D6 n { f with edges:=f.edges++[i] })).edges 0 (f.edges.length:Int)=some f.edges:=by
      show slc (f.edges++[i]) 0 (f.edges.length:Int)=_
      rw [It (by omega) (by rw [List.length_append]; omega),Int.toNat_natCast,List.take_left]
     rw [e4]; rfl
    rw [key,hfit]
    have hok:OB f i=(KC f f.edges.length i&&!(f.injective&&f.edges.any fun x=>decide (i=x))):=rfl
    have hinj:(BC f L).injective=f.injective:=rfl
    rw [hok,hinj]
    generalize hA:D6 n { f with edges:=f.edges++[i] }=A
    cases KC f f.edges.length i
    ·simp only [Bool.false_and,Bool.false_eq_true,if_false,KG hR]; rfl
    ·cases f.injective
     ·rfl
     ·cases f.edges.any fun x=>decide (i=x)
      ·rfl
      ·simp only [Bool.and_self,Bool.not_true,Bool.and_false,Bool.false_eq_true,if_false,KG hR]; rfl
end Go.Sf.Sc
namespace Go.Sf.Sc
open Go Go.Sf
theorem R0:∀ (n:Nat) (f:AG),LK f->SZ f->f.edges=[]->f.nodes.length+n=f.p.Nodes.length->∀ m,n+f.p.Edges.length+1<=m->A2 m f=some (BC f (JL n f))
 | 0,f,hf,hr,he,hn,m,hm=>by
  rw [JL]
  exact Rz _ f hf hr (by omega) (by rw [he]; simp) m (by omega)
 | n+1,f,hf,hr,he,hn,m,hm=>by
  obtain ⟨m,rfl⟩:∃ k,m=k+1:=⟨m - 1,by omega⟩
  have hs:=hf.small
  have h0:=hr.m0
  have h1:=hr.m1
  have h2:=hr.out
  rw [A2]
  by_cases hfull:(f.out.length:Int)=f.most
  ·rw [if_pos (by simpa using hfull),TG hfull]; rfl
  rw [if_neg (by simpa using hfull),if_pos (by simp; omega)]
  rw [I5 (a:=0) (s:=f) (fun i=>BC f ((BQ i.toNat).flatMap fun k=>if (OC f k&&MV { f with nodes:=f.nodes++[k] })=true then JL n { f with nodes:=f.nodes++[k] } else [])) (by omega) (KG hr)]
  ·rw [bs,bs,Int.toNat_natCast,JL]
  ·intro i i0 i1
   have hu:BQ (i+1).toNat=BQ i.toNat++[i]:=by
    rw [show (i+1).toNat=i.toNat+1 by omega,OM]
    rw [show ((i.toNat:Nat):Int)=i by omega]
   have hg:∀ l,BC f ((BQ (i+1).toNat).flatMap l)=BC (BC f ((BQ i.toNat).flatMap l)) (l i):=by
    intro l
    rw [TH,hu,List.flatMap_append]; simp
   rw [hg]
   generalize (BQ i.toNat).flatMap (fun k=>if (OC f k&&MV { f with nodes:=f.nodes++[k] })=true then JL n { f with nodes:=f.nodes++[k] } else [])=L
   have hR:=TI hr L
   have hpn:(f.nodes.length:Int)<(f.p.Nodes.length:Int):=by omega
   have hkd:=hf.kinds _ (AN (l:=f.p.Nodes) (i:=(f.nodes.length:Int)) (by omega) hpn)
   have hty:=hkd.2.2 _ (AN i0 i1)
   have key:((A3 (BC f L).nodes [i]).bind fun x123=>
     (CI (AG.mk (BC f L).p (BC f L).g (BC f L).is (BC f L).partial_ (BC f L).injective (BC f L).most x123 (BC f L).edges (BC f L).out)).bind fun x127=>
     if x127=true then
     (A2 m (AG.mk (BC f L).p (BC f L).g (BC f L).is (BC f L).partial_ (BC f L).injective (BC f L).most x123 (BC f L).edges (BC f L).out)).bind fun x129=>
     (slc x129.nodes 0 (f.nodes.length:Int)).bind fun x136=>
     some (AG.mk x129.p x129.g x129.is x129.partial_ x129.injective x129.most x136 x129.edges x129.out)
     else
     (slc x123 0 (f.nodes.length:Int)).bind fun x136=>
     some (AG.mk (BC f L).p (BC f L).g (BC f L).is (BC f L).partial_ (BC f L).injective (BC f L).most x136 (BC f L).edges (BC f L).out))=some (BC (BC f L) (if MV { f with nodes:=f.nodes++[i] }=true then JL n { f with nodes:=f.nodes++[i] } else [])):=by
    have e1:A3 (BC f L).nodes [i]=some (f.nodes++[i]):=BM (by show f.nodes.length+1<=BF; unfold BF; omega)
    have e0:slc (f.nodes++[i]) 0 (f.nodes.length:Int)=some f.nodes:=by
     rw [It (by omega) (by rw [List.length_append]; omega),Int.toNat_natCast,List.take_left]
    have ep:CI { BC f L with nodes:=f.nodes++[i] }=some (MV { f with nodes:=f.nodes++[i] }):=XF (f:={ BC f L with nodes:=f.nodes++[i] }) ⟨hf.pn,hf.pe,hf.ends,hf.kinds,hf.small⟩ (by show 0<(f.nodes++[i]).length; simp) (by show (f.nodes++[i]).length<=1000; rw [List.length_append]; simp; omega)
    have e2:=R0 n { BC f L with nodes:=f.nodes++[i] } ⟨hf.pn,hf.pe,hf.ends,hf.kinds,hf.small⟩ ⟨hR.m0,hR.m1,hR.out⟩ he (by show (f.nodes++[i]).length+n=f.p.Nodes.length; rw [List.length_append]; simp; omega) m (by show n+f.p.Edges.length+1<=m; omega)
    have e3:JL n { BC f L with nodes:=f.nodes++[i] }=JL n { f with nodes:=f.nodes++[i] }:=T7 n { f with nodes:=f.nodes++[i] } _
    rw [e3] at e2
    rw [e1,bs]
    show (CI { BC f L with nodes:=f.nodes++[i] }).bind _=_
    rw [ep,bs]
    cases MV { f with nodes:=f.nodes++[i] }
    ·rw [if_neg (by decide),if_neg (by decide),e0,KG hR]; rfl
    ·rw [if_pos rfl,if_pos rfl]
     show (A2 m { BC f L with nodes:=f.nodes++[i] }).bind _=_
     rw [e2,bs]
     have e4:slc (BC { BC f L with nodes:=f.nodes++[i] } (JL n { f with nodes:=f.nodes++[i] })).nodes 0 (f.nodes.length:Int)=some f.nodes:=e0
     rw [e4]; rfl
   have hw:IA (BC f L).partial_.Nodes (f.nodes.length:Int)=some (AB f.partial_.Nodes f.nodes.length):=UU (by omega) (by show (f.nodes.length:Int)<(f.partial_.Nodes.length:Int); rw [hf.pn]; exact hpn)
   have hp:AH (BC f L).p.Nodes (f.nodes.length:Int)=some (AB f.p.Nodes f.nodes.length):=AF (by omega) hpn
   have hi:AH (BC f L).is (AB f.p.Nodes f.nodes.length)=some (AB f.is (AB f.p.Nodes f.nodes.length)):=AF hkd.1 hkd.2.1
   have ht:AH (AB f.is (AB f.p.Nodes f.nodes.length)) (AB f.g.Nodes i)=some (AB (AB f.is (AB f.p.Nodes f.nodes.length)) (AB f.g.Nodes i)):=AF hty.1 hty.2
   have hc:DC (BC f L).nodes i=some (f.nodes.any fun x=>decide (i=x)):=UG f.nodes i
   have hinj:(BC f L).injective=f.injective:=rfl
   have hok:OC f i=((decide (AB f.partial_.Nodes f.nodes.length<0)||decide (AB f.partial_.Nodes f.nodes.length=i))&&AB (AB f.is (AB f.p.Nodes f.nodes.length)) (AB f.g.Nodes i)&&!(f.injective&&f.nodes.any fun x=>decide (i=x))):=rfl
   rw [AF i0 i1,bs,hw,bs,hp,bs,hi,bs,ht,bs,hc,key,hinj,hok]
   generalize AB (AB f.is (AB f.p.Nodes f.nodes.length)) (AB f.g.Nodes i)=c2
   have hb:(decide (0<=AB f.partial_.Nodes f.nodes.length)&&!decide (AB f.partial_.Nodes f.nodes.length=i))=!(decide (AB f.partial_.Nodes f.nodes.length<0)||decide (AB f.partial_.Nodes f.nodes.length=i)):=by
    rw [Bool.not_or]
    congr 1
    rw [←decide_not]
    exact decide_eq_decide.2 (by omega)
   rw [hb]
   generalize (decide (AB f.partial_.Nodes f.nodes.length<0)||decide (AB f.partial_.Nodes f.nodes.length=i))=c1
   generalize MV { f with nodes:=f.nodes++[i] }=c5
   generalize JL n { f with nodes:=f.nodes++[i] }=A
   cases c1
   ·simp only [Bool.false_and,Bool.false_eq_true,if_false,KG hR]; rfl
   ·cases c2
    ·simp only [Bool.and_false,Bool.false_and,Bool.false_eq_true,if_false,KG hR]; rfl
    ·cases f.injective
     ·rfl
     ·cases f.nodes.any fun x=>decide (i=x)
      ·rfl
      ·simp only [Bool.and_self,Bool.not_true,Bool.and_false,Bool.false_and,Bool.false_eq_true,if_false,KG hR]; rfl
theorem fV {f:AG} (hf:LK f) (hr:SZ f) (he:f.edges=[]) (hn:f.nodes=[]):FG f=some (BC f (JL f.p.Nodes.length f)):=
 FK (f.p.Nodes.length+f.p.Edges.length+1) fun m hm=>R0 _ f hf hr he (by rw [hn]; simp) m hm
end Go.Sf.Sc
namespace Go.Sf.Sc
open Go Go.Sf
theorem DE (n:Nat):(BQ n).length=n:=by simp [BQ]
theorem HP {n:Nat} {i:Int}:i∈BQ n↔0<=i∧i<n:=by
 unfold BQ
 rw [List.mem_map]
 constructor
 ·rintro ⟨k,hk,rfl⟩
  have:=List.mem_range.1 hk
  exact ⟨Int.natCast_nonneg k,Int.ofNat_lt.2 this⟩
 ·rintro ⟨h0,h1⟩
  exact ⟨i.toNat,List.mem_range.2 (by omega),by show ((i.toNat:Nat):Int)=i; omega⟩
theorem LV {n:Nat} {α:Type} [Inhabited α] (F:Int->α) {i:Int} (h0:0<=i) (h1:i<n):AB ((BQ n).map F) i=F i:=by
 unfold AB BQ
 rw [List.map_map,List.getD_eq_getElem?_getD,List.getElem?_map,List.getElem?_range (by omega)]
 show F (Int.ofNat i.toNat)=F i
 congr 1
 show ((i.toNat:Nat):Int)=i
 omega
theorem Kg {i:Int} (h0:0<=i):BQ (i+1).toNat=BQ i.toNat++[i]:=by
 rw [show (i+1).toNat=i.toNat+1 by omega,OM,show ((i.toNat:Nat):Int)=i by omega]
def J5 (t:Types) (a:Int):List Bool:=(BQ t.Nodes.length).map fun k=>IW t k a
def JW (t:Types):List (List Bool):=(BQ t.Nodes.length).map (J5 t)
theorem co {t:Types} (hf:BV t) (h:GR t) (hv:(A7 t).2=0) {a:Int} (a0:0<=a) (a1:a<t.Nodes.length):Hx t a=some ((BQ t.Nodes.length).filter fun i=>IW t i a,0):=by
 have hn:=h.nodes
 unfold Hx
 have hb:IF t a=true:=by simp [IF,a0,a1]
 rw [Ss hf,bs,if_neg (by simp [hv,hb])]
 rw [I5 (fun i=>(BQ i.toNat).filter fun i=>IW t i a) (by omega) (by rfl),bs,Int.toNat_natCast]
 intro i i0 i1
 rw [Zx h i0 i1,bs,Kg i0,List.filter_append]
 have hl:((BQ i.toNat).filter fun i=>IW t i a).length<=i.toNat:=by
  have:=List.length_filter_le (fun i=>IW t i a) (BQ i.toNat)
  rwa [DE] at this
 by_cases hi:IW t i a=true
 ·rw [if_pos hi,BM (by simp; unfold BF; omega),bs]
  simp [hi]
 ·rw [if_neg hi]
  simp [hi]
theorem de {n:Nat} {l:List Int} (hl:∀ x∈l,0<=x∧x<n):forA (fun (i2:Int) (s2:List Bool)=>
  (AH l i2).bind fun x30=>
  (AH s2 x30).bind fun _=>
  some (CP s2 x30 true)) 0 (l.length:Int) (List.replicate n false)=some ((BQ n).map fun k=>l.any fun x=>decide (x=k)):=by
 rw [I5 (fun j=>(BQ n).map fun k=>(l.take j.toNat).any fun x=>decide (x=k)) (by omega) (by
  refine List.ext_getElem (by simp [DE]) (fun j j1 j2=>by simp))]
 ·rw [Int.toNat_natCast,List.take_length]
 ·intro j j0 j1
  have hx:=hl _ (AN j0 j1)
  rw [AF j0 j1,bs,AF hx.1 (by rw [List.length_map,DE]; exact hx.2),bs,JE j0 j1]
  congr 1
  unfold CP
  refine List.ext_getElem (by simp) (fun k k1 k2=>?_)
  have hk:k<n:=by simpa [DE] using k2
  rw [List.getElem_set]
  have e:(BQ n)[k]'(by rw [DE]; exact hk)=(k:Int):=by simp [BQ]
  simp only [List.getElem_map,e,List.any_append,List.any_cons,List.any_nil,Bool.or_false]
  by_cases hjk:(AB l j).toNat=k
  ·rw [if_pos hjk,decide_eq_true (show AB l j=(k:Int) by omega),Bool.or_true]
  ·rw [if_neg hjk,decide_eq_false (show ¬ AB l j=(k:Int) by omega),Bool.or_false]
theorem bT {t:Types} (hf:BV t) (h:GR t) (hv:(A7 t).2=0):F8 t=some (JW t):=by
 have hn:=h.nodes
 unfold F8
 rw [I5 (fun i=>(BQ i.toNat).map (J5 t)) (by omega) (by rfl),bs,Int.toNat_natCast]
 ·rfl
 ·intro i i0 i1
  have hm:J8 (t.Nodes.length:Int) false=some (List.replicate t.Nodes.length false):=by
   unfold J8
   rw [if_pos (by omega),Int.toNat_natCast]
  rw [hm,bs,co hf h hv i0 i1,bs]
  have:=de (n:=t.Nodes.length) (l:=(BQ t.Nodes.length).filter fun k=>IW t k i) (fun x hx=>HP.1 (List.mem_filter.1 hx).1)
  show (forA (fun (i2:Int) (s2:List Bool)=>
   (AH ((BQ t.Nodes.length).filter fun k=>IW t k i) i2).bind fun x30=>
   (AH s2 x30).bind fun _=>
   some (CP s2 x30 true)) 0 (((BQ t.Nodes.length).filter fun k=>IW t k i).length:Int) (List.replicate t.Nodes.length false)).bind _=_
  rw [this,bs,BM (by rw [List.length_map,DE]; simp; unfold BF; omega),bs,Kg i0,List.map_append]
  congr 2
  simp only [List.map_cons,List.map_nil]
  congr 1
  unfold J5
  refine List.map_congr_left (fun k hk=>?_)
  have hk:=HP.1 hk
  rw [Bool.eq_iff_iff,List.any_eq_true]
  constructor
  ·rintro ⟨x,hx,e⟩
   rw [zzX] at e
   subst e
   exact (List.mem_filter.1 hx).2
  ·intro hb
   exact ⟨k,List.mem_filter.2 ⟨HP.2 hk,hb⟩,by simp⟩
end Go.Sf.Sc
namespace Go.Sf.Sc
open Go Go.Sf
def FY:Nat->AG->List Morphism
 | 0,f=>D6 f.p.Edges.length f
 | n+1,f=>(BQ f.g.Nodes.length).flatMap fun k=>if OC f k=true then FY n { f with nodes:=f.nodes++[k] } else []
def Wn (f:AG) (i:Int):Prop:=0<=i∧i<f.p.Edges.length∧0<=(AB f.p.Edges i).From∧(AB f.p.Edges i).From<f.nodes.length∧0<=(AB f.p.Edges i).To∧(AB f.p.Edges i).To<f.nodes.length∧∀ k:Int,0<=k->k<f.g.Edges.length->KC f i k=false
theorem Pz (f:AG) (i k:Int):KC f i k=((decide (AB f.partial_.Edges i<0)||decide (AB f.partial_.Edges i=k))&&decide (AB f.g.Edges k=⟨(AB f.p.Edges i).Type',AB f.nodes (AB f.p.Edges i).From,AB f.nodes (AB f.p.Edges i).To⟩)):=rfl
theorem QJ {α:Type} [Inhabited α] (l:List α) (x:α) {i:Int} (h0:0<=i) (h1:i<l.length):AB (l++[x]) i=AB l i:=by
 unfold AB
 rw [List.getD_eq_getElem?_getD,List.getD_eq_getElem?_getD,List.getElem?_append_left (by omega)]
theorem X9:∀ (n:Nat) (f:AG) (i:Int),Wn f i->(f.edges.length:Int)<=i->i<f.edges.length+n->D6 n f=[]
 | 0,f,i,_,h1,h2=>by omega
 | n+1,f,i,hd,h1,h2=>by
  rw [D6]
  refine List.flatMap_eq_nil_iff.2 (fun k hk=>?_)
  have hk:=HP.1 hk
  by_cases he:(f.edges.length:Int)=i
  ·have:OB f k=false:=by
    unfold OB
    rw [he,hd.2.2.2.2.2.2 k hk.1 hk.2]; rfl
   rw [if_neg (by rw [this]; decide)]
  ·split
   ·exact X9 n { f with edges:=f.edges++[k] } i hd (by show ((f.edges++[k]).length:Int)<=i; rw [List.length_append]; simp; omega) (by show i<((f.edges++[k]).length:Int)+n; rw [List.length_append]; simp; omega)
   ·rfl
theorem UH:∀ (n:Nat) (f:AG) (i:Int),f.edges=[]->Wn f i->FY n f=[]
 | 0,f,i,he,hd=>by
  rw [FY]
  exact X9 _ f i hd (by rw [he]; simpa using hd.1) (by rw [he]; simpa using hd.2.1)
 | n+1,f,i,he,hd=>by
  rw [FY]
  refine List.flatMap_eq_nil_iff.2 (fun k hk=>?_)
  split
  ·refine UH n { f with nodes:=f.nodes++[k] } i he ?_
   obtain ⟨d1,d2,d3,d4,d5,d6,d7⟩:=hd
   have hl:((f.nodes++[k]).length:Int)=f.nodes.length+1:=by rw [List.length_append]; simp
   refine ⟨d1,d2,d3,?_,d5,?_,fun j j0 j1=>?_⟩
   ·show (AB f.p.Edges i).From<((f.nodes++[k]).length:Int); omega
   ·show (AB f.p.Edges i).To<((f.nodes++[k]).length:Int); omega
   ·have:=d7 j j0 j1
    rw [Pz] at this ⊢
    show ((decide (AB f.partial_.Edges i<0)||decide (AB f.partial_.Edges i=j))&&decide (AB f.g.Edges j=⟨(AB f.p.Edges i).Type',AB (f.nodes++[k]) (AB f.p.Edges i).From,AB (f.nodes++[k]) (AB f.p.Edges i).To⟩))=false
    rw [QJ _ _ d3 d4,QJ _ _ d5 d6]
    exact this
  ·rfl
theorem Zy {f:AG} (hf:LK f) (h:MV f=false):∃ i,Wn f i:=by
 unfold MV at h
 rw [Bool.not_eq_false',H2] at h
 obtain ⟨i,i0,i1,h⟩:=h
 rw [zzZ,zzX,Bool.not_eq_true',DW] at h
 have he:=hf.ends _ (AN i0 i1)
 exact ⟨i,i0,i1,he.1,by omega,he.2.2.1,by omega,h.2⟩
theorem X0:∀ (n:Nat) (f:AG),LK f->f.edges=[]->JL n f=FY n f
 | 0,_,_,_=>rfl
 | n+1,f,hf,he=>by
  rw [JL,FY]
  refine congrArg (fun F=>(BQ f.g.Nodes.length).flatMap F) (funext fun k=>?_)
  have hf':LK { f with nodes:=f.nodes++[k] }:=⟨hf.pn,hf.pe,hf.ends,hf.kinds,hf.small⟩
  cases OC f k
  ·rfl
  ·cases hp:MV { f with nodes:=f.nodes++[k] }
   ·obtain ⟨i,hd⟩:=Zy hf' hp
    rw [UH n { f with nodes:=f.nodes++[k] } i he hd]; rfl
   ·simp only [Bool.and_self,if_true]
    exact X0 n _ hf' he
end Go.Sf.Sc
namespace Go.Sf.Sc
open Go Go.Sf
theorem Qu {σ ρ:Type} {f:σ × Int->Option (B8 (σ × Int) ρ)} (g:Int->σ) {a b:Int} {s:σ} (hab:a<=b) (hs:s=g a) (h:∀ i,a<=i->i<b->f (g i,i)=some (.next (g (i+1),i+1))) (hb:f (g b,b)=some (.brk (g b,b))):FB f (s,a)=some (.inl (g b,b)):=by
 subst hs
 have key:∀ (n:Nat) (i:Int),a<=i->i+n=b->LZ f (g i,i) (.inl (g b,b)):=by
  intro n
  induction n with
  | zero=>
   intro i _ hi
   have:i=b:=by omega
   subst this
   exact .brk hb
  | succ n ih=>
   intro i h1 h2
   exact .next (h i h1 (by omega)) (ih (i+1) (by omega) (by omega))
 exact (key (b - a).toNat a (Int.le_refl _) (by omega)).eq
def FS (s:AO) (nodes edges:List Int):AG:=⟨s.p,s.g,JW s.t,s.partial_,s.injective,s.most+1,nodes,edges,s.found⟩
def CS (s:AO) (l:List Morphism):AO:={ s with found:=(s.found++l).take (s.most+1).toNat }
structure Rl (s:AO):Prop where
 m0:0<=s.most
 m1:s.most<=9999
 out:(s.found.length:Int)<=s.most+1
theorem M1 {s:AO} (h:Rl s):CS s []=s:=by
 unfold CS
 rw [List.append_nil,List.take_of_length_le (by have:=h.out; have:=h.m0; omega)]
theorem SS {s:AO} (h:(s.found.length:Int)=s.most+1) (l:List Morphism):CS s l=s:=by
 unfold CS
 rw [List.take_append_of_le_length (by omega),List.take_of_length_le (by omega)]
theorem ST {s:AO} (h:Rl s) (l:List Morphism):Rl (CS s l):=by
 refine ⟨h.m0,h.m1,?_⟩
 have:=h.m0
 show (((s.found++l).take (s.most+1).toNat).length:Int)<=s.most+1
 rw [List.length_take]; omega
theorem RH (s:AO) (a b:List Morphism):CS (CS s a) b=CS s (a++b):=by
 show ({ s with found:=(((s.found++a).take (s.most+1).toNat)++b).take (s.most+1).toNat }:AO)=_
 rw [Tf,List.append_assoc]; rfl
theorem Yo (s:AO) {l:List Int} (hl:l.length<=1000) (n:Int):DG s l n=some (s.injective&&l.any fun x=>decide (n=x)):=by
 unfold DG
 cases s.injective
 ·rw [Q8 (fun _=>false) true (a:=0) (b:=0) (Int.le_refl _) (fun i i1 i2=>by omega) (by rw [if_neg (by simp)])]
  rfl
 ·rw [Q8 (fun i=>decide (AB l i=n)) true (a:=0) (b:=l.length) (by omega) (fun i i1 i2=>by
   rw [if_pos (by simp; exact i2),AF i1 i2,bs,AW (by omega) (by omega),KI]) (by rw [if_neg (by simp)])]
  have e:anyR (fun i=>decide (AB l i=n)) 0 l.length=l.any fun x=>decide (n=x):=by
   rw [Bool.eq_iff_iff,H2,List.any_eq_true]
   constructor
   ·rintro ⟨i,i0,i1,h⟩
    exact ⟨_,AN i0 i1,by simpa [eq_comm] using h⟩
   ·rintro ⟨x,hx,h⟩
    obtain ⟨i,i0,i1,rfl⟩:=EP hx
    exact ⟨i,i0,i1,by simpa [eq_comm] using h⟩
  rw [e,Bool.true_and]
  cases l.any fun x=>decide (n=x) <;> rfl
theorem TY:∀ (n:Nat) (s:AO) (nodes l:List Int),LK (FS s [] [])->Rl s->nodes.length=s.p.Nodes.length->l.length+n=s.p.Edges.length->∀ m,n+1<=m->CN m s nodes l=some (CS s (D6 n (FS s nodes l)))
 | n,s,nodes,l,hf,hr,hn,he,m,hm=>by
  obtain ⟨m,rfl⟩:∃ k,m=k+1:=⟨m - 1,by omega⟩
  have hs:=hf.small
  have s1:s.p.Nodes.length<=1000:=hs.1
  have s2:s.p.Edges.length<=1000:=hs.2.1
  have s3:s.g.Nodes.length<=1000:=hs.2.2.1
  have s4:s.g.Edges.length<=1000:=hs.2.2.2
  have h0:=hr.m0
  have h1:=hr.m1
  have h2:=hr.out
  rw [CN]
  by_cases hfull:(s.found.length:Int)=s.most+1
  ·rw [if_pos (by simp; omega),SS hfull]
  rw [if_neg (by simp; omega)]
  match n,he,hm with
  | 0,he,hm=>
   rw [if_pos (by simp; omega),FZ (by unfold BF; omega),bs,FZ (by unfold BF; omega),bs,BM (by simp; unfold BF; omega),bs]
   unfold CS
   rw [List.take_of_length_le (by simp [D6]; omega)]; rfl
  | n+1,he,hm=>
   have hi0:(0:Int)<=l.length:=by omega
   have hi1:(l.length:Int)<s.p.Edges.length:=by omega
   have hend:=hf.ends _ (AN (l:=s.p.Edges) hi0 hi1)
   have q1:(AB s.p.Edges l.length).From<nodes.length:=by rw [hn]; exact hend.2.1
   have q2:(AB s.p.Edges l.length).To<nodes.length:=by rw [hn]; exact hend.2.2.2
   have hpe:(l.length:Int)<s.partial_.Edges.length:=by
    have:s.partial_.Edges.length=s.p.Edges.length:=hf.pe
    omega
   rw [if_neg (by simp; omega),AF hi0 hi1,bs]
   rw [Qu (fun i=>CS s ((BQ i.toNat).flatMap fun k=>if OB (FS s nodes l) k=true then D6 n (FS s nodes (l++[k])) else [])) (a:=0) (b:=(s.g.Edges.length:Int)) (s:=s) (by omega) (M1 hr).symm (fun i i0 i1=>by
    have hg:∀ F,CS s ((BQ (i+1).toNat).flatMap F)=CS (CS s ((BQ i.toNat).flatMap F)) (F i):=by
     intro F
     rw [RH,Kg i0,List.flatMap_append]; simp
    rw [hg]
    generalize (BQ i.toNat).flatMap (fun k=>if OB (FS s nodes l) k=true then D6 n (FS s nodes (l++[k])) else [])=L
    have hR:=ST hr L
    rw [if_pos (by rw [zzX]; exact i1)]
    have g1:AH (CS s L).g.Edges i=some (AB s.g.Edges i):=AF i0 i1
    have g2:AH (CS s L).partial_.Edges (l.length:Int)=some (AB s.partial_.Edges l.length):=AF hi0 hpe
    have g3:DG (CS s L) l i=some (s.injective&&l.any fun x=>decide (i=x)):=Yo (CS s L) (by omega) i
    have key:((A3 [] l).bind fun x130=>
      (A3 x130 [i]).bind fun x133=>
      (CN m (CS s L) nodes x133).bind fun x134=>
      some (.next (x134,AI (i+1)):B8 (AO × Int) AO))=some (.next (CS (CS s L) (D6 n (FS s nodes (l++[i]))),i+1)):=by
     have e2:=TY n (CS s L) nodes (l++[i]) ⟨hf.pn,hf.pe,hf.ends,hf.kinds,hf.small⟩ hR hn (by show (l++[i]).length+n=s.p.Edges.length; rw [List.length_append]; simp; omega) m (by omega)
     have e3:D6 n (FS (CS s L) nodes (l++[i]))=D6 n (FS s nodes (l++[i])):=Nf n (FS s nodes (l++[i])) _
     rw [e3] at e2
     rw [FZ (by unfold BF; omega),bs,BM (by simp; unfold BF; omega),bs,e2,bs,AW (by omega) (by omega)]
    rw [g1,bs,g2,bs,g3,key]
    simp only [bs]
    rw [AF hend.1 q1,AF hend.2.2.1 q2,AW (n:=i+1) (by omega) (by omega)]
    simp only [bs]
    have hok:OB (FS s nodes l) i=(((decide (AB s.partial_.Edges l.length<0)||decide (AB s.partial_.Edges l.length=i))&&decide (AB s.g.Edges i=⟨(AB s.p.Edges l.length).Type',AB nodes (AB s.p.Edges l.length).From,AB nodes (AB s.p.Edges l.length).To⟩))&&!(s.injective&&l.any fun x=>decide (i=x))):=rfl
    have hE:decide (AB s.g.Edges i=⟨(AB s.p.Edges l.length).Type',AB nodes (AB s.p.Edges l.length).From,AB nodes (AB s.p.Edges l.length).To⟩)=(decide ((AB s.p.Edges l.length).Type'=(AB s.g.Edges i).Type')&&decide ((AB s.g.Edges i).From=AB nodes (AB s.p.Edges l.length).From)&&decide ((AB s.g.Edges i).To=AB nodes (AB s.p.Edges l.length).To)):=by
     rw [Bool.eq_iff_iff]
     simp only [zzZ,zzX]
     generalize AB s.g.Edges i=x
     obtain ⟨x1,x2,x3⟩:=x
     simp only [B6.mk.injEq]
     constructor
     ·rintro ⟨a,b,c⟩; exact ⟨⟨a.symm,b⟩,c⟩
     ·rintro ⟨⟨a,b⟩,c⟩; exact ⟨a.symm,b,c⟩
    have hP:(decide (AB s.partial_.Edges l.length<0)||decide (AB s.partial_.Edges l.length=i))=!(decide (0<=AB s.partial_.Edges l.length)&&!decide (AB s.partial_.Edges l.length=i)):=by
     rw [Bool.not_and,Bool.not_not]
     congr 1
     rw [←decide_not]
     exact decide_eq_decide.2 (by omega)
    rw [hok,hE,hP]
    generalize D6 n (FS s nodes (l++[i]))=A
    generalize decide (0<=AB s.partial_.Edges l.length)=c1
    generalize decide (AB s.partial_.Edges l.length=i)=c2
    generalize decide ((AB s.p.Edges l.length).Type'=(AB s.g.Edges i).Type')=c3
    generalize decide ((AB s.g.Edges i).From=AB nodes (AB s.p.Edges l.length).From)=c4
    generalize decide ((AB s.g.Edges i).To=AB nodes (AB s.p.Edges l.length).To)=c5
    generalize (s.injective&&l.any fun x=>decide (i=x))=c6
    cases c1 <;> cases c2 <;> cases c3 <;> cases c4 <;> cases c5 <;> cases c6 <;> first | rfl | (simp only [Bool.and_self,Bool.and_true,Bool.true_and,Bool.and_false,Bool.false_and,Bool.not_true,Bool.not_false,Bool.or_true,Bool.or_false,Bool.false_or,Bool.true_or,if_true,Bool.false_eq_true,if_false,M1 hR,bs]; try rfl)) (by rw [if_neg (by simp [CS])]),C4,Int.toNat_natCast,D6]
   rfl
end Go.Sf.Sc
namespace Go.Sf.Sc
open Go Go.Sf
def OJ (s:AO) (l:List Int) (i k:Int):Bool:=decide (AB s.g.Edges k=⟨(AB s.p.Edges i).Type',AB l (AB s.p.Edges i).From,AB l (AB s.p.Edges i).To⟩)
def PU (s:AO) (l:List Int) (i:Int):Bool:=(decide ((AB s.p.Edges i).From<l.length)&&decide ((AB s.p.Edges i).To<l.length))&&!(BQ s.g.Edges.length).any (OJ s l i)
theorem fg {s:AO} {l:List Int} (hf:LK (FS s [] [])):FX s l=some (!anyR (PU s l) 0 s.p.Edges.length):=by
 unfold FX
 rw [CE (PU s l) false]
 ·cases anyR (PU s l) 0 s.p.Edges.length <;> rfl
 ·intro i i0 i1 _
  have he:=hf.ends _ (AN (l:=s.p.Edges) i0 i1)
  rw [AF i0 i1,bs]
  unfold PU
  by_cases hF:(AB s.p.Edges i).From<l.length
  ·by_cases hT:(AB s.p.Edges i).To<l.length
   ·rw [if_neg (by simp; omega),I5 (fun k=>(BQ k.toNat).any (OJ s l i)) (by omega) (by rfl),bs,Int.toNat_natCast,decide_eq_true hF,decide_eq_true hT]
    ·cases (BQ s.g.Edges.length).any (OJ s l i) <;> rfl
    ·intro k k0 k1
     rw [AF k0 k1,bs,Kg k0,List.any_append]
     have hE:OJ s l i k=(decide ((AB s.p.Edges i).Type'=(AB s.g.Edges k).Type')&&decide ((AB s.g.Edges k).From=AB l (AB s.p.Edges i).From)&&decide ((AB s.g.Edges k).To=AB l (AB s.p.Edges i).To)):=by
      unfold OJ
      rw [Bool.eq_iff_iff]
      simp only [zzZ,zzX]
      generalize AB s.g.Edges k=x
      obtain ⟨x1,x2,x3⟩:=x
      simp only [B6.mk.injEq]
      constructor
      ·rintro ⟨a,b,c⟩; exact ⟨⟨a.symm,b⟩,c⟩
      ·rintro ⟨⟨a,b⟩,c⟩; exact ⟨a.symm,b,c⟩
     rw [AF he.1 hF,AF he.2.2.1 hT]
     simp only [List.any_cons,List.any_nil,Bool.or_false,bs]
     rw [hE]
     generalize (BQ k.toNat).any (OJ s l i)=c1
     generalize decide ((AB s.p.Edges i).Type'=(AB s.g.Edges k).Type')=c3
     generalize decide ((AB s.g.Edges k).From=AB l (AB s.p.Edges i).From)=c4
     generalize decide ((AB s.g.Edges k).To=AB l (AB s.p.Edges i).To)=c5
     cases c1 <;> cases c3 <;> cases c4 <;> cases c5 <;> rfl
   ·rw [if_pos (by simp; omega),decide_eq_false hT]; simp
  ·rw [if_pos (by simp; omega),decide_eq_false hF]; simp
theorem fe {s:AO} {l:List Int} (hf:LK (FS s [] [])) (h:anyR (PU s l) 0 s.p.Edges.length=true):∃ i,Wn (FS s l []) i:=by
 rw [H2] at h
 obtain ⟨i,i0,i1,h⟩:=h
 unfold PU at h
 rw [zzZ,zzZ,zzX,zzX,Bool.not_eq_true',List.any_eq_false] at h
 have he:=hf.ends _ (AN (l:=s.p.Edges) i0 i1)
 refine ⟨i,i0,i1,he.1,h.1.1,he.2.2.1,h.1.2,fun k k0 k1=>?_⟩
 have:=h.2 k (HP.2 ⟨k0,k1⟩)
 have e:OJ s l i k=false:=by rw [←Bool.not_eq_true]; exact this
 rw [Pz]
 show ((decide (AB s.partial_.Edges i<0)||decide (AB s.partial_.Edges i=k))&&OJ s l i k)=false
 rw [e,Bool.and_false]
end Go.Sf.Sc
namespace Go.Sf.Sc
open Go Go.Sf
theorem T8:∀ (n:Nat) (f:AG) (o:List Morphism),FY n (Po f o)=FY n f
 | 0,f,o=>Nf _ f o
 | n+1,f,o=>by
  rw [FY,FY]
  refine congrArg (fun F=>(BQ f.g.Nodes.length).flatMap F) (funext fun k=>?_)
  have:=T8 n { f with nodes:=f.nodes++[k] } o
  show (if OC f k=true then FY n (Po { f with nodes:=f.nodes++[k] } o) else [])=_
  rw [this]
theorem TZ:∀ (n:Nat) (s:AO) (l:List Int),GR s.t->LK (FS s [] [])->Rl s->l.length+n=s.p.Nodes.length->∀ m,n+1<=m->CO m s l=some (CS s (FY n (FS s l [])))
 | n,s,l,ht,hf,hr,hl,m,hm=>by
  obtain ⟨m,rfl⟩:∃ k,m=k+1:=⟨m - 1,by omega⟩
  have hs:=hf.small
  have s1:s.p.Nodes.length<=1000:=hs.1
  have s3:s.g.Nodes.length<=1000:=hs.2.2.1
  have h0:=hr.m0
  have h1:=hr.m1
  have h2:=hr.out
  rw [CO]
  by_cases hfull:(s.found.length:Int)=s.most+1
  ·rw [if_pos (by simp; omega),SS hfull]; rfl
  rw [if_neg (by simp; omega),fg hf]
  cases hd:anyR (PU s l) 0 s.p.Edges.length
  case true=>
   obtain ⟨i,hi⟩:=fe hf hd
   rw [UH n (FS s l []) i rfl hi,M1 hr]; rfl
  simp only [bs,Bool.not_false,Bool.not_true,Bool.false_eq_true,if_false]
  match n,hl,hm with
  | 0,hl,hm=>
   rw [if_pos (by simp; omega),Option.bind_fun_some,FY]
   exact FK (s.p.Edges.length+1) fun m hm=>TY s.p.Edges.length s l [] hf hr (by omega) (by simp) m (by omega)
  | n+1,hl,hm=>
   have hpn:(l.length:Int)<s.p.Nodes.length:=by omega
   have hi0:(0:Int)<=l.length:=by omega
   have hpp:(l.length:Int)<s.partial_.Nodes.length:=by
    have:s.partial_.Nodes.length=s.p.Nodes.length:=hf.pn
    omega
   have tl:(JW s.t).length=s.t.Nodes.length:=by unfold JW; rw [List.length_map,DE]
   have hkd:=hf.kinds _ (AN (l:=s.p.Nodes) hi0 hpn)
   have hk1:AB s.p.Nodes l.length<s.t.Nodes.length:=by rw [←tl]; exact hkd.2.1
   have hrow:AB (JW s.t) (AB s.p.Nodes l.length)=J5 s.t (AB s.p.Nodes l.length):=LV (J5 s.t) hkd.1 hk1
   rw [if_neg (by simp; omega)]
   rw [Qu (fun i=>CS s ((BQ i.toNat).flatMap fun k=>if OC (FS s l []) k=true then FY n (FS s (l++[k]) []) else [])) (a:=0) (b:=(s.g.Nodes.length:Int)) (s:=s) (by omega) (M1 hr).symm (fun i i0 i1=>by
    have hg:∀ F,CS s ((BQ (i+1).toNat).flatMap F)=CS (CS s ((BQ i.toNat).flatMap F)) (F i):=by
     intro F
     rw [RH,Kg i0,List.flatMap_append]; simp
    rw [hg]
    generalize (BQ i.toNat).flatMap (fun k=>if OC (FS s l []) k=true then FY n (FS s (l++[k]) []) else [])=L
    have hR:=ST hr L
    rw [if_pos (by rw [zzX]; exact i1)]
    have hty:=hkd.2.2 _ (AN (l:=s.g.Nodes) i0 i1)
    have ht1:AB s.g.Nodes i<s.t.Nodes.length:=by
     have h:=hty.2
     have e:AB (FS s [] []).is (AB s.p.Nodes l.length)=J5 s.t (AB s.p.Nodes l.length):=hrow
     rw [e] at h
     unfold J5 at h
     rwa [List.length_map,DE] at h
    have hbl:G8 (CS s L).t (AB s.g.Nodes i) (AB s.p.Nodes l.length)=some (IW s.t (AB s.g.Nodes i) (AB s.p.Nodes l.length)):=St ht hty.1 ht1 hkd.1
    have g1:AH (CS s L).g.Nodes i=some (AB s.g.Nodes i):=AF i0 i1
    have g2:AH (CS s L).partial_.Nodes (l.length:Int)=some (AB s.partial_.Nodes l.length):=AF hi0 hpp
    have g3:DG (CS s L) l i=some (s.injective&&l.any fun x=>decide (i=x)):=Yo (CS s L) (by omega) i
    have g4:AH (CS s L).p.Nodes (l.length:Int)=some (AB s.p.Nodes l.length):=AF hi0 hpn
    have key:((A3 [] l).bind fun x99=>
      (A3 x99 [i]).bind fun x102=>
      (CO m (CS s L) x102).bind fun x103=>
      some (.next (x103,AI (i+1)):B8 (AO × Int) AO))=some (.next (CS (CS s L) (FY n (FS s (l++[i]) [])),i+1)):=by
     have e2:=TZ n (CS s L) (l++[i]) ht ⟨hf.pn,hf.pe,hf.ends,hf.kinds,hf.small⟩ hR (by show (l++[i]).length+n=s.p.Nodes.length; rw [List.length_append]; simp; omega) m (by omega)
     have e3:FY n (FS (CS s L) (l++[i]) [])=FY n (FS s (l++[i]) []):=T8 n (FS s (l++[i]) []) _
     rw [e3] at e2
     rw [FZ (by unfold BF; omega),bs,BM (by simp; unfold BF; omega),bs,e2,bs,AW (by omega) (by omega)]
    rw [g2,bs,g3,g1,g4,key]
    simp only [bs]
    rw [hbl,AW (n:=i+1) (by omega) (by omega)]
    simp only [bs]
    have hok:OC (FS s l []) i=((decide (AB s.partial_.Nodes l.length<0)||decide (AB s.partial_.Nodes l.length=i))&&AB (AB (JW s.t) (AB s.p.Nodes l.length)) (AB s.g.Nodes i)&&!(s.injective&&l.any fun x=>decide (i=x))):=rfl
    have hB:AB (AB (JW s.t) (AB s.p.Nodes l.length)) (AB s.g.Nodes i)=IW s.t (AB s.g.Nodes i) (AB s.p.Nodes l.length):=by
     rw [hrow]
     exact LV (fun k=>IW s.t k (AB s.p.Nodes l.length)) hty.1 ht1
    have hP:(decide (AB s.partial_.Nodes l.length<0)||decide (AB s.partial_.Nodes l.length=i))=!(decide (0<=AB s.partial_.Nodes l.length)&&!decide (AB s.partial_.Nodes l.length=i)):=by
     rw [Bool.not_and,Bool.not_not]
     congr 1
     rw [←decide_not]
     exact decide_eq_decide.2 (by omega)
    rw [hok,hB,hP]
    generalize FY n (FS s (l++[i]) [])=A
    generalize decide (0<=AB s.partial_.Nodes l.length)=c1
    generalize decide (AB s.partial_.Nodes l.length=i)=c2
    generalize IW s.t (AB s.g.Nodes i) (AB s.p.Nodes l.length)=c3
    generalize (s.injective&&l.any fun x=>decide (i=x))=c6
    cases c1 <;> cases c2 <;> cases c3 <;> cases c6 <;> first | rfl | (simp only [Bool.and_self,Bool.and_true,Bool.true_and,Bool.and_false,Bool.false_and,Bool.not_true,Bool.not_false,Bool.or_true,Bool.or_false,if_true,Bool.false_eq_true,if_false,M1 hR,bs]; try rfl)) (by rw [if_neg (by simp [CS])]),C4,Int.toNat_natCast,FY]
   rfl
end Go.Sf.Sc
namespace Go.Sf.Sc
open Go Go.Sf
def Ku (t:Types) (p g:Graph) (pa:Morphism) (inj:Bool):List Morphism:=(FY p.Nodes.length (FS ⟨t,p,g,pa,inj,5000,[]⟩ [] [])).take 5001
theorem ct {t:Types} {p g:Graph} {pa:Morphism} {inj:Bool} (ht:BV t) (hv:(A7 t).2=0) (hF:LK (FS ⟨t,p,g,pa,inj,5000,[]⟩ [] [])):HD t p g pa inj 5001=some (Ku t p g pa inj):=by
 unfold HD
 rw [bT ht (GF hv) hv,bs]
 have h:=fV (f:=FS ⟨t,p,g,pa,inj,5000,[]⟩ [] []) hF ⟨by show (0:Int)<=5000+1; omega,by show (5000:Int)+1<=10000; omega,by show ((0:Nat):Int)<=5000+1; omega⟩ rfl rfl
 rw [X0 _ _ hF rfl] at h
 have e:AG.mk p g (JW t) pa inj 5001 [] [] []=FS ⟨t,p,g,pa,inj,5000,[]⟩ [] []:=rfl
 rw [e,h]; rfl
theorem mc {t:Types} {p g:Graph} {pa:Morphism} {inj:Bool} (hv:(A7 t).2=0) (hF:LK (FS ⟨t,p,g,pa,inj,5000,[]⟩ [] [])):Mz t p g pa inj 5000=some (Ku t p g pa inj):=by
 unfold Mz
 have h:I0 ⟨t,p,g,pa,inj,5000,[]⟩ []=some (CS ⟨t,p,g,pa,inj,5000,[]⟩ (FY p.Nodes.length (FS ⟨t,p,g,pa,inj,5000,[]⟩ [] []))):=
  FK (p.Nodes.length+1) fun m hm=>TZ p.Nodes.length ⟨t,p,g,pa,inj,5000,[]⟩ [] (GF hv) hF ⟨by show (0:Int)<=5000; omega,by show (5000:Int)<=9999; omega,by show ((0:Nat):Int)<=5000+1; omega⟩ (by show 0+p.Nodes.length=p.Nodes.length; omega) m hm
 rw [h]; rfl
end Go.Sf.Sc
namespace Go.Sf.Sc
open Go Go.Sf
def Sb (n k:Int):Bool:=decide (k < -1)||decide (n<=k)
def OE (l:List Int) (n:Int):Int:=if l.any (Sb n)=true then 6 else 0
theorem Ya (l:List Int) (n:Int):G0 l n=some (OE l n):=by
 unfold G0 OE
 rw [show (fun y0=>LE y0 n)=(fun y0=>some (Sb n y0)) from rfl,UE (p:=Sb n) (fun a _=>rfl),bs]
 cases l.any (Sb n) <;> rfl
end Go.Sf.Sc
namespace Go.Sf.Sc
open Go Go.Sf
theorem Ut (t:Types) (g:Graph):FA t g=some (E5 t g):=by
 unfold FA E5
 rw [show (fun y0=>KA y0 t)=(fun y0=>some (decide ((t.Nodes.length:Int)<=y0))) from rfl,UE (p:=fun n=>decide ((t.Nodes.length:Int)<=n)) (fun a _=>rfl),bs,
  show (fun y0=>KB y0 t)=(fun y0=>some (decide ((t.Edges.length:Int)<=y0.Type'))) from rfl,Vx (p:=fun e=>decide ((t.Edges.length:Int)<=e.Type')) (fun a _=>rfl),bs]
 cases g.Nodes.any fun n=>decide ((t.Nodes.length:Int)<=n) <;> rfl
def GO (t:Types) (p g:Graph):Int:=if (A7 t).2≠0 then (A7 t).2 else if C1 p≠0 then C1 p else if C1 g≠0 then C1 g else if (E5 t p&&E5 t g)=true then 0 else 13
theorem WR {t:Types} (hf:BV t) (p g:Graph):F9 t p g=some (GO t p g):=by
 unfold F9 GO
 rw [Q3 hf,bs]
 refine IN fun _=>?_
 have h0:forR (ρ:=Int) (fun (i0:Int) (_:Unit)=>
   (AH [p,g] i0).bind fun x26=>
   (DY x26).bind fun x29=>
   if (!decide (x29=0))=true then
   some (.ret x29)
   else
   some (.next ())) 0 ([p,g].length:Int) ()=some (if C1 p≠0 then .inr (C1 p) else if C1 g≠0 then .inr (C1 g) else .inl ()):=by
  show forGo _ 2 0 ()=_
  rw [F4,show AH [p,g] 0=some p from rfl,bs,NY,bs]
  by_cases hp:C1 p=0
  ·rw [if_neg (by simp [hp]),if_neg (by simp [hp])]
   show forGo _ 1 (0+1) ()=_
   rw [F4,show AH [p,g] (0+1)=some g from rfl,bs,NY,bs]
   by_cases hg:C1 g=0
   ·rw [if_neg (by simp [hg]),if_neg (by simp [hg])]; rfl
   ·rw [if_pos (by simp [hg]),if_pos hg]
  ·rw [if_pos (by simp [hp]),if_pos hp]
 rw [h0]
 by_cases hp:C1 p=0
 ·by_cases hg:C1 g=0
  ·simp only [hp,hg,ne_eq,not_true_eq_false,if_false,C4]
   rw [Ut,Ut,bs]
   cases E5 t p <;> cases E5 t g <;> rfl
  ·simp only [hp,hg,ne_eq,not_true_eq_false,not_false_eq_true,if_false,if_true,Tg]
 ·simp only [hp,ne_eq,not_false_eq_true,if_true,Tg]
theorem Uz {t:Types} (hf:BV t) (p g:Graph):Jw t p g=some (GO t p g):=by
 unfold Jw GO
 rw [Q6 hf,bs]
 refine IN fun _=>?_
 rw [Na,bs]
 refine IN fun hp=>?_
 rw [Na,bs]
 refine IN fun hg=>?_
 rw [Su (E3 hp),bs,Su (E3 hg)]
 cases E5 t p <;> cases E5 t g <;> rfl
end Go.Sf.Sc
namespace Go.Sf.Sc
open Go Go.Sf
theorem UM {t:Types} {p g:Graph} {pa:Morphism} {inj:Bool} (h:GO t p g=0) (h1:pa.Nodes.length=p.Nodes.length) (h2:pa.Edges.length=p.Edges.length):(A7 t).2=0∧LK (FS ⟨t,p,g,pa,inj,5000,[]⟩ [] []):=by
 unfold GO at h
 by_cases hv:(A7 t).2=0
 ·rw [if_neg (by simp [hv])] at h
  by_cases hp:C1 p=0
  ·rw [if_neg (by simp [hp])] at h
   by_cases hg:C1 g=0
   ·rw [if_neg (by simp [hg])] at h
    by_cases hty:(E5 t p&&E5 t g)=true
    ·rw [zzZ] at hty
     have op:=E3 hp
     have og:=E3 hg
     have tp:=MX op hty.1
     have tg:=MX og hty.2
     have tl:(JW t).length=t.Nodes.length:=by unfold JW; rw [List.length_map,DE]
     refine ⟨hv,h1,h2,fun e he=>?_,fun n hn=>?_,Nat.le_trans op.nodes (by omega),Nat.le_trans op.edges (by omega),Nat.le_trans og.nodes (by omega),Nat.le_trans og.edges (by omega)⟩
     ·have:=op.fit e he
      exact ⟨this.2.1.1,this.2.1.2,this.2.2.1,this.2.2.2⟩
     ·have:=tp.1 n hn
      refine ⟨this.1,by show n<((JW t).length:Int); rw [tl]; exact this.2,fun k hk=>?_⟩
      have hk:=tg.1 k hk
      refine ⟨hk.1,?_⟩
      show k<((AB (JW t) n).length:Int)
      unfold JW
      rw [LV (J5 t) this.1 this.2]
      unfold J5
      rw [List.length_map,DE]; exact hk.2
    ·rw [if_neg hty] at h; cases h
   ·rw [if_pos (by simp [hg])] at h; exact absurd h hg
  ·rw [if_pos (by simp [hp])] at h; exact absurd h hp
 ·rw [if_pos (by simp [hv])] at h; exact absurd h hv
def PY (t:Types) (p g:Graph) (pa:Morphism) (inj:Bool):List Morphism × Int:=
 if GO t p g≠0 then ([],GO t p g) else if ¬ (pa.Nodes.length=p.Nodes.length∧pa.Edges.length=p.Edges.length) then ([],20) else
 if OE pa.Nodes g.Nodes.length≠0 then ([],OE pa.Nodes g.Nodes.length) else if OE pa.Edges g.Edges.length≠0 then ([],OE pa.Edges g.Edges.length) else
 if 5000<(Ku t p g pa inj).length then ([],3) else (Ku t p g pa inj,0)
theorem Zw {t:Types} (hf:BV t) (p g:Graph) (pa:Morphism) (inj:Bool):GI t p g pa inj=some (PY t p g pa inj):=by
 unfold GI PY
 rw [WR hf,bs]
 refine Ng fun h0=>?_
 refine P5 (by simp only [Bool.or_eq_true,Bool.not_eq_true',decide_eq_false_iff_not]; omega) fun h1=>?_
 have h1:=Classical.not_not.1 h1
 rw [Ya,bs]
 refine Ng fun h2=>?_
 rw [Ya,bs]
 refine Ng fun h3=>?_
 obtain ⟨hv,hF⟩:=UM (inj:=inj) h0 h1.1 h1.2
 unfold JV
 rw [ct hf hv hF,bs]
 by_cases h4:5000<(Ku t p g pa inj).length
 ·rw [if_pos (by rw [zzX]; omega),if_pos h4]; rfl
 ·rw [if_neg (by rw [zzX]; omega),if_neg h4]; rfl
end Go.Sf.Sc
