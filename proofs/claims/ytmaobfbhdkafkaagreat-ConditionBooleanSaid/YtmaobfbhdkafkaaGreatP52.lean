/- Plain lemmas: what the functions of the program and of the reference compute. -/
import Derived.Test.YtmaobfbhdkafkaaGreatP28
import Derived.Test.YtmaobfbhdkafkaaGreatP46
import Derived.Test.YtmaobfbhdkafkaaGreatP25
set_option maxRecDepth 100000
namespace Go.Sf.Sc
open Go Go.Sf
inductive CV (t:Types):Pattern->AA->Prop where
 | mk (p:Pattern) (c:AA) (few:c.Kids.length<=40) (rng:1<=c.Kind∧c.Kind<=5) (one:c.Kind=2∨c.Kind=5->c.Kids.length=1) (ins:c.Kind=5->Xr t p c) (kids:∀ k∈c.Kids,CV t (if c.Kind=5 then c.Pattern else p) k):CV t p c
theorem CV.few {t:Types} {p:Pattern} {c:AA} (h:CV t p c):c.Kids.length<=40:=by cases h; assumption
theorem CV.rng {t:Types} {p:Pattern} {c:AA} (h:CV t p c):1<=c.Kind∧c.Kind<=5:=by cases h; assumption
theorem CV.one {t:Types} {p:Pattern} {c:AA} (h:CV t p c):c.Kind=2∨c.Kind=5->c.Kids.length=1:=by cases h; assumption
theorem CV.ins {t:Types} {p:Pattern} {c:AA} (h:CV t p c):c.Kind=5->Xr t p c:=by cases h; assumption
theorem CV.kids {t:Types} {p:Pattern} {c:AA} (h:CV t p c):∀ k∈c.Kids,CV t (if c.Kind=5 then c.Pattern else p) k:=by cases h; assumption
theorem CV.kid {t:Types} {p:Pattern} {c:AA} (h:CV t p c) (h5:¬ c.Kind=5):∀ k∈c.Kids,CV t p k:=fun k hk=>by have:=h.kids k hk; rwa [if_neg h5] at this
theorem CV.kid5 {t:Types} {p:Pattern} {c:AA} (h:CV t p c) (h5:c.Kind=5):∀ k∈c.Kids,CV t c.Pattern k:=fun k hk=>by have:=h.kids k hk; rwa [if_pos h5] at this
theorem QS:∀ l:List AA,l.length<=HN l
 | []=>by simp
 | c::l=>by
  have:=QS l
  have h1:HN (c::l)=cnt c+HN l:=by simp [HN]
  have h2:=Lh c
  simp only [List.length_cons]
  omega
theorem l7 {t:Types} {q:Pattern} {v:Int} (hv:(A7 t).2=0) (h:MQ t q v=0):QI t q:=by
 unfold MQ at h
 split at h
 ·exact XI hv (.inl h)
 ·rename_i h9; exact XI hv (.inr (Classical.not_not.1 h9))
theorem bN {t:Types} (hv:(A7 t).2=0):∀ (N:Nat) (c:AA) (p:Pattern),SizeOf.sizeOf c<=N->cnt c<=40->Km N c=true->GN N t p c=0->CV t p c
 | 0,c,_,h,_,_,_=>by have:=DI c; omega
 | N+1,c,p,h,hc,hw,ho=>by
  have hk0:=Lh c
  have hk1:=QS c.Kids
  rw [Km,zzZ] at hw
  obtain ⟨hw1,hw2⟩:=hw
  have hone:c.Kind=2∨c.Kind=5->c.Kids.length=1:=by
   intro hk
   unfold Pf at hw1
   rcases hk with hk | hk
   ·rw [if_neg (by omega),if_pos hk,zzZ,zzX] at hw1; exact hw1.1
   ·rw [if_neg (by omega),if_neg (by omega),if_neg (by omega),if_pos hk,zzX] at hw1; exact hw1
  have hrng:1<=c.Kind∧c.Kind<=5:=by
   unfold Pf at hw1
   split at hw1
   ·omega
   split at hw1
   ·omega
   split at hw1
   ·omega
   split at hw1
   ·omega
   ·cases hw1
  have hkid:∀ q,(fst (fun i=>nz (GN N t q (AB c.Kids i))) 0 c.Kids.length).getD 0=0->∀ k∈c.Kids,CV t q k:=by
   intro q hq k hk
   have h1:=R5 hq
   have h2:=RQ hk
   have h3:=D3 hk
   rw [List.all_eq_true] at hw2
   obtain ⟨i,i0,i1,e⟩:=EP hk
   have h4:=h1 i i0 i1
   rw [e] at h4
   exact bN hv N k q (by omega) (by omega) (hw2 k hk) h4
  rw [GN] at ho
  by_cases h5:c.Kind=5
  ·rw [if_pos h5] at ho
   split at ho
   ·cases ho
   rename_i h6
   split at ho
   ·rename_i h7; exact absurd ho h7
   rename_i h7
   split at ho
   ·rename_i h8; exact absurd ho h8
   rename_i h8
   split at ho
   ·cases ho
   rename_i h9
   refine CV.mk p c (by omega) hrng hone (fun _=>⟨l7 hv (Classical.not_not.1 h7),by omega,bR (Classical.not_not.1 h8),by simpa using h9⟩) ?_
   rw [if_pos h5]
   exact hkid _ ho
  ·rw [if_neg h5] at ho
   refine CV.mk p c (by omega) hrng hone (fun e=>absurd e h5) ?_
   rw [if_neg h5]
   exact hkid _ ho
section
variable {α σ ρ:Type}
theorem P8 [Inhabited α] {l:List α} {f:Int->σ->Option (B8 σ ρ)} (step:α->σ->B8 σ ρ) (I:Int->σ->Prop) (h:∀ (i:Int) s,0<=i->i<l.length->I i s->f i s=some (step (AB l i) s)∧∀ s',step (AB l i) s=.next s'->I (i+1) s') :
  ∀ (n:Nat) (a:Int) (s:σ),0<=a->a+n=l.length->I a s->forGo f n a s=some (HC step (l.drop a.toNat) s)
 | 0,a,s,h0,h1,_=>by
  rw [List.drop_eq_nil_of_le (by omega)]; rfl
 | n+1,a,s,h0,h1,hs=>by
  obtain ⟨h2,h3⟩:=h a s h0 (by omega) hs
  have hd:l.drop a.toNat=AB l a::l.drop (a+1).toNat:=by
   rw [show (a+1).toNat=a.toNat+1 by omega,List.drop_eq_getElem_cons (by omega)]
   congr 1
   unfold AB
   rw [List.getD_eq_getElem?_getD,List.getElem?_eq_getElem (by omega)]; rfl
  rw [F4,h2,hd,HC]
  cases hc:step (AB l a) s with
  | next s'=>
   simp only
   exact P8 step I h n (a+1) s' (by omega) (by omega) (h3 s' hc)
  | brk s'=>rfl
  | ret r=>rfl
theorem Wy [Inhabited α] {l:List α} {f:Int->σ->Option (B8 σ ρ)} (step:α->σ->B8 σ ρ) (I:Int->σ->Prop) {s:σ} (hs:I 0 s) (h:∀ (i:Int) s,0<=i->i<l.length->I i s->f i s=some (step (AB l i) s)∧∀ s',step (AB l i) s=.next s'->I (i+1) s') :
  forR f 0 l.length s=some (HC step l s):=by
 have:=P8 step I h l.length 0 s (by omega) (by omega) hs
 unfold forR
 rw [show ((l.length:Int) - 0).toNat=l.length by omega]
 exact this
end
abbrev zM:AL:=⟨⟨[],[]⟩,[]⟩
abbrev zP:A4:=⟨0,zM,[]⟩
def RL (w:AA->A4 × Int) (k:AA) (s:A4 × A4):B8 (A4 × A4) (A4 × Int):=
 if (w k).2≠0 then .ret (zP,(w k).2) else .next (s.1,⟨s.2.Choice,s.2.Match,s.2.Kids++[(w k).1]⟩)
def eZ (w:AA->A4 × Int) (l:List AA):A4 × Int:=
 match HC (RL w) l (zP,zP) with
 | .inl s=>(s.2,0)
 | .inr r=>r
def DL (t:Types) (h:AY) (inj:Bool):Nat->AA->AL->A4 × Int
 | 0,_,_=>(zP,0)
 | N+1,c,m=>
  if c.Kind=2 then (if (DL t h inj N (AB c.Kids 0) m).2=0 then (zP,10) else if (DL t h inj N (AB c.Kids 0) m).2=10 then (zP,0) else (zP,(DL t h inj N (AB c.Kids 0) m).2)) else
  if c.Kind=3 then eZ (fun k=>DL t h inj N k m) c.Kids else
  if c.Kind=4 then (fst (fun i=>if (DL t h inj N (AB c.Kids i) m).2=0 then some (⟨i,zM,[(DL t h inj N (AB c.Kids i) m).1]⟩,0) else if (DL t h inj N (AB c.Kids i) m).2≠10 then some (zP,(DL t h inj N (AB c.Kids i) m).2) else none) 0 c.Kids.length).getD (zP,10) else
  if c.Kind=5 then
   (if (GW t c h m inj).2≠0 then (zP,(GW t c h m inj).2) else
   (fst (fun i=>if (DL t h inj N (AB c.Kids 0) (AB (GW t c h m inj).1 i)).2=0 then some (⟨0,AB (GW t c h m inj).1 i,[(DL t h inj N (AB c.Kids 0) (AB (GW t c h m inj).1 i)).1]⟩,0) else
    if (DL t h inj N (AB c.Kids 0) (AB (GW t c h m inj).1 i)).2≠10 then some (zP,(DL t h inj N (AB c.Kids 0) (AB (GW t c h m inj).1 i)).2) else none) 0 (GW t c h m inj).1.length).getD (zP,10)) else
  (zP,0)
end Go.Sf.Sc
namespace Go.Sf.Sc
open Go Go.Sf
def Tr (i:Int) (s:A4 × A4):Prop:=(s.2.Kids.length:Int)=i
theorem SK {s:AR} (hf:BV s.t) (hv:(A7 s.t).2=0) (hh:LX s.t s.h):∀ (N:Nat) (c:AA) (p:Pattern) (m:AL),SizeOf.sizeOf c<=N->CV s.t p c->T2 s.t p s.h m->∀ n,2*N<=n->AX n s c m=some (DL s.t s.h s.injective N c m)
 | 0,c,_,_,h,_,_,_,_=>by have:=DI c; omega
 | N+1,c,p,m,h,hc,ha,n,hn=>by
  obtain ⟨n,rfl⟩:∃ k,n=k+2:=⟨n - 2,by omega⟩
  have kid:∀ (i:Int),0<=i->i<c.Kids.length->SizeOf.sizeOf (AB c.Kids i)<=N:=fun i i0 i1=>by
   have:=D3 (AN (l:=c.Kids) i0 i1); omega
  rw [AX,DL]
  by_cases h2:c.Kind=2
  ·have h1:=hc.one (.inl h2)
   rw [if_pos (by simpa using h2),if_pos h2,AF (by omega) (by omega),bs,SK hf hv hh N _ p m (kid 0 (by omega) (by omega)) (hc.kid (by omega) _ (AN (by omega) (by omega))) ha (n+1) (by omega),bs]
   generalize DL s.t s.h s.injective N (AB c.Kids 0) m=x
   by_cases e0:x.2=0
   ·rw [if_pos (by simpa using e0),if_pos e0]; try rfl
   ·rw [if_neg (by simpa using e0),if_neg e0]
    by_cases e1:x.2=10
    ·rw [if_pos (by simpa using e1),if_pos e1]; try rfl
    ·rw [if_neg (by simpa using e1),if_neg e1]; try rfl
  rw [if_neg (by simpa using h2),if_neg h2]
  by_cases h3:c.Kind=3
  ·rw [if_pos (by simpa using h3),if_pos h3]
   have hfew:=hc.few
   rw [Wy (RL fun k=>DL s.t s.h s.injective N k m) Tr (show Tr 0 (zP,zP) from rfl)]
   ·unfold eZ
    show thenR (some (HC (RL fun k=>DL s.t s.h s.injective N k m) c.Kids (zP,zP))) _ _=_
    cases HC (RL fun k=>DL s.t s.h s.injective N k m) c.Kids (zP,zP) <;> rfl
   ·intro i st i0 i1 hi
    unfold Tr at hi
    rw [AF i0 i1,bs,SK hf hv hh N _ p m (kid i i0 i1) (hc.kid (by omega) _ (AN i0 i1)) ha (n+1) (by omega),bs]
    dsimp only [RL]
    by_cases e0:(DL s.t s.h s.injective N (AB c.Kids i) m).2=0
    ·rw [if_neg (by simp [e0]),if_neg (by simp [e0]),BM (by simp; unfold BF; omega),bs]
     refine ⟨rfl,fun s' e=>?_⟩
     cases e
     unfold Tr
     simp; omega
    ·rw [if_pos (by simp [e0]),if_pos e0]
     exact ⟨rfl,fun s' e=>by cases e⟩
  rw [if_neg (by simpa using h3),if_neg h3]
  by_cases h4:c.Kind=4
  ·rw [if_pos (by simpa using h4),if_pos h4]
   rw [Sj (fun _=>zP) (fun i=>if (DL s.t s.h s.injective N (AB c.Kids i) m).2=0 then some (⟨i,zM,[(DL s.t s.h s.injective N (AB c.Kids i) m).1]⟩,0) else if (DL s.t s.h s.injective N (AB c.Kids i) m).2≠10 then some (zP,(DL s.t s.h s.injective N (AB c.Kids i) m).2) else none) (by omega) rfl]
   ·cases fst (fun i=>if (DL s.t s.h s.injective N (AB c.Kids i) m).2=0 then some ((⟨i,zM,[(DL s.t s.h s.injective N (AB c.Kids i) m).1]⟩:A4),(0:Int)) else if (DL s.t s.h s.injective N (AB c.Kids i) m).2≠10 then some (zP,(DL s.t s.h s.injective N (AB c.Kids i) m).2) else none) 0 c.Kids.length <;> rfl
   ·intro i i0 i1 _
    rw [AF i0 i1,bs,SK hf hv hh N _ p m (kid i i0 i1) (hc.kid (by omega) _ (AN i0 i1)) ha (n+1) (by omega),bs]
    generalize DL s.t s.h s.injective N (AB c.Kids i) m=x
    by_cases e0:x.2=0
    ·rw [if_pos (by simpa using e0),if_pos e0]; try rfl
    ·rw [if_neg (by simpa using e0),if_neg e0]
     by_cases e1:x.2=10
     ·rw [if_neg (by simp [e1]),if_neg (by simp [e1])]; try rfl
     ·rw [if_pos (by simp [e1]),if_pos e1]; try rfl
  rw [if_neg (by simpa using h4),if_neg h4]
  by_cases h5:c.Kind=5
  ·rw [if_pos (by simpa using h5),if_pos h5]
   have hi:=hc.ins h5
   have h1:=hc.one (.inr h5)
   rw [BH,fU hf hv hh ha hi,bs]
   by_cases h6:(GW s.t c s.h m s.injective).2=0
   ·obtain ⟨e1,e2⟩:=V2 hv hh ha hi h6
    rw [if_neg (by simp [h6]),if_neg (by simp [h6])]
    generalize (GW s.t c s.h m s.injective).1=l at e1 e2
    rw [Sj (fun _=>zP) (fun i=>if (DL s.t s.h s.injective N (AB c.Kids 0) (AB l i)).2=0 then some (⟨0,AB l i,[(DL s.t s.h s.injective N (AB c.Kids 0) (AB l i)).1]⟩,0) else if (DL s.t s.h s.injective N (AB c.Kids 0) (AB l i)).2≠10 then some (zP,(DL s.t s.h s.injective N (AB c.Kids 0) (AB l i)).2) else none) (by omega) rfl]
    ·cases fst (fun i=>if (DL s.t s.h s.injective N (AB c.Kids 0) (AB l i)).2=0 then some ((⟨0,AB l i,[(DL s.t s.h s.injective N (AB c.Kids 0) (AB l i)).1]⟩:A4),(0:Int)) else if (DL s.t s.h s.injective N (AB c.Kids 0) (AB l i)).2≠10 then some (zP,(DL s.t s.h s.injective N (AB c.Kids 0) (AB l i)).2) else none) 0 l.length <;> rfl
    ·intro i i0 i1 _
     rw [AF i0 i1,bs,AF (by omega) (by omega),bs,SK hf hv hh N _ c.Pattern _ (kid 0 (by omega) (by omega)) (hc.kid5 h5 _ (AN (by omega) (by omega))) (e2 _ (AN i0 i1)) n (by omega),bs]
     generalize DL s.t s.h s.injective N (AB c.Kids 0) (AB l i)=x
     by_cases e0:x.2=0
     ·rw [if_pos (by simpa using e0),if_pos e0]; try rfl
     ·rw [if_neg (by simpa using e0),if_neg e0]
      by_cases e1:x.2=10
      ·rw [if_neg (by simp [e1]),if_neg (by simp [e1])]; try rfl
      ·rw [if_pos (by simp [e1]),if_pos e1]; try rfl
   ·rw [if_pos (by simp [h6]),if_pos h6]; try rfl
  rw [if_neg (by simpa using h5),if_neg h5]; try rfl
end Go.Sf.Sc
namespace Go.Sf.Sc
open Go Go.Sf
noncomputable def S3 (t:Types) (p:Pattern) (c:AA) (h:AY) (m:AL) (inj:Bool):Int:=
 if E8 t p c≠0 then E8 t p c else if (Mc t h).2≠0 then (Mc t h).2 else if Kn t p.Graph h.Graph m.Morphism inj≠0 then Kn t p.Graph h.Graph m.Morphism inj else
 if (NS t p h m.Morphism).2≠0 then (NS t p h m.Morphism).2 else if (NS t p h m.Morphism).1=m.Vars then 0 else 11
theorem Zv {t:Types} (hf:BV t) (p:Pattern) {c:AA} (hc:C5 c) (h:AY) (m:AL) (inj:Bool):D4 t p c h m inj=some (S3 t p c h m inj):=by
 unfold D4 S3
 rw [cr hf p hc,bs]
 refine IN fun _=>?_
 rw [YY hf,bs]
 refine IN fun _=>?_
 rw [WN hf,bs]
 refine IN fun _=>?_
 rw [cp hf,bs]
 refine IN fun _=>?_
 rw [mY,bs]
 by_cases e:(NS t p h m.Morphism).1=m.Vars
 ·rw [if_neg (by simp [e]),if_pos e]
 ·rw [if_pos (by simp [e]),if_neg e]
theorem bL {t:Types} (hf:BV t) {p:Pattern} {c:AA} (hc:cnt c<=40) {h:AY} {m:AL} {inj:Bool} (e:S3 t p c h m inj=0):(A7 t).2=0∧LX t h∧CV t p c∧T2 t p h m:=by
 unfold S3 at e
 split at e
 ·rename_i h1; exact absurd e h1
 rename_i h1
 split at e
 ·rename_i h2; exact absurd e h2
 rename_i h2
 split at e
 ·rename_i h3; exact absurd e h3
 rename_i h3
 split at e
 ·rename_i h4; exact absurd e h4
 rename_i h4
 split at e
 case isFalse=>cases e
 rename_i h5
 have h1:=Classical.not_not.1 h1
 have h2:=Classical.not_not.1 h2
 have h3:=Classical.not_not.1 h3
 have h4:=Classical.not_not.1 h4
 obtain ⟨hv,hh⟩:=WA hf h2
 have hm:=(X8 h3).2
 unfold E8 at h1
 split at h1
 ·rename_i h6; exact absurd h1 h6
 rename_i h6
 split at h1
 ·rename_i h7; exact absurd h1 h7
 rename_i h7
 have hq:=XI hv (.inl (Classical.not_not.1 h6))
 have h7:=Classical.not_not.1 h7
 have hw:VQ c=true:=by
  unfold Ie at h7
  split at h7
  ·cases h7
  ·rename_i h8; simpa using h8
 suffices hs:(m.Vars.length:Int)=p.Vars∧Nd m.Vars from ⟨hv,hh,bN hv _ c p (Nat.le_refl _) hc hw h1,hq,hm,hs.1,hs.2⟩
 have hs:∀ s∈p.Slots,Jc p.Vars h m.Morphism s:=fun s hs=>Oo (GF hv) hq hh hm hs
 unfold NS at h4 h5
 split at h4
 ·rename_i h8; exact absurd h4 h8
 rename_i h8
 rw [if_neg h8] at h5
 split at h4
 ·rename_i h9; exact absurd h4 h9
 rename_i h9
 rw [if_neg h9] at h5
 have:=Y0 hq hs h4
 rw [h5] at this
 exact this
end Go.Sf.Sc
namespace Go.Sf.Sc
open Go Go.Sf
def KZ:Nat->AA->Bool
 | 0,_=>true
 | N+1,c=>if anyR (fun i=>!KZ N (AB c.Kids i)) 0 c.Kids.length=true then false else decide (AI ((c.Pattern.Graph.Nodes.length:Int)+c.Pattern.Graph.Edges.length)<=6)
theorem TU:∀ (N:Nat) (c:AA),SizeOf.sizeOf c<=N->∀ n,N<=n->GH n c=some (KZ N c)
 | 0,c,h,_,_=>by have:=DI c; omega
 | N+1,c,h,n,hn=>by
  obtain ⟨n,rfl⟩:∃ k,n=k+1:=⟨n - 1,by omega⟩
  rw [GH,KZ,CE (fun i=>!KZ N (AB c.Kids i)) false]
  ·cases anyR (fun i=>!KZ N (AB c.Kids i)) 0 c.Kids.length <;> rfl
  ·intro i i0 i1 _
   have:=D3 (AN (l:=c.Kids) i0 i1)
   rw [AF i0 i1,bs,TU N _ (by omega) n (by omega),bs,KI]
theorem Z4 (c:AA):Np c=some (KZ (SizeOf.sizeOf c) c):=FK (SizeOf.sizeOf c) fun n hn=>TU _ c (Nat.le_refl _) n hn
def LH (a:Int):Nat->Int->Int
 | 0,s=>s
 | k+1,s=>AI (LH a k s*a)
theorem bX {a b k s:Int} (hk:0<=k) (hk2:k<=1000) (hb:b<=1000):FB (ρ:=Bool) (fun (s0:Int × Int)=>
  if (decide (s0.2<b))=true then
  some (.next (AI (s0.1*a),AI (s0.2+1)))
  else
  some (.brk (s0.1,s0.2))) (s,k)=some (.inl (LH a (max k b - k).toNat s,max k b)):=by
 refine Qu (fun i=>LH a (i - k).toNat s) (by omega) (by rw [show (k - k).toNat=0 by omega]; rfl) (fun i i0 i1=>?_) ?_
 ·rw [if_pos (by simp; omega),show (i+1 - k).toNat=(i - k).toNat+1 by omega,LH]
  dsimp only
  rw [AW (n:=i+1) (by omega) (by omega)]
 ·rw [if_neg (by simp; omega)]
def Kt (a b:Int):Nat->Pattern->AA->Bool
 | 0,_,_=>true
 | N+1,p,c=>
  let q:=if c.Kind=5 then c.Pattern else p
  if anyR (fun i=>!Kt a b N q (AB c.Kids i)) 0 c.Kids.length=true then false else
  decide (LH b (max (p.Graph.Edges.length:Int) q.Graph.Edges.length - p.Graph.Edges.length).toNat (LH a (max (p.Graph.Nodes.length:Int) q.Graph.Nodes.length - p.Graph.Nodes.length).toNat 1)<=5000)
theorem Uw (a b:Int):∀ (N:Nat) (c:AA) (p:Pattern),SizeOf.sizeOf c<=N->C5 c->QG p->∀ n,N<=n->EK n p c a b=some (Kt a b N p c)
 | 0,c,_,h,_,_,_,_=>by have:=DI c; omega
 | N+1,c,p,h,hc,hp,n,hn=>by
  obtain ⟨n,rfl⟩:∃ k,n=k+1:=⟨n - 1,by omega⟩
  have q1:=hc.q.nodes
  have q2:=hc.q.edges
  have p1:=hp.nodes
  have p2:=hp.edges
  have main:∀ q:Pattern,QG q->(thenR (FB (ρ:=Bool) (fun (s0:Int × Int)=>
    if (decide (s0.2<(q.Graph.Nodes.length:Int)))=true then
    some (.next (AI (s0.1*a),AI (s0.2+1)))
    else
    some (.brk (s0.1,s0.2))) (1,(p.Graph.Nodes.length:Int))) (fun s0=>
    thenR (FB (ρ:=Bool) (fun (s2:Int × Int)=>
    if (decide (s2.2<(q.Graph.Edges.length:Int)))=true then
    some (.next (AI (s2.1*b),AI (s2.2+1)))
    else
    some (.brk (s2.1,s2.2))) (s0.1,(p.Graph.Edges.length:Int))) (fun s2=>
    thenR (forR (ρ:=Bool) (fun (i4:Int) (_:Unit)=>
    (AH c.Kids i4).bind fun x61=>
    (EK n q x61 a b).bind fun x65=>
    if (!x65)=true then
    some (.ret false)
    else
    some (.next ())) 0 (c.Kids.length:Int) ()) (fun _=>
    some (decide (s2.1<=5000))) (fun v4=>some v4)) (fun v2=>some v2)) (fun v0=>some v0)) =
    some (if anyR (fun i=>!Kt a b N q (AB c.Kids i)) 0 c.Kids.length=true then false else
     decide (LH b (max (p.Graph.Edges.length:Int) q.Graph.Edges.length - p.Graph.Edges.length).toNat (LH a (max (p.Graph.Nodes.length:Int) q.Graph.Nodes.length - p.Graph.Nodes.length).toNat 1)<=5000)):=by
   intro q hq
   have k1:=hq.nodes
   have k2:=hq.edges
   rw [bX (by omega) (by omega) (by omega),C4]
   dsimp only
   rw [bX (by omega) (by omega) (by omega),C4,CE (fun i=>!Kt a b N q (AB c.Kids i)) false]
   ·cases anyR (fun i=>!Kt a b N q (AB c.Kids i)) 0 c.Kids.length <;> rfl
   ·intro i i0 i1 _
    have:=D3 (AN (l:=c.Kids) i0 i1)
    rw [AF i0 i1,bs,Uw a b N _ q (by omega) (hc.k _ (AN i0 i1)) hq n (by omega),bs,KI]
  rw [EK,Kt]
  by_cases h5:c.Kind=5
  ·rw [if_pos (by simpa using h5),if_pos h5,bs,main _ hc.q]
  ·rw [if_neg (by simpa using h5),if_neg h5,bs,main _ hp]
theorem Yj (a b:Int) {c:AA} {p:Pattern} (hc:C5 c) (hp:QG p):NC p c a b=some (Kt a b (SizeOf.sizeOf c) p c):=FK (SizeOf.sizeOf c) fun n hn=>Uw a b _ c p (Nat.le_refl _) hc hp n hn
theorem Zb (h:AY):∃ b,LT h=some b:=by
 unfold LT JI
 rw [bs]
 split
 ·exact ⟨_,rfl⟩
 ·rw [CE (fun i=>decide (12<((AB h.Values i).length:Int))) false]
  ·cases anyR (fun i=>decide (12<((AB h.Values i).length:Int))) 0 h.Values.length
   ·exact ⟨true,rfl⟩
   ·exact ⟨false,rfl⟩
  ·intro i i0 i1 _
   rw [AF i0 i1,bs,KI]
theorem Yl {t:Types} (hf:BV t) (st:(AU t).Sm) (p g:Graph):∃ b,K5 t p g=some b:=by
 obtain ⟨b,e,_⟩:=YG st
 unfold K5 JI
 rw [e,bs,Uz hf]
 simp only [bs]
 cases b <;> simp only [Bool.false_eq_true,if_false,if_true,bs]
 ·exact ⟨_,rfl⟩
 ·split <;> (rw [bs]; split <;> exact ⟨_,rfl⟩)
noncomputable def wS (t:Types) (p:Pattern) (c:AA) (h:AY) (m:AL) (inj:Bool):A4 × Int:=
 if S3 t p c h m inj≠0 then (zP,S3 t p c h m inj) else DL t h inj (SizeOf.sizeOf c) c m
theorem Ye {t:Types} (hf:BV t) (p:Pattern) {c:AA} (hc:C5 c) (hk:cnt c<=40) (h:AY) (m:AL) (inj:Bool):DQ t p c h m inj=some (wS t p c h m inj):=by
 unfold DQ wS
 rw [Zv hf p hc,bs]
 refine Ng fun h0=>?_
 obtain ⟨hv,hh,hcv,ha⟩:=bL hf hk h0
 rw [show DM (AR.mk t h inj) c m=some (DL t h inj (SizeOf.sizeOf c) c m) from FK (2*SizeOf.sizeOf c) fun n hn=>SK (s:=⟨t,h,inj⟩) hf hv hh _ c p m (Nat.le_refl _) hcv ha n hn]
 rfl
noncomputable def aJ (t:Types) (p:Pattern) (c:AA) (h:AY) (m:AL) (inj:Bool):Bool × Int:=
 if (wS t p c h m inj).2=10 then (false,0) else (decide ((wS t p c h m inj).2=0),(wS t p c h m inj).2)
theorem Vk {t:Types} (hf:BV t) (p:Pattern) {c:AA} (hc:C5 c) (hk:cnt c<=40) (h:AY) (m:AL) (inj:Bool):BU t p c h m inj=some (aJ t p c h m inj):=by
 unfold BU aJ
 rw [Ye hf p hc hk,bs]
 by_cases e:(wS t p c h m inj).2=10
 ·rw [if_pos (by simpa using e),if_pos e]
 ·rw [if_neg (by simpa using e),if_neg e]
end Go.Sf.Sc
namespace Go.Sf.Sc
open Go Go.Sf
def ER:List Int->Nat
 | []=>0
 | x::l=>(if x<0 then 1 else 0)+ER l
theorem RW {α β:Type} {F:α->List β} {B:Nat}:∀ {l:List α},(∀ k∈l,(F k).length<=B)->(l.flatMap F).length<=l.length*B
 | [],_=>by simp
 | a::l,h=>by
  have:=RW (F:=F) (l:=l) fun k hk=>h k (by simp [hk])
  have:=h a (by simp)
  rw [List.flatMap_cons,List.length_append,List.length_cons,Nat.succ_mul]
  omega
theorem R1 {α β:Type} {F:α->List β}:∀ {l:List α},(∀ k∈l,F k=[])->l.flatMap F=[]
 | [],_=>rfl
 | a::l,h=>by rw [List.flatMap_cons,h a (by simp),R1 fun k hk=>h k (by simp [hk])]; rfl
theorem QZ {α β:Type} {F:α->List β} {B:Nat} {a:α}:∀ {l:List α},l.Nodup->(∀ k∈l,k≠a->F k=[])->(F a).length<=B->(l.flatMap F).length<=B
 | [],_,_,_=>by simp
 | b::l,hn,h,hB=>by
  rw [List.nodup_cons] at hn
  rw [List.flatMap_cons,List.length_append]
  by_cases e:b=a
  ·subst e
   rw [R1 fun k hk=>h k (by simp [hk]) fun e=>hn.1 (e ▸ hk)]
   simpa using hB
  ·rw [h b (by simp) e]
   have:=QZ hn.2 (fun k hk=>h k (by simp [hk])) hB
   simpa using this
theorem SW (n:Nat):(BQ n).Nodup:=by
 induction n with
 | zero=>simp [BQ]
 | succ n ih=>
  rw [OM,List.nodup_append]
  refine ⟨ih,by simp,fun a ha b hb e=>?_⟩
  rw [List.mem_singleton] at hb
  have:=HP.1 ha
  omega
theorem UK {l:List Int} {k:Nat} (h:k<l.length):l.drop k=AB l k::l.drop (k+1):=by
 rw [List.drop_eq_getElem_cons h]
 congr 1
 unfold AB
 rw [List.getD_eq_getElem?_getD,List.getElem?_eq_getElem (by omega)]; rfl
theorem eu:∀ (n:Nat) (f:AG),f.edges.length+n=f.partial_.Edges.length->(D6 n f).length<=f.g.Edges.length ^ ER (f.partial_.Edges.drop f.edges.length)
 | 0,f,h=>by
  rw [List.drop_of_length_le (by omega)]
  simp [D6,ER]
 | n+1,f,h=>by
  have hd:=UK (l:=f.partial_.Edges) (k:=f.edges.length) (by omega)
  have ih:∀ k,(if OB f k=true then D6 n { f with edges:=f.edges++[k] } else []).length<=f.g.Edges.length ^ ER (f.partial_.Edges.drop (f.edges.length+1)):=by
   intro k
   split
   ·have:=eu n { f with edges:=f.edges++[k] } (by show (f.edges++[k]).length+n=f.partial_.Edges.length; rw [List.length_append,List.length_singleton]; omega)
    have e:(f.edges++[k]).length=f.edges.length+1:=by rw [List.length_append,List.length_singleton]
    dsimp only at this
    rwa [e] at this
   ·simp
  rw [D6,hd,ER]
  by_cases h0:AB f.partial_.Edges (f.edges.length:Int)<0
  ·rw [if_pos h0,Nat.pow_add,Nat.pow_one]
   have:=RW (l:=BQ f.g.Edges.length) (B:=f.g.Edges.length ^ ER (f.partial_.Edges.drop (f.edges.length+1))) (fun k _=>ih k)
   rwa [DE] at this
  ·rw [if_neg h0,Nat.zero_add]
   refine QZ (a:=AB f.partial_.Edges (f.edges.length:Int)) (SW _) (fun k _ hk=>?_) (ih _)
   rw [if_neg]
   intro hok
   unfold OB at hok
   rw [zzZ,Pz,zzZ,Bool.or_eq_true,zzX,zzX] at hok
   rcases hok.1.1 with h | h
   ·exact h0 h
   ·exact hk h.symm
theorem ew:∀ (n:Nat) (f:AG),f.edges=[]->f.p.Edges.length=f.partial_.Edges.length->f.nodes.length+n=f.partial_.Nodes.length->(FY n f).length<=f.g.Nodes.length ^ ER (f.partial_.Nodes.drop f.nodes.length)*f.g.Edges.length ^ ER f.partial_.Edges
 | 0,f,he,hp,h=>by
  rw [List.drop_of_length_le (by omega)]
  have:=eu f.p.Edges.length f (by rw [he,hp]; simp)
  rw [he] at this
  simpa [FY,ER] using this
 | n+1,f,he,hp,h=>by
  have hd:=UK (l:=f.partial_.Nodes) (k:=f.nodes.length) (by omega)
  have ih:∀ k,(if OC f k=true then FY n { f with nodes:=f.nodes++[k] } else []).length<=f.g.Nodes.length ^ ER (f.partial_.Nodes.drop (f.nodes.length+1))*f.g.Edges.length ^ ER f.partial_.Edges:=by
   intro k
   split
   ·have:=ew n { f with nodes:=f.nodes++[k] } he hp (by show (f.nodes++[k]).length+n=f.partial_.Nodes.length; rw [List.length_append,List.length_singleton]; omega)
    have e:(f.nodes++[k]).length=f.nodes.length+1:=by rw [List.length_append,List.length_singleton]
    dsimp only at this
    rwa [e] at this
   ·simp
  rw [FY,hd,ER]
  by_cases h0:AB f.partial_.Nodes (f.nodes.length:Int)<0
  ·rw [if_pos h0,Nat.pow_add,Nat.pow_one,Nat.mul_assoc]
   have:=RW (l:=BQ f.g.Nodes.length) (B:=f.g.Nodes.length ^ ER (f.partial_.Nodes.drop (f.nodes.length+1))*f.g.Edges.length ^ ER f.partial_.Edges) (fun k _=>ih k)
   rwa [DE] at this
  ·rw [if_neg h0,Nat.zero_add]
   refine QZ (a:=AB f.partial_.Nodes (f.nodes.length:Int)) (SW _) (fun k _ hk=>?_) (ih _)
   rw [if_neg]
   intro hok
   unfold OC at hok
   rw [zzZ,zzZ,Bool.or_eq_true,zzX,zzX] at hok
   rcases hok.1.1 with h | h
   ·exact h0 h
   ·exact hk h.symm
theorem Vf {t:Types} {p g:Graph} {pa:Morphism} {inj:Bool} (h1:pa.Nodes.length=p.Nodes.length) (h2:pa.Edges.length=p.Edges.length):(Ku t p g pa inj).length<=g.Nodes.length ^ ER pa.Nodes*g.Edges.length ^ ER pa.Edges:=by
 have:=ew p.Nodes.length (FS ⟨t,p,g,pa,inj,5000,[]⟩ [] []) rfl h2.symm (by show 0+p.Nodes.length=pa.Nodes.length; omega)
 unfold Ku
 rw [List.length_take]
 exact Nat.le_trans (Nat.min_le_right _ _) this
theorem Ug:∀ (l:List Int) (k:Nat) (v:Int),k<l.length->l.getD k default<0->0<=v->ER (l.set k v)+1=ER l
 | [],k,v,h,_,_=>by simp at h
 | x::l,0,v,_,h1,h2=>by
  simp at h1
  rw [List.set_cons_zero,ER,ER,if_neg (by omega),if_pos h1]; omega
 | x::l,k+1,v,h0,h1,h2=>by
  have:=Ug l k v (by simpa using h0) (by simpa using h1) h2
  rw [List.set_cons_succ,ER,ER]
  omega
theorem Zq (n:Nat):ER (List.replicate n (-1))=n:=by
 induction n with
 | zero=>rfl
 | succ n ih=>rw [List.replicate_succ,ER,ih]; simp; omega
theorem cF {α:Type} [Inhabited α] {l:List α} {i j:Int} (v:α) (h0:0<=i) (h1:0<=j) (h:j≠i):AB (CP l i v) j=AB l j:=by
 unfold AB CP
 rw [List.getD_eq_getElem?_getD,List.getD_eq_getElem?_getD,List.getElem?_set]
 rw [if_neg (by omega)]
theorem TQ {by' images:List Int}:∀ (ks l:List Int),(ks.map (AB by')).Nodup->(∀ k∈ks,(0<=AB by' k∧AB by' k<l.length)∧AB l (AB by' k)<0∧0<=AB images k)->ER (ks.foldl (fun l i=>CP l (AB by' i) (AB images i)) l)+ks.length=ER l
 | [],l,_,_=>by simp
 | k::ks,l,hn,h=>by
  obtain ⟨h1,h2,h3⟩:=h k (by simp)
  rw [List.map_cons,List.nodup_cons] at hn
  have e:=Ug l (AB by' k).toNat (AB images k) (by omega) h2 h3
  have ih:=TQ (by':=by') (images:=images) ks (CP l (AB by' k) (AB images k)) hn.2 (fun j hj=>by
   obtain ⟨j1,j2,j3⟩:=h j (by simp [hj])
   refine ⟨by rw [Nr]; exact j1,?_,j3⟩
   rw [cF _ h1.1 j1.1]
   ·exact j2
   ·intro e
    exact hn.1 (List.mem_map.2 ⟨j,hj,e⟩))
  rw [List.foldl_cons,List.length_cons]
  have e2:ER (CP l (AB by' k) (AB images k))+1=ER l:=e
  omega
theorem VO (l:List Int):(BQ l.length).map (AB l)=l:=by
 refine X2 (by rw [List.length_map,DE]) (fun i i0 i1=>?_)
 rw [List.length_map,DE] at i1
 exact LV _ i0 i1
theorem SD {n:Nat} {by' images:List Int} (hn:by'.Nodup) (hb:∀ x∈by',0<=x∧x<n) (hi:∀ k:Int,0<=k->k<by'.length->0<=AB images k):ER (Jj n by' images)+by'.length=n:=by
 have:=TQ (by':=by') (images:=images) (BQ by'.length) (List.replicate n (-1)) (by rw [VO]; exact hn) (fun k hk=>by
  have hk:=HP.1 hk
  have hx:=hb _ (AN hk.1 hk.2)
  refine ⟨by simpa using hx,?_,hi k hk.1 hk.2⟩
  have:AB (List.replicate n (-1:Int)) (AB by' k)∈List.replicate n (-1:Int):=AN hx.1 (by simpa using hx.2)
  rw [List.mem_replicate] at this
  omega)
 rw [Zq,DE] at this
 exact this
def bE (p:Pattern) (c:AA):Prop:=14 ^ (c.Pattern.Graph.Nodes.length - p.Graph.Nodes.length)*18 ^ (c.Pattern.Graph.Edges.length - p.Graph.Edges.length)<=5000
theorem YE {t:Types} {h:AY} {inj:Bool} {p:Pattern} {c:AA} {m:AL} (hv:(A7 t).2=0) (hh:LX t h) (ha:T2 t p h m) (hi:Xr t p c) (hb:bE p c) (n1:h.Graph.Nodes.length<=14) (n2:h.Graph.Edges.length<=18):(GW t c h m inj).2=0:=by
 have inj':=hi.inj
 unfold M7 at inj'
 rw [zzZ,MM,MM] at inj'
 have m1:=hi.map.nlen
 have m2:=hi.map.elen
 have m3:=ha.m.nlen
 have m4:=ha.m.elen
 have c1:=SD (n:=c.Pattern.Graph.Nodes.length) (images:=m.Morphism.Nodes) inj'.1 (fun x hx=>by obtain ⟨i,i0,i1,rfl⟩:=EP hx; exact (hi.map.node i i0 i1).1) (fun k k0 k1=>(ha.m.node k k0 (by omega)).1.1)
 have c2:=SD (n:=c.Pattern.Graph.Edges.length) (images:=m.Morphism.Edges) inj'.2 (fun x hx=>by obtain ⟨i,i0,i1,rfl⟩:=EP hx; exact (hi.map.edge i i0 i1).1) (fun k k0 k1=>(ha.m.edge k k0 (by omega)).1)
 have hE:∀ pa:Morphism,pa.Nodes.length=c.Pattern.Graph.Nodes.length->pa.Edges.length=c.Pattern.Graph.Edges.length->(∀ x∈pa.Nodes,-1<=x∧x<h.Graph.Nodes.length)->(∀ x∈pa.Edges,-1<=x∧x<h.Graph.Edges.length)->ER pa.Nodes=c.Pattern.Graph.Nodes.length - p.Graph.Nodes.length->ER pa.Edges=c.Pattern.Graph.Edges.length - p.Graph.Edges.length->(PY t c.Pattern.Graph h.Graph pa inj).2=0:=by
  intro pa l1 l2 r1 r2 g1 g2
  unfold PY
  rw [if_neg,if_neg (by omega),if_neg,if_neg,if_neg]
  ·have:=Vf (t:=t) (g:=h.Graph) (inj:=inj) l1 l2
   rw [g1,g2] at this
   have k1:h.Graph.Nodes.length ^ (c.Pattern.Graph.Nodes.length - p.Graph.Nodes.length)<=14 ^ (c.Pattern.Graph.Nodes.length - p.Graph.Nodes.length):=Nat.pow_le_pow_left n1 _
   have k2:h.Graph.Edges.length ^ (c.Pattern.Graph.Edges.length - p.Graph.Edges.length)<=18 ^ (c.Pattern.Graph.Edges.length - p.Graph.Edges.length):=Nat.pow_le_pow_left n2 _
   have k3:=Nat.mul_le_mul k1 k2
   unfold bE at hb
   omega
  ·unfold OE
   rw [if_neg]
   ·simp
   ·rw [List.any_eq_true]
    rintro ⟨x,hx,e⟩
    have:=r2 x hx
    unfold Sb at e
    rw [Bool.or_eq_true,zzX,zzX] at e
    omega
  ·unfold OE
   rw [if_neg]
   ·simp
   ·rw [List.any_eq_true]
    rintro ⟨x,hx,e⟩
    have:=r1 x hx
    unfold Sb at e
    rw [Bool.or_eq_true,zzX,zzX] at e
    omega
  ·unfold GO
   rw [if_neg (by simp [hv]),if_neg (by simp [hi.q.ge]),if_neg (by simp [hh.ge]),if_pos (by rw [hi.q.ty,hh.ty]; rfl)]
   simp
 have hp:=hE ⟨Jj c.Pattern.Graph.Nodes.length c.Map.Nodes m.Morphism.Nodes,Jj c.Pattern.Graph.Edges.length c.Map.Edges m.Morphism.Edges⟩ (SL _ _ _) (SL _ _ _) (fun x hx=>by
  rcases SM hx with e | ⟨k,hk,e⟩
  ·omega
  ·have:=(ha.m.node k hk.1 (by omega)).1; omega) (fun x hx=>by
  rcases SM hx with e | ⟨k,hk,e⟩
  ·omega
  ·have:=ha.m.edge k hk.1 (by omega); omega) (by show ER (Jj _ _ _)=_; omega) (by show ER (Jj _ _ _)=_; omega)
 unfold GW
 dsimp only
 rw [if_neg (by rw [hp]; simp)]
end Go.Sf.Sc
namespace Go.Sf.Sc
open Go Go.Sf
def Pg (t:Types) (p:Pattern) (c:AA):Int:=
 if c.Pattern.Vars<p.Vars then 20 else if MQ t c.Pattern p.Vars≠0 then MQ t c.Pattern p.Vars else
 if MS p.Graph c.Pattern.Graph c.Map≠0 then MS p.Graph c.Pattern.Graph c.Map else if M7 c.Map=false then 1 else 0
inductive CG (t:Types):Pattern->AA->Prop where
 | mk (p:Pattern) (c:AA) (ex:c.Kind=5->Pg t p c=0∧bE p c) (kids:∀ k∈c.Kids,CG t (if c.Kind=5 then c.Pattern else p) k):CG t p c
theorem CG.ex {t:Types} {p:Pattern} {c:AA} (h:CG t p c):c.Kind=5->Pg t p c=0∧bE p c:=by cases h; assumption
theorem CG.kids {t:Types} {p:Pattern} {c:AA} (h:CG t p c):∀ k∈c.Kids,CG t (if c.Kind=5 then c.Pattern else p) k:=by cases h; assumption
theorem CG.kid {t:Types} {p:Pattern} {c:AA} (h:CG t p c) (h5:¬ c.Kind=5):∀ k∈c.Kids,CG t p k:=fun k hk=>by have:=h.kids k hk; rwa [if_neg h5] at this
theorem CG.kid5 {t:Types} {p:Pattern} {c:AA} (h:CG t p c) (h5:c.Kind=5):∀ k∈c.Kids,CG t c.Pattern k:=fun k hk=>by have:=h.kids k hk; rwa [if_pos h5] at this
theorem WJ (t:Types) (p:Pattern) (c:AA) (N:Nat):GN (N+1) t p c=if c.Kind=5∧Pg t p c≠0 then Pg t p c else (fst (fun i=>nz (GN N t (if c.Kind=5 then c.Pattern else p) (AB c.Kids i))) 0 c.Kids.length).getD 0:=by
 rw [GN]
 by_cases h5:c.Kind=5
 ·rw [if_pos h5,if_pos h5]
  unfold Pg
  by_cases h1:c.Pattern.Vars<p.Vars
  ·rw [if_pos h1,if_pos h1,if_pos ⟨h5,by decide⟩]
  rw [if_neg h1,if_neg h1]
  by_cases h2:MQ t c.Pattern p.Vars≠0
  ·rw [if_pos h2,if_pos h2,if_pos ⟨h5,h2⟩]
  rw [if_neg h2,if_neg h2]
  by_cases h3:MS p.Graph c.Pattern.Graph c.Map≠0
  ·rw [if_pos h3,if_pos h3,if_pos ⟨h5,h3⟩]
  rw [if_neg h3,if_neg h3]
  by_cases h4:M7 c.Map=false
  ·rw [if_pos h4,if_pos h4,if_pos ⟨h5,by decide⟩]
  rw [if_neg h4,if_neg h4,if_neg (by simp)]
 ·rw [if_neg h5,if_neg h5,if_neg (by simp [h5])]
theorem WK {t:Types}:∀ (N:Nat) {p:Pattern} {c:AA},CG t p c->GN N t p c=0
 | 0,_,_,_=>rfl
 | N+1,p,c,h=>by
  rw [WJ,if_neg (by rintro ⟨a,b⟩; exact b (h.ex a).1)]
  have:fst (fun i=>nz (GN N t (if c.Kind=5 then c.Pattern else p) (AB c.Kids i))) 0 c.Kids.length=none:=CY.2 fun i i0 i1=>by
   rw [WK N (h.kids _ (AN i0 i1))]; rfl
  rw [this]; rfl
theorem Sl {a:Nat} (ha:a<=18) (h1:1<=a) {s:Nat}:∀ k:Nat,(∀ j,j<=k->a ^ j*s<=18 ^ 6)->LH a k s=((a ^ k*s:Nat):Int)
 | 0,_=>by simp [LH]
 | k+1,h=>by
  have e:=Sl ha h1 (s:=s) k fun j hj=>h j (by omega)
  have b:=h (k+1) (Nat.le_refl _)
  rw [LH,e]
  have e2:((a ^ k*s:Nat):Int)*(a:Int)=((a ^ (k+1)*s:Nat):Int):=by
   rw [Nat.pow_succ]; push_cast; rw [Int.mul_right_comm]
  rw [e2,AW (by omega) (by
   have:((18:Nat) ^ 6)=34012224:=by decide
   omega)]
theorem ee {p q:Pattern} (h:LH 18 (max (p.Graph.Edges.length:Int) q.Graph.Edges.length - p.Graph.Edges.length).toNat (LH 14 (max (p.Graph.Nodes.length:Int) q.Graph.Nodes.length - p.Graph.Nodes.length).toNat 1)<=5000) (hs:q.Graph.Nodes.length+q.Graph.Edges.length<=6) :
  14 ^ (q.Graph.Nodes.length - p.Graph.Nodes.length)*18 ^ (q.Graph.Edges.length - p.Graph.Edges.length)<=5000:=by
 have e1:(max (p.Graph.Edges.length:Int) q.Graph.Edges.length - p.Graph.Edges.length).toNat=q.Graph.Edges.length - p.Graph.Edges.length:=by omega
 have e2:(max (p.Graph.Nodes.length:Int) q.Graph.Nodes.length - p.Graph.Nodes.length).toNat=q.Graph.Nodes.length - p.Graph.Nodes.length:=by omega
 rw [e1,e2] at h
 generalize hj:q.Graph.Edges.length - p.Graph.Edges.length=j at *
 generalize hk:q.Graph.Nodes.length - p.Graph.Nodes.length=k at *
 have hjk:k+j<=6:=by omega
 have b1:∀ i,i<=k->14 ^ i*1<=18 ^ 6:=fun i hi=>by
  rw [Nat.mul_one]
  exact Nat.le_trans (Nat.pow_le_pow_left (by omega) i) (Nat.pow_le_pow_right (by omega) (by omega))
 have b2:∀ i,i<=j->18 ^ i*(14 ^ k*1)<=18 ^ 6:=fun i hi=>by
  rw [Nat.mul_one]
  refine Nat.le_trans (Nat.mul_le_mul_left _ (Nat.pow_le_pow_left (by omega:14<=18) k)) ?_
  rw [←Nat.pow_add]
  exact Nat.pow_le_pow_right (by omega) (by omega)
 have m1:=Sl (a:=14) (by omega) (by omega) (s:=1) k b1
 have m2:=Sl (a:=18) (by omega) (by omega) (s:=14 ^ k*1) j b2
 have m1':LH 14 k 1=((14 ^ k*1:Nat):Int):=m1
 have m2':LH 18 j ((14 ^ k*1:Nat):Int)=((18 ^ j*(14 ^ k*1):Nat):Int):=m2
 rw [m1',m2',Nat.mul_one,Nat.mul_comm] at h
 omega
theorem bK {t:Types}:∀ (N:Nat) {p:Pattern} {c:AA},SizeOf.sizeOf c<=N->(∀ M,M=N->GN M t p c=0)->Kt 14 18 N p c=true->KZ N c=true->C5 c->CG t p c
 | 0,_,c,h,_,_,_,_=>by have:=DI c; omega
 | N+1,p,c,h,ho,hb,hn,hf=>by
  have ho:=ho _ rfl
  rw [WJ] at ho
  rw [Kt] at hb
  rw [KZ] at hn
  generalize hq:(if c.Kind=5 then c.Pattern else p)=q at hb
  try dsimp only at hb
  split at hb
  ·cases hb
  rename_i hb1
  split at hn
  ·cases hn
  rename_i hn1
  rw [zzX] at hb hn
  rw [Bool.not_eq_true,DW] at hb1 hn1
  have q1:=hf.q.nodes
  have q2:=hf.q.edges
  rw [AW (by omega) (by omega)] at hn
  have hkid:(fst (fun i=>nz (GN N t (if c.Kind=5 then c.Pattern else p) (AB c.Kids i))) 0 c.Kids.length).getD 0=0:=by
   by_cases hx:c.Kind=5∧Pg t p c≠0
   ·rw [if_pos hx] at ho; exact absurd ho hx.2
   ·rwa [if_neg hx] at ho
  refine .mk p c (fun h5=>⟨?_,?_⟩) (fun k hk=>?_)
  ·by_cases hx:Pg t p c≠0
   ·rw [if_pos ⟨h5,hx⟩] at ho; exact ho
   ·exact Classical.not_not.1 hx
  ·rw [if_pos h5] at hq
   subst hq
   exact ee hb (by omega)
  ·have hs:=D3 hk
   obtain ⟨i,i0,i1,rfl⟩:=EP hk
   refine bK N (by omega) (fun M hM=>by subst hM; exact R5 hkid i i0 i1) ?_ ?_ (hf.k _ hk)
   ·have:=hb1 i i0 i1
    rw [hq]
    simpa using this
   ·have:=hn1 i i0 i1
    simpa using this
mutual
def den (t:Types) (h:AY) (inj:Bool):AA->AL->Bool
 | ⟨k,kids,mp,p⟩,m=>
  if k=2 then !((RR t h inj kids).headD fun _=>true) m else
  if k=3 then (RR t h inj kids).all fun f=>f m else
  if k=4 then (RR t h inj kids).any fun f=>f m else
  if k=5 then (GW t ⟨k,kids,mp,p⟩ h m inj).1.any ((RR t h inj kids).headD fun _=>true) else true
def RR (t:Types) (h:AY) (inj:Bool):List AA->List (AL->Bool)
 | []=>[]
 | c::l=>den t h inj c::RR t h inj l
end
theorem UI (t:Types) (h:AY) (inj:Bool):∀ l,RR t h inj l=l.map (den t h inj)
 | []=>rfl
 | c::l=>by rw [RR,UI t h inj l]; rfl
theorem Rw (t:Types) (h:AY) (inj:Bool) (c:AA) (m:AL):den t h inj c m =
  if c.Kind=2 then !((c.Kids.map (den t h inj)).headD fun _=>true) m else
  if c.Kind=3 then c.Kids.all fun k=>den t h inj k m else
  if c.Kind=4 then c.Kids.any fun k=>den t h inj k m else
  if c.Kind=5 then (GW t c h m inj).1.any ((c.Kids.map (den t h inj)).headD fun _=>true) else true:=by
 cases c
 rw [den,UI,List.all_map,List.any_map]
 rfl
theorem UW {α:Type} [Inhabited α] {β:Type} {l:List α} {f:α->β} {d:β} (h:l.length=1):(l.map f).headD d=f (AB l 0):=by
 obtain ⟨x,rfl⟩:=List.length_eq_one_iff.1 h
 rfl
theorem V9 {w:Int->A4 × Int} {d:Int->Bool} {F:Int->Option (A4 × Int)} {n:Int} (hw:∀ i,0<=i->i<n->(w i).2=if d i=true then 0 else 10)
  (hF:∀ i,0<=i->i<n->((F i).map (·.2))=if (w i).2=0 then some 0 else if (w i).2≠10 then some (w i).2 else none):((fst F 0 n).getD (zP,10)).2=if anyR d 0 n=true then 0 else 10:=by
 cases hr:fst F 0 n with
 | none=>
  have h0:=CY.1 hr
  rw [if_neg]
  ·rfl
  ·rw [Bool.not_eq_true,DW]
   intro i i0 i1
   have h1:=hF i i0 i1
   rw [h0 i i0 i1,hw i i0 i1] at h1
   cases hd:d i
   ·rfl
   ·rw [hd] at h1; simp at h1
 | some r=>
  obtain ⟨i,i0,i1,k,_⟩:=FD hr
  have h1:=hF i i0 i1
  rw [k,hw i i0 i1] at h1
  cases hd:d i
  ·rw [hd] at h1; simp at h1
  ·rw [hd] at h1
   rw [if_pos (by rw [H2]; exact ⟨i,i0,i1,hd⟩)]
   simpa using h1
theorem UA {w:AA->A4 × Int} {d:AA->Bool}:∀ (l:List AA) (s:A4 × A4),(∀ k∈l,(w k).2=if d k=true then 0 else 10)->(match HC (RL w) l s with | .inl s=>(s.2,(0:Int)) | .inr r=>r).2=if l.all d=true then 0 else 10
 | [],s,_=>rfl
 | k::l,s,h=>by
  have hk:=h k (by simp)
  rw [HC]
  unfold RL
  rw [List.all_cons]
  cases hd:d k
  ·rw [hd] at hk
   rw [if_pos (by rw [hk]; decide)]
   simpa using hk
  ·rw [hd] at hk
   rw [if_neg (by rw [hk]; decide),Bool.true_and]
   exact UA l _ fun k hk=>h k (by simp [hk])
theorem Wl {t:Types} {h:AY} {inj:Bool} (hv:(A7 t).2=0) (hh:LX t h) (n1:h.Graph.Nodes.length<=14) (n2:h.Graph.Edges.length<=18):∀ (N:Nat) (c:AA) (p:Pattern) (m:AL),SizeOf.sizeOf c<=N->CV t p c->CG t p c->T2 t p h m->(DL t h inj N c m).2=if den t h inj c m=true then 0 else 10
 | 0,c,_,_,h,_,_,_=>by have:=DI c; omega
 | N+1,c,p,m,hs,hc,hg,ha=>by
  have kid:∀ k∈c.Kids,SizeOf.sizeOf k<=N:=fun k hk=>by have:=D3 hk; omega
  have ih:=Wl hv hh n1 n2 (inj:=inj) N
  rw [DL,Rw]
  by_cases h2:c.Kind=2
  ·have h1:=hc.one (.inl h2)
   rw [if_pos h2,if_pos h2,UW h1]
   have hk:=AN (l:=c.Kids) (i:=0) (by omega) (by omega)
   have e:=ih _ p m (kid _ hk) (hc.kid (by omega) _ hk) (hg.kid (by omega) _ hk) ha
   cases hd:den t h inj (AB c.Kids 0) m
   ·rw [hd] at e
    rw [if_neg (by rw [e]; decide),if_pos (by rw [e]; rfl)]; rfl
   ·rw [hd] at e
    rw [if_pos (by rw [e]; rfl)]; rfl
  rw [if_neg h2,if_neg h2]
  by_cases h3:c.Kind=3
  ·rw [if_pos h3,if_pos h3]
   exact UA c.Kids (zP,zP) fun k hk=>ih k p m (kid k hk) (hc.kid (by omega) k hk) (hg.kid (by omega) k hk) ha
  rw [if_neg h3,if_neg h3]
  by_cases h4:c.Kind=4
  ·rw [if_pos h4,if_pos h4,Je]
   refine V9 (w:=fun i=>DL t h inj N (AB c.Kids i) m) (fun i i0 i1=>?_) (fun i i0 i1=>?_)
   ·have hk:=AN i0 i1
    exact ih _ p m (kid _ hk) (hc.kid (by omega) _ hk) (hg.kid (by omega) _ hk) ha
   ·try dsimp only
    split
    ·rfl
    ·split <;> rfl
  rw [if_neg h4,if_neg h4]
  by_cases h5:c.Kind=5
  ·rw [if_pos h5,if_pos h5]
   have hi:=hc.ins h5
   have h1:=hc.one (.inr h5)
   have e0:=YE (inj:=inj) hv hh ha hi (hg.ex h5).2 n1 n2
   obtain ⟨e1,e2⟩:=V2 hv hh ha hi e0
   have hk:=AN (l:=c.Kids) (i:=0) (by omega) (by omega)
   rw [if_neg (by simp [e0]),UW h1,Je]
   refine V9 (w:=fun i=>DL t h inj N (AB c.Kids 0) (AB (GW t c h m inj).1 i)) (fun i i0 i1=>?_) (fun i i0 i1=>?_)
   ·exact ih _ c.Pattern _ (kid _ hk) (hc.kid5 h5 _ hk) (hg.kid5 h5 _ hk) (e2 _ (AN i0 i1))
   ·try dsimp only
    split
    ·rfl
    ·split <;> rfl
  rw [if_neg h5,if_neg h5]; rfl
end Go.Sf.Sc
namespace Go.Sf.Sc
open Go Go.Sf
theorem cM {t:Types} {p:Pattern} {kd:Int} {ks:List AA} (hk:kd≠5) (h:∀ k∈ks,CG t p k):CG t p ⟨kd,ks,⟨[],[]⟩,⟨⟨[],[]⟩,[],0,[]⟩⟩:=.mk p _ (fun h=>absurd h hk) (fun k hk'=>by rw [if_neg hk]; exact h k hk')
section
variable (t:Types) (h:AY) (inj:Bool) (m:AL)
end
end Go.Sf.Sc
namespace Go.Sf.Sc
open Go Go.Sf
theorem gh {σ ρ:Type} {f:σ × Int->Option (B8 (σ × Int) ρ)} (I:Int->σ->Prop) (b:Int) {s:σ} {a:Int} (h0:I a s)
  (step:∀ i s,a<=i->I i s->(i<b∧∃ s',f (s,i)=some (.next (s',i+1))∧I (i+1) s')∨f (s,i)=some (.brk (s,i))):∃ i s',a<=i∧I i s'∧f (s',i)=some (.brk (s',i))∧FB f (s,a)=some (.inl (s',i)):=by
 have key:∀ (n:Nat) (i:Int) (s:σ),a<=i->I i s->b - i<=n->∃ j s',i<=j∧I j s'∧f (s',j)=some (.brk (s',j))∧LZ f (s,i) (.inl (s',j)):=by
  intro n
  induction n with
  | zero=>
   intro i s hi hs hb
   rcases step i s hi hs with ⟨h,_⟩ | h
   ·omega
   ·exact ⟨i,s,Int.le_refl _,hs,h,.brk h⟩
  | succ n ih=>
   intro i s hi hs hb
   rcases step i s hi hs with ⟨_,s',h1,h2⟩ | h
   ·obtain ⟨j,s2,k1,k2,k4,k3⟩:=ih (i+1) s' (by omega) h2 (by omega)
    exact ⟨j,s2,by omega,k2,k4,.next h1 k3⟩
   ·exact ⟨i,s,Int.le_refl _,hs,h,.brk h⟩
 obtain ⟨j,s',k1,k2,k4,k3⟩:=key (b - a).toNat a s (Int.le_refl _) h0 (by omega)
 exact ⟨j,s',k1,k2,k4,k3.eq⟩
theorem Ja {σ ρ β:Type} {f:σ × Int->Option (B8 (σ × Int) ρ)} {k:σ × Int->Option β} {kr:ρ->Option β} {Q:β->Prop} (I:Int->σ->Prop) (b:Int) {s:σ} {a:Int} (h0:I a s)
  (step:∀ i s,a<=i->I i s->(i<b∧∃ s',f (s,i)=some (.next (s',i+1))∧I (i+1) s')∨f (s,i)=some (.brk (s,i))) (hk:∀ i s,a<=i->I i s->f (s,i)=some (.brk (s,i))->∃ r,k (s,i)=some r∧Q r):∃ r,thenR (FB f (s,a)) k kr=some r∧Q r:=by
 obtain ⟨i,s',h1,h2,h4,h3⟩:=gh I b h0 step
 rw [h3,C4]
 exact hk i s' h1 h2 h4
theorem YI {σ β:Type} {f:Int->σ->Option σ} {k:σ->Option β} {Q:β->Prop} (I:Int->σ->Prop) {a b:Int} {s:σ} (hab:a<=b) (h0:I a s) (h:∀ i s,a<=i->i<b->I i s->∃ s',f i s=some s'∧I (i+1) s') (hk:∀ s,I b s->∃ r,k s=some r∧Q r):∃ r,(forA f a b s).bind k=some r∧Q r:=by
 obtain ⟨s',h1,h2⟩:=MP I hab h0 h
 rw [h1,bs]
 exact hk s' h2
theorem HL {a b:Int} (ha:0<=a) (hb:0<b):∃ r,DJ a b=some r∧0<=r∧r<b:=by
 unfold DJ
 rw [if_neg (by omega),Int.tmod_eq_emod_of_nonneg ha]
 exact ⟨_,rfl,Int.emod_nonneg _ (by omega),Int.emod_lt_of_pos _ hb⟩
theorem GP {a b:Int} (hb:b≠0):∃ r,DJ a b=some r:=by
 unfold DJ
 rw [if_neg hb]
 exact ⟨_,rfl⟩
theorem Ol {a b:Int} (ha:0<=a) (hb:0<b):∃ r,quo a b=some r∧0<=r∧r<=a:=by
 unfold quo
 rw [if_neg (by omega),Int.tdiv_eq_ediv_of_nonneg ha]
 exact ⟨_,rfl,Int.ediv_nonneg ha (by omega),Int.ediv_le_self _ ha⟩
theorem na (a:Int):0<=IntKind.u8.wrap a∧IntKind.u8.wrap a<256:=by
 have e:IntKind.u8.wrap a=a % 256:=by
  unfold IntKind.wrap
  simp [IntKind.signed,IntKind.bits]
 rw [e]
 omega
instance:Inhabited II:=⟨⟨0,0⟩⟩
instance:Inhabited MH:=⟨⟨0,0,0⟩⟩
instance:Inhabited NV:=⟨⟨0,0,0,0⟩⟩
instance:Inhabited Im:=⟨⟨0,0⟩⟩
def U8 (x:Int):Prop:=0<=x∧x<256
def U2 (a:II):Prop:=U8 a.a0∧U8 a.a1
def U3 (a:MH):Prop:=U8 a.a0∧U8 a.a1∧U8 a.a2
theorem U8.w {x:Int} (h:U8 x):AI x=x:=AW (by have:=h.1; omega) (by have:=h.2; omega)
structure Wr (n:BE) (i:Int):Prop where
 name:n.Name.size<=40
 par:-1<=n.Parent∧n.Parent<i
 attrs:n.Attrs.length<=1
 each:∀ a∈n.Attrs,QF a
structure NI (t:Types) (i:Int):Prop where
 len:(t.Nodes.length:Int)=i
 node:∀ k:Int,0<=k->k<i->Wr (AB t.Nodes k) k
theorem NI.app {t:Types} {i:Int} (h:NI t i) {n:BE} (hn:Wr n i):NI ⟨t.Nodes++[n],t.Edges⟩ (i+1):=by
 refine ⟨by simp [←h.len],fun k k0 k1=>?_⟩
 have hl:=h.len
 by_cases e:k=i
 ·subst e
  rw [show AB (t.Nodes++[n]) k=n from Sa _ _ (by omega)]
  exact hn
 ·rw [show AB (t.Nodes++[n]) k=AB t.Nodes k from QJ _ _ k0 (by omega)]
  exact h.node k k0 (by omega)
theorem RZ {s:ByteArray} {i:Int} (h0:0<=i) (h:i+1<=s.size):(s.extract i.toNat (i+1).toNat).size<=40:=by
 rw [ByteArray.size_extract]; omega
theorem N9 {t:Types} {i x0 x1:Int} (i0:0<=i) (i1:i<6) (h0:U8 x0) (h1:U8 x1) (ht:NI t i):∃ t',((sslc (⟨#[65,66,67,68,69,70]⟩:ByteArray) i (AI (i+1))).bind fun x38=>
 (DJ (AI x0) (AI (i+1))).bind fun x44=>
 (quo x0 16).bind fun x48=>
 (DJ (IntKind.u8.wrap x48) 4).bind fun x49=>
 (sslc (⟨#[117,118,119,120,121,122]⟩:ByteArray) i (AI (i+1))).bind fun x55=>
 (DJ x1 4).bind fun x58=>
 if (decide (x58=1))=true then
 (quo x1 4).bind fun x64=>
 (DJ (AI (IntKind.u8.wrap x64)) 9).bind fun x66=>
 (A3 t.Nodes [BE.mk x38 (AI (x44 - 1)) (decide (x49=3)) [Attr.mk x55 (-3) (AI (3+x66)) []]]).bind fun x82=>
 some (B8.next (ρ:=Types) (Types.mk x82 t.Edges,AI (i+1)))
 else
 if (decide (x58=2))=true then
 (A3 t.Nodes [BE.mk x38 (AI (x44 - 1)) (decide (x49=3)) [Attr.mk x55 0 1 [(⟨#[111,102,102]⟩:ByteArray),(⟨#[111,110]⟩:ByteArray)]]]).bind fun x82=>
 some (.next (Types.mk x82 t.Edges,AI (i+1)))
 else
 (A3 t.Nodes [BE.mk x38 (AI (x44 - 1)) (decide (x49=3)) []]).bind fun x82=>
 some (.next (Types.mk x82 t.Edges,AI (i+1))))=some (.next (t',i+1))∧NI t' (i+1)∧t'.Edges=t.Edges:=by
 have hl:=ht.len
 rw [AW (n:=i+1) (by omega) (by omega),Ig i0 (by omega) (by show i+1<=((6:Nat):Int); omega),bs,h0.w]
 obtain ⟨x44,e1,k1,k2⟩:=HL h0.1 (show 0<i+1 by omega)
 obtain ⟨x48,e2,_⟩:=Ol h0.1 (show (0:Int)<16 by omega)
 obtain ⟨x49,e3⟩:=GP (a:=IntKind.u8.wrap x48) (show (4:Int)≠0 by omega)
 obtain ⟨x58,e4⟩:=GP (a:=x1) (show (4:Int)≠0 by omega)
 obtain ⟨x64,e5,_⟩:=Ol h1.1 (show (0:Int)<4 by omega)
 have hw:=na x64
 obtain ⟨x66,e6,_⟩:=HL (show 0<=AI (IntKind.u8.wrap x64) by rw [AW (by omega) (by omega)]; omega) (show (0:Int)<9 by omega)
 have hap:∀ n:BE,A3 t.Nodes [n]=some (t.Nodes++[n]):=fun n=>BM (by simp; unfold BF; omega)
 rw [e1,bs,e2,bs,e3,bs,Ig i0 (by omega) (by show i+1<=((6:Nat):Int); omega),bs,e4,bs,e5,bs,e6,bs,hap,hap,hap,AW (n:=x44 - 1) (by omega) (by omega)]
 simp only [bs]
 have nm:((⟨#[65,66,67,68,69,70]⟩:ByteArray).extract i.toNat (i+1).toNat).size<=40:=RZ i0 (by show i+1<=((6:Nat):Int); omega)
 have nm2:((⟨#[117,118,119,120,121,122]⟩:ByteArray).extract i.toNat (i+1).toNat).size<=40:=RZ i0 (by show i+1<=((6:Nat):Int); omega)
 split
 ·refine ⟨_,rfl,ht.app ⟨nm,by simp only; omega,by simp,fun a ha=>?_⟩,rfl⟩
  rw [List.mem_singleton.1 ha]
  exact ⟨by simp only; omega,by simp,by simp⟩
 ·split
  ·refine ⟨_,rfl,ht.app ⟨nm,by simp only; omega,by simp,fun a ha=>?_⟩,rfl⟩
   rw [List.mem_singleton.1 ha]
   refine ⟨by simp only; omega,by simp,fun x hx=>?_⟩
   simp only [List.mem_cons,List.not_mem_nil,or_false] at hx
   rcases hx with rfl | rfl <;> decide
  ·exact ⟨_,rfl,ht.app ⟨nm,by simp only; omega,by simp,fun a ha=>by cases ha⟩,rfl⟩
structure Ma (t:Types):Prop where
 n:NI t t.Nodes.length
 pos:0<t.Nodes.length
 nodes:t.Nodes.length<=6
 edges:t.Edges.length<=5
 edge:∀ e∈t.Edges,e.Name.size<=40∧(0<=e.From∧e.From<t.Nodes.length)∧0<=e.To∧e.To<t.Nodes.length
theorem Ma.few {t:Types} (h:Ma t):BV t:=by
 have hn:∀ n∈t.Nodes,∃ i,Wr n i:=fun n hn=>by
  obtain ⟨i,i0,i1,rfl⟩:=EP hn
  exact ⟨i,h.n.node i i0 i1⟩
 refine ⟨by have:=h.nodes; omega,by have:=h.edges; omega,fun n hm=>?_,fun n hm=>?_,fun n hm=>?_,fun e he=>?_⟩
 ·obtain ⟨i,k⟩:=hn n hm; have:=k.name; omega
 ·obtain ⟨i,k⟩:=hn n hm; have:=k.attrs; omega
 ·obtain ⟨i,k⟩:=hn n hm; exact k.each
 ·have:=(h.edge e he).1; omega
theorem Ma.par {t:Types} (h:Ma t):FN t t.Nodes.length:=fun i i0 i1=>(h.n.node i i0 i1).par
theorem Ma.below {t:Types} (h:Ma t) {a b:Int} (ha:0<=a) (ha2:a<t.Nodes.length) (hb:0<=b):∃ r,G8 t a b=some r:=
 ⟨_,FK (a+2).toNat fun n hn=>Rf h.par hb n (a+1).toNat a (by omega) ha2 (by omega) (by omega)⟩
theorem Z0 {nodes edges:List II} (hn:∀ x∈nodes,U2 x) (he:∀ x∈edges,U2 x):∃ t,Lx nodes edges=some t∧Ma t:=by
 unfold Lx
 refine Ja (fun i t=>(0<=i∧i<=6)∧NI t i∧t.Edges=[]) 6 ⟨by omega,⟨rfl,fun k k0 k1=>by omega⟩,rfl⟩ (fun i t i0 ⟨hi,ht,ht2⟩=>?_) (fun i t i0 ⟨hi,ht,ht2⟩ hbrk=>?_)
 ·dsimp only
  by_cases hc:i=0∨(i<nodes.length∧i<6)
  ·left
   have keep:∀ {X:Option (B8 (Types × Int) Types)},(∃ t',X=some (.next (t',i+1))∧NI t' (i+1)∧t'.Edges=t.Edges)->i<6∧∃ s',X=some (.next (s',i+1))∧(0<=i+1∧i+1<=6)∧NI s' (i+1)∧s'.Edges=[]:=fun ⟨t',a1,a2,a3⟩=>⟨by omega,t',a1,by omega,a2,a3.trans ht2⟩
   refine keep ?_
   rw [if_pos (by simp; omega)]
   by_cases hl:i<nodes.length
   ·rw [if_pos (by simpa using hl),AF hi.1 hl,bs]
    have hx:=hn _ (AN hi.1 hl)
    exact N9 (t:=t) hi.1 (by omega) hx.1 hx.2 ht
   ·rw [if_neg (by simpa using hl)]
    exact N9 (t:=t) (x0:=0) (x1:=0) hi.1 (by omega) ⟨by omega,by omega⟩ ⟨by omega,by omega⟩ ht
  ·right
   rw [if_neg (by simp; omega)]
 ·have hpos:0<i:=by
   by_cases e:i=0
   ·subst e
    dsimp only at hbrk
    rw [if_pos (by simp)] at hbrk
    by_cases hl:(0:Int)<nodes.length
    ·rw [if_pos (by simpa using hl),AF (by omega) hl,bs] at hbrk
     have hx:=hn _ (AN (by omega) hl)
     obtain ⟨t',a1,_⟩:=N9 (t:=t) (by omega) (by omega) hx.1 hx.2 ht
     rw [a1] at hbrk
     cases hbrk
    ·rw [if_neg (by simpa using hl)] at hbrk
     obtain ⟨t',a1,_⟩:=N9 (t:=t) (x0:=0) (x1:=0) (by omega) (by omega) ⟨by omega,by omega⟩ ⟨by omega,by omega⟩ ht
     rw [a1] at hbrk
     cases hbrk
   ·omega
  have hl:=ht.len
  dsimp only
  refine Ja (fun j u=>(0<=j∧j<=5)∧u.Nodes=t.Nodes∧(u.Edges.length:Int)=j∧∀ e∈u.Edges,e.Name.size<=40∧(0<=e.From∧e.From<u.Nodes.length)∧0<=e.To∧e.To<u.Nodes.length) 5 ⟨by omega,rfl,by rw [ht2]; rfl,fun e he=>by rw [ht2] at he; cases he⟩
   (fun j u j0 ⟨hj,h1,h2,h3⟩=>?_) (fun j u j0 ⟨hj,h1,h2,h3⟩ _=>?_)
  ·dsimp only
   by_cases hc:j<edges.length∧j<5
   ·left
    have hx:=he _ (AN hj.1 hc.1)
    have hn0:(0:Int)<u.Nodes.length:=by rw [h1]; omega
    obtain ⟨r1,e1,a1,a2⟩:=HL (show 0<=AI (AB edges j).a0 by rw [hx.1.w]; exact hx.1.1) hn0
    obtain ⟨r2,e2,b1,b2⟩:=HL (show 0<=AI (AB edges j).a1 by rw [hx.2.w]; exact hx.2.1) hn0
    refine ⟨by omega,⟨u.Nodes,u.Edges++[⟨(⟨#[101,102,103,104,105]⟩:ByteArray).extract j.toNat (j+1).toNat,r1,r2,0,-1,0,-1⟩]⟩,?_,by omega,h1,by simp; omega,?_⟩
    ·rw [if_pos (by simpa using hc),AW (n:=j+1) (by omega) (by omega),Ig hj.1 (by omega) (by show j+1<=((5:Nat):Int); omega),bs,AF hj.1 hc.1,bs,e1,bs,bs,e2,bs,BM (by simp; unfold BF; omega),bs]
    ·intro e hm
     rcases List.mem_append.1 hm with hm | hm
     ·exact h3 e hm
     ·rw [List.mem_singleton.1 hm]
      exact ⟨RZ hj.1 (by show j+1<=((5:Nat):Int); omega),⟨a1,a2⟩,b1,b2⟩
   ·right
    rw [if_neg (by simp; omega)]
  ·refine ⟨u,rfl,⟨rfl,fun k k0 k1=>?_⟩,by rw [h1]; omega,by rw [h1]; omega,by omega,h3⟩
   rw [h1] at k1 ⊢
   exact ht.node k k0 (by omega)
end Go.Sf.Sc
namespace Go.Sf.Sc
open Go Go.Sf
theorem Ql {β:Type} {n:Nat} {f:Int->List Int->Option (List Int)} {k:List Int->Option β} {Q:β->Prop} (hn:n<=1000) (h:∀ (i:Int) s,0<=i->i<n->∃ b:Bool,f i s=if b=true then (A3 s [i]).bind fun x=>some x else some s)
  (hk:∀ l:List Int,l.length<=n->(∀ x∈l,0<=x∧x<(n:Int))->∃ r,k l=some r∧Q r):∃ r,(forA f 0 (n:Int) []).bind k=some r∧Q r:=by
 refine YI (fun i l=>(l.length:Int)<=i∧∀ x∈l,0<=x∧x<(n:Int)) (by omega) ⟨by simp,fun x hx=>by cases hx⟩ (fun i l i0 i1 ⟨h1,h2⟩=>?_) (fun l ⟨h1,h2⟩=>hk l (by omega) h2)
 obtain ⟨b,hb⟩:=h i l i0 i1
 rw [hb]
 cases b
 ·exact ⟨l,rfl,by omega,h2⟩
 ·rw [if_pos rfl,BM (by simp; unfold BF; omega)]
  refine ⟨l++[i],rfl,by simp; omega,fun x hx=>?_⟩
  rcases List.mem_append.1 hx with hx | hx
  ·exact h2 x hx
  ·rw [List.mem_singleton.1 hx]; exact ⟨i0,i1⟩
structure Wq (t:Types) (g:Graph):Prop where
 nodes:g.Nodes.length<=8
 edges:g.Edges.length<=10
 kind:∀ n∈g.Nodes,0<=n∧n<t.Nodes.length
theorem WS {t:Types} (ht:Ma t) {g:Graph} (hg:Wq t g) {k:Int} (hk:0<=k):∃ l,Jv t g k=some l∧(l.length<=1000∧∀ x∈l,0<=x∧x<g.Nodes.length):=by
 unfold Jv
 refine Ql (by have:=hg.nodes; omega) (fun i s i0 i1=>?_) (fun l h1 h2=>⟨l,rfl,by have:=hg.nodes; omega,h2⟩)
 have hx:=hg.kind _ (AN i0 i1)
 obtain ⟨b,hb⟩:=ht.below hx.1 hx.2 hk
 exact ⟨b,by rw [AF i0 i1,bs,hb,bs]⟩
structure Xp (d:Jt):Prop where
 nodes:∀ x∈d.Nodes,U8 x
 edges:∀ x∈d.Edges,U3 x
theorem Z2 {t:Types} (ht:Ma t) {d:Jt} (hd:Xp d) (ab:Bool):∃ g,L5 t d ab=some g∧Wq t g:=by
 unfold L5
 have htn:=ht.nodes
 have hte:=ht.edges
 refine Ql (by omega) (fun i s i0 i1=>?_) (fun kinds h1 h2=>?_)
 ·cases ab
  ·exact ⟨!(AB t.Nodes i).Abstract,by rw [if_neg (by decide),AF i0 i1]; simp only [bs]⟩
  ·exact ⟨true,rfl⟩
 refine Ja (fun i g=>(0<=i∧i<=8)∧((g.Nodes.length:Int)<=i∧g.Edges=[])∧∀ n∈g.Nodes,0<=n∧n<(t.Nodes.length:Int)) 8 ⟨by omega,⟨by simp,rfl⟩,fun n hn=>by cases hn⟩ (fun i g i0 ⟨a1,a2,a3⟩=>?_) (fun i g i0 ⟨a1,a2,a3⟩ _=>?_)
 ·dsimp only
  by_cases hc:(i<d.Nodes.length∧i<8)∧0<(kinds.length:Int)
  ·left
   have hx:=hd.nodes _ (AN a1.1 hc.1.1)
   obtain ⟨r,e1,b1,b2⟩:=HL (show 0<=AI (AB d.Nodes i) by rw [hx.w]; exact hx.1) hc.2
   refine ⟨by omega,⟨g.Nodes++[AB kinds r],g.Edges⟩,?_,by omega,⟨by simp; omega,a2.2⟩,fun n hn=>?_⟩
   ·rw [if_pos (by simpa using hc),AF a1.1 hc.1.1,bs,e1,bs,AF b1 b2,bs,BM (by simp; unfold BF; omega),bs,AW (n:=i+1) (by omega) (by omega)]
   ·rcases List.mem_append.1 hn with hn | hn
    ·exact a3 n hn
    ·rw [List.mem_singleton.1 hn]; exact h2 _ (AN b1 b2)
  ·right
   rw [if_neg (by simpa using hc)]
 ·dsimp only
  refine Ja (fun j u=>(0<=j∧j<=10)∧u.Nodes=g.Nodes∧(u.Edges.length:Int)<=j) 10 ⟨by omega,rfl,by rw [a2.2]; simp⟩ (fun j u j0 ⟨b1,b2,b3⟩=>?_) (fun j u j0 ⟨b1,b2,b3⟩ _=>?_)
  ·dsimp only
   by_cases hc:(j<d.Edges.length∧j<10)∧0<(t.Edges.length:Int)
   ·left
    have hx:=hd.edges _ (AN b1.1 hc.1.1)
    obtain ⟨r,e1,c1,c2⟩:=HL (show 0<=AI (AB d.Edges j).a0 by rw [hx.1.w]; exact hx.1.1) hc.2
    have hed:=(ht.edge _ (AN c1 c2)).2
    have hu:Wq t u:=⟨by rw [b2]; omega,by omega,by rw [b2]; exact a3⟩
    obtain ⟨l1,e2,m1,m2⟩:=WS ht hu hed.1.1
    obtain ⟨l2,e3,n1,n2⟩:=WS ht hu hed.2.1
    refine ⟨by omega,?_⟩
    rw [if_pos (by simpa using hc),AF b1.1 hc.1.1,bs,e1,bs,AF c1 c2,bs,e2,bs,bs,e3,bs,AW (n:=j+1) (by omega) (by omega)]
    by_cases hl:0<(l1.length:Int)∧0<(l2.length:Int)
    ·obtain ⟨r1,f1,p1,p2⟩:=HL (show 0<=AI (AB d.Edges j).a1 by rw [hx.2.1.w]; exact hx.2.1.1) hl.1
     obtain ⟨r2,f2,q1,q2⟩:=HL (show 0<=AI (AB d.Edges j).a2 by rw [hx.2.2.w]; exact hx.2.2.1) hl.2
     refine ⟨⟨u.Nodes,u.Edges++[⟨r,AB l1 r1,AB l2 r2⟩]⟩,?_,by omega,b2,by simp; omega⟩
     rw [if_pos (by simpa using hl),bs,f1,bs,AF p1 p2,bs,bs,f2,bs,AF q1 q2,bs,BM (by simp; unfold BF; omega),bs]
    ·rw [if_neg (by simpa using hl)]
     exact ⟨u,rfl,by omega,b2,by omega⟩
   ·right
    rw [if_neg (by simpa using hc)]
  ·exact ⟨u,rfl,by rw [b2]; omega,by omega,by rw [b2]; exact a3⟩
structure Xu (d:Jx):Prop where
 g:Xp d.Graph
 slots:∀ x∈d.Slots,U3 x
structure bF (p:Pattern):Prop where
 nodes:p.Graph.Nodes.length<=8
 edges:p.Graph.Edges.length<=10
 slots:p.Slots.length<=4
 tests:p.Tests.length<=3
 vars:0<=p.Vars∧p.Vars<=3
theorem XJ {a b:Int} (hb:0<b) (hb2:b<=1000):∃ r,F6 a b=some r:=by
 unfold F6
 obtain ⟨r,e⟩:=GP (a:=a) (show b≠0 by omega)
 obtain ⟨r2,e2⟩:=GP (a:=AI (r+b)) (show b≠0 by omega)
 rw [e,bs,e2]
 exact ⟨r2,rfl⟩
theorem Zz {n:Int} (h:0<=n∧n<=3) (c:NV):∃ x,Lw n c=some x:=by
 unfold Lw
 obtain ⟨r1,e1⟩:=XJ (a:=AI c.a0) (show (0:Int)<4 by omega) (by omega)
 obtain ⟨r2,e2⟩:=XJ (a:=AI c.a1) (show 0<n+1 by omega) (by omega)
 obtain ⟨r3,e3⟩:=XJ (a:=AI c.a2) (show 0<n+1 by omega) (by omega)
 obtain ⟨r4,e4⟩:=GP (a:=AI c.a3) (show (12:Int)≠0 by omega)
 have e5:∃ q,quo r1 3=some q:=by unfold quo; rw [if_neg (by omega)]; exact ⟨_,rfl⟩
 obtain ⟨r5,e5⟩:=e5
 rw [e1,bs,e5,bs,AW (n:=n+1) (by omega) (by omega),e2,bs,e3,bs,e4]
 exact ⟨_,rfl⟩
theorem Z3 {t:Types} (ht:Ma t) {d:Jx} (hd:Xu d):∃ p,L7 t d=some p∧bF p:=by
 unfold L7
 obtain ⟨g,eg,hg⟩:=Z2 ht hd.g true
 rw [eg,bs]
 have hgn:=hg.nodes
 have hge:=hg.edges
 refine Ja (fun i l=>(0<=i∧i<=g.Nodes.length)∧(l.length:Int)<=600*i) g.Nodes.length ⟨by omega,by simp⟩ (fun i l i0 ⟨a1,a2⟩=>?_) (fun i l i0 ⟨a1,a2⟩ _=>?_)
 ·dsimp only
  by_cases hc:i<g.Nodes.length
  ·left
   refine ⟨hc,?_⟩
   rw [if_pos (by simpa using hc),AF a1.1 hc,bs,Q5 ht.few,bs]
   have hal:=(NK ht.few (AB g.Nodes i)).1
   obtain ⟨s,e,hs⟩:=MP (f:=fun (i2:Int) (s2:List Im)=>(A3 s2 [Im.mk i i2]).bind fun x51=>some x51) (fun k (s:List Im)=>(s.length:Int)<=600*i+k) (a:=0) (b:=((H3 t (AB g.Nodes i)).1.length:Int)) (s:=l) (by omega) (by omega) (fun k s k0 k1 hs=>⟨s++[⟨i,k⟩],by rw [BM (by simp; unfold BF; omega),bs],by simp; omega⟩)
   rw [e,bs,AW (n:=i+1) (by omega) (by omega)]
   exact ⟨s,rfl,by omega,by omega⟩
  ·right
   rw [if_neg (by simpa using hc)]
 ·dsimp only
  refine Ja (fun j p=>(0<=j∧j<=4)∧p.Graph=g∧((p.Slots.length:Int)<=j∧p.Tests=[])∧0<=p.Vars∧p.Vars<=3) 4 ⟨by omega,rfl,⟨by simp,rfl⟩,by simp,by simp⟩ (fun j p j0 ⟨b1,b2,b3,b4⟩=>?_) (fun j p j0 ⟨b1,b2,b3,b4⟩ _=>?_)
  ·dsimp only
   by_cases hc:(j<d.Slots.length∧j<4)∧0<(l.length:Int)
   ·left
    have hx:=hd.slots _ (AN b1.1 hc.1.1)
    obtain ⟨r,e1,c1,c2⟩:=HL (show 0<=AI (AB d.Slots j).a0 by rw [hx.1.w]; exact hx.1.1) hc.2
    obtain ⟨r1,e2⟩:=GP (a:=AI (AB d.Slots j).a1) (show (5:Int)≠0 by omega)
    obtain ⟨r2,e3⟩:=GP (a:=AI (AB d.Slots j).a2) (show (5:Int)≠0 by omega)
    have hap:∀ s:CT,A3 p.Slots [s]=some (p.Slots++[s]):=fun s=>BM (by simp; unfold BF; omega)
    refine ⟨by omega,?_⟩
    rw [if_pos (by simpa using hc),AF b1.1 hc.1.1,bs,e1,bs,AF c1 c2,bs,e2,bs,e3,bs,AW (n:=j+1) (by omega) (by omega),AW (n:=p.Vars+1) (by omega) (by omega)]
    simp only [hap,bs]
    split
    ·split
     ·exact ⟨_,rfl,by omega,b2,⟨by simp; omega,b3.2⟩,by simp,by simp⟩
     ·rename_i h3
      rw [zzX] at h3
      exact ⟨_,rfl,by omega,b2,⟨by simp; omega,b3.2⟩,by simp only; omega,by simp only; omega⟩
    ·split
     ·exact ⟨_,rfl,by omega,b2,⟨by simp; omega,b3.2⟩,by simp,by simp⟩
     ·exact ⟨_,rfl,by omega,b2,⟨by simp; omega,b3.2⟩,b4⟩
   ·right
    rw [if_neg (by simpa using hc)]
  ·dsimp only
   refine Ja (fun k u=>(0<=k∧k<=3)∧u.Graph=g∧(u.Slots.length<=4∧(u.Tests.length:Int)<=k)∧0<=u.Vars∧u.Vars<=3) 3 ⟨by omega,b2,⟨by omega,by rw [b3.2]; simp⟩,b4⟩ (fun k u k0 ⟨c1,c2,c3,c4⟩=>?_) (fun k u k0 ⟨c1,c2,c3,c4⟩ _=>⟨u,rfl,by rw [c2]; omega,by rw [c2]; omega,by omega,by omega,c4⟩)
   dsimp only
   by_cases hc:k<d.Tests.length∧k<3
   ·left
    obtain ⟨x,ex⟩:=Zz c4 (AB d.Tests k)
    refine ⟨by omega,⟨u.Graph,u.Slots,u.Vars,u.Tests++[x]⟩,?_,by omega,c2,⟨c3.1,by simp; omega⟩,c4⟩
    rw [if_pos (by simpa using hc),AF c1.1 hc.1,bs,ex,bs,BM (by simp; unfold BF; omega),bs,AW (n:=k+1) (by omega) (by omega)]
   ·right
    rw [if_neg (by simpa using hc)]
end Go.Sf.Sc
namespace Go.Sf.Sc
open Go Go.Sf
theorem ZH {t:Types} (hv:(A7 t).2=0):0<t.Nodes.length:=by
 unfold A7 at hv
 split at hv
 ·cases hv
 ·rename_i h; omega
structure Xq (d:Iq):Prop where
 nodes:∀ x∈d.Nodes,U2 x
 edges:∀ x∈d.Edges,U3 x
theorem Z1 {t:Types} (hf:BV t) (hv:(A7 t).2=0) {d:Iq} (hd:Xq d):∃ h,L3 t d=some h∧True:=by
 have ht:=GF hv
 have htn:=ht.nodes
 have hte:=ht.edges
 unfold L3
 have hcon:∃ l,I8 t=some l∧∀ x∈l,0<=x∧x<(t.Nodes.length:Int):=by
  unfold I8
  exact Ql (by omega) (fun i s i0 i1=>⟨!(AB t.Nodes i).Abstract,by rw [AF i0 i1,bs]⟩) (fun l _ h2=>⟨l,rfl,h2⟩)
 obtain ⟨kinds,ek,hk⟩:=hcon
 rw [ek,bs]
 refine Ja (fun i h=>(0<=i∧i<=8)∧(h.Graph.Nodes.length:Int)<=i∧(h.Values.length:Int)<=i∧h.Graph.Edges=[]) 8 ⟨by omega,by simp,by simp,rfl⟩ (fun i h i0 ⟨a1,a2,a3,a4⟩=>?_) (fun i h i0 ⟨a1,a2,a3,a4⟩ _=>?_)
 ·dsimp only
  by_cases hc:(i<d.Nodes.length∧i<8)∧0<(kinds.length:Int)
  ·left
   have hx:=hd.nodes _ (AN a1.1 hc.1.1)
   obtain ⟨r,e1,b1,b2⟩:=HL (show 0<=AI (AB d.Nodes i).a0 by rw [hx.1.w]; exact hx.1.1) hc.2
   have hkr:=hk _ (AN b1 b2)
   have hal:=(NK hf (AB kinds r)).1
   have hlo:=Rr hf ht hkr.1 hkr.2
   have hle:=X3 hf ht hkr.1 hkr.2
   refine ⟨by omega,?_⟩
   rw [if_pos (by simpa using hc),AF a1.1 hc.1.1,bs,e1,bs,AF b1 b2,bs,Q5 hf,bs]
   rw [Nz hv hkr.1 hkr.2] at hal ⊢
   dsimp only at hal ⊢
   obtain ⟨s,e,hs⟩:=MP (f:=fun (i2:Int) (s2:List Int)=>
    (AH (AZ t (AB kinds r)) i2).bind fun x63=>
    (some (AB d.Nodes i)).bind fun x69=>
    (AH (AZ t (AB kinds r)) i2).bind fun x78=>
    (AH (AZ t (AB kinds r)) i2).bind fun x83=>
    (DJ (AI ((AI x69.a1)+(AI (7*i2)))) (AI ((AI (x78.High - x83.Low))+1))).bind fun x88=>
    (A3 s2 [AI (x63.Low+x88)]).bind fun x91=>
    some x91) (fun k (s:List Int)=>(s.length:Int)<=k) (a:=0) (b:=((AZ t (AB kinds r)).length:Int)) (s:=[]) (by omega) (by simp) (fun k s k0 k1 hs=>by
     have m1:=hlo _ (AN k0 k1)
     have m2:=hle _ (AN k0 k1)
     have w1:AI ((AB (AZ t (AB kinds r)) k).High - (AB (AZ t (AB kinds r)) k).Low)=(AB (AZ t (AB kinds r)) k).High - (AB (AZ t (AB kinds r)) k).Low:=AW (by omega) (by omega)
     have w2:AI ((AB (AZ t (AB kinds r)) k).High - (AB (AZ t (AB kinds r)) k).Low+1)=(AB (AZ t (AB kinds r)) k).High - (AB (AZ t (AB kinds r)) k).Low+1:=AW (by omega) (by omega)
     obtain ⟨q,eq⟩:=GP (a:=AI ((AI (AB d.Nodes i).a1)+(AI (7*k)))) (b:=AI ((AI ((AB (AZ t (AB kinds r)) k).High - (AB (AZ t (AB kinds r)) k).Low))+1)) (by rw [w1,w2]; omega)
     refine ⟨s++[AI ((AB (AZ t (AB kinds r)) k).Low+q)],?_,by simp; omega⟩
     rw [AF k0 k1,bs,bs,bs,bs,eq,bs,BM (by simp; unfold BF; omega),bs])
   rw [e,bs,BM (by simp; unfold BF; omega),bs,BM (by simp; unfold BF; omega),bs,AW (n:=i+1) (by omega) (by omega)]
   exact ⟨_,rfl,by omega,by simp; omega,by simp; omega,a4⟩
  ·right
   rw [if_neg (by simpa using hc)]
 ·dsimp only
  refine Ja (fun j u=>(0<=j∧j<=10)∧u.Graph.Nodes=h.Graph.Nodes∧(u.Graph.Edges.length:Int)<=j) 10 ⟨by omega,rfl,by rw [a4]; simp⟩ (fun j u j0 ⟨b1,b2,b3⟩=>?_) (fun j u j0 ⟨b1,b2,b3⟩ _=>⟨u,rfl,trivial⟩)
  dsimp only
  by_cases hc:((j<d.Edges.length∧j<10)∧0<(h.Graph.Nodes.length:Int))∧0<(t.Edges.length:Int)
  ·left
   have hx:=hd.edges _ (AN b1.1 hc.1.1.1)
   obtain ⟨r,e1,c1,c2⟩:=HL (show 0<=AI (AB d.Edges j).a0 by rw [hx.1.w]; exact hx.1.1) hc.2
   obtain ⟨r1,e2,d1,d2⟩:=HL (show 0<=AI (AB d.Edges j).a1 by rw [hx.2.1.w]; exact hx.2.1.1) hc.1.2
   obtain ⟨r2,e3,f1,f2⟩:=HL (show 0<=AI (AB d.Edges j).a2 by rw [hx.2.2.w]; exact hx.2.2.1) hc.1.2
   refine ⟨by omega,?_⟩
   rw [if_pos (by simpa using hc),AF b1.1 hc.1.1.1,bs,e1,bs,bs,e2,bs,bs,e3,bs,AF d1 (by rw [b2]; exact d2),bs,AF f1 (by rw [b2]; exact f2),bs,Yh hf,bs,AW (n:=j+1) (by omega) (by omega)]
   split
   ·rw [BM (by simp; unfold BF; omega),bs]
    exact ⟨_,rfl,by omega,b2,by simp; omega⟩
   ·exact ⟨u,rfl,by omega,b2,by omega⟩
  ·right
   rw [if_neg (by simpa using hc)]
def SI (p:Graph):Morphism:=⟨List.replicate p.Nodes.length (-1),List.replicate p.Edges.length (-1)⟩
theorem VE {n:Nat} {i:Int} (h0:0<=i) (h1:i<n):CP (List.replicate i.toNat (-1:Int)++List.replicate (n - i.toNat) 0) i (-1)=List.replicate (i+1).toNat (-1)++List.replicate (n - (i+1).toNat) 0:=by
 unfold CP
 rw [List.set_append_right _ _ (by simp),show n - i.toNat=(n - (i+1).toNat)+1 by omega,List.replicate_succ,List.length_replicate,Nat.sub_self,List.set_cons_zero,show (i+1).toNat=i.toNat+1 by omega,List.replicate_succ',List.append_assoc]
 rfl
theorem Z5 {p:Graph} (h1:p.Nodes.length<=100) (h2:p.Edges.length<=100):L6 p=some (SI p):=by
 unfold L6
 have m1:J8 (p.Nodes.length:Int) (0:Int)=some (List.replicate p.Nodes.length 0):=by unfold J8; rw [if_pos (by omega),Int.toNat_natCast]
 have m2:J8 (p.Edges.length:Int) (0:Int)=some (List.replicate p.Edges.length 0):=by unfold J8; rw [if_pos (by omega),Int.toNat_natCast]
 rw [m1,bs,m2,bs]
 rw [Qu (fun i=>(⟨List.replicate i.toNat (-1)++List.replicate (p.Nodes.length - i.toNat) 0,List.replicate p.Edges.length 0⟩:Morphism)) (a:=0) (b:=p.Nodes.length) (by omega) (by simp),C4]
 ·dsimp only
  rw [Qu (fun i=>(⟨List.replicate p.Nodes.length (-1),List.replicate i.toNat (-1)++List.replicate (p.Edges.length - i.toNat) 0⟩:Morphism)) (a:=0) (b:=p.Edges.length) (by omega) (by simp),C4]
  ·simp [SI]
  ·intro i i0 i1
   dsimp only
   rw [if_pos (by simp; omega),AF i0 (by simp; omega),bs,VE i0 i1,AW (n:=i+1) (by omega) (by omega)]
  ·dsimp only
   rw [if_neg (by simp)]
 ·intro i i0 i1
  dsimp only
  rw [if_pos (by simp; omega),AF i0 (by simp; omega),bs,VE i0 i1,AW (n:=i+1) (by omega) (by omega)]
 ·dsimp only
  rw [if_neg (by simp)]
theorem X7 {t:Types} {p g:Graph} {m:Morphism} {inj:Bool} (h:Kn t p g m inj=0):Kn t p g m false=0:=by
 unfold Kn at h ⊢
 split at h
 ·rename_i k; exact absurd h k
 rename_i k
 rw [if_neg k]
 split at h
 ·rename_i k2; exact absurd h k2
 rename_i k2
 rw [if_neg k2]
 rfl
structure Kq (t:Types) (p:Pattern) (h:AY) (inj:Bool) (m:AL):Prop where
 chk:Kn t p.Graph h.Graph m.Morphism inj=0
 solve:If p h m.Morphism=(m.Vars,0)
theorem Yi {t:Types} (hf:BV t) (p:Pattern) (h:AY) (inj:Bool):∃ r,Jk t p h inj=some r∧(r.2=0->J9 t p h=0∧∀ m∈r.1,Kq t p h inj m):=by
 unfold Jk
 rw [Yk hf,bs]
 by_cases h0:J9 t p h=0
 case neg=>
  rw [if_pos (by simpa using h0)]
  exact ⟨_,rfl,fun e=>absurd e h0⟩
 rw [if_neg (by simpa using h0)]
 have hall:∃ r,My t p.Graph h.Graph inj=some r∧(r.2=0->r.1.length<=5000∧∀ m∈r.1,Kn t p.Graph h.Graph m inj=0):=by
  unfold My
  rw [Uz hf,bs]
  by_cases h1:GO t p.Graph h.Graph=0
  ·obtain ⟨_,g1,_,_,_⟩:=Pd h1
   have gn:=g1.nodes
   have ge:=g1.edges
   rw [if_neg (by simpa using h1),Z5 (by omega) (by omega),bs]
   obtain ⟨hv,hF⟩:=UM (inj:=inj) (pa:=SI p.Graph) h1 (by simp [SI]) (by simp [SI])
   rw [mc hv hF,bs]
   split
   ·exact ⟨_,rfl,fun e=>by cases e⟩
   ·rename_i h5
    rw [zzX] at h5
    exact ⟨_,rfl,fun _=>⟨by dsimp only; omega,fun m hm=>YK h1 hm⟩⟩
  ·rw [if_pos (by simpa using h1)]
   exact ⟨_,rfl,fun e=>absurd e h1⟩
 obtain ⟨r,er,hr⟩:=hall
 rw [er,bs]
 by_cases h2:r.2=0
 case neg=>
  rw [if_pos (by simpa using h2)]
  exact ⟨_,rfl,fun e=>absurd e h2⟩
 rw [if_neg (by simpa using h2)]
 obtain ⟨hl,hm⟩:=hr h2
 have hsol:∀ i:Int,0<=i->i<r.1.length->I9 p h (AB r.1 i)=some (If p h (AB r.1 i)):=fun i i0 i1=>by
  obtain ⟨hv,hq,hh,hmo⟩:=RJ hf h0 (hm _ (AN i0 i1))
  exact dG hq (fun s hs=>Oo (GF hv) hq hh hmo hs)
 rw [RC (F:=fun y=>((If p h y).1,decide ((If p h y).2=0))) hl,bs]
 ·refine ⟨_,rfl,fun _=>⟨h0,fun m hm'=>?_⟩⟩
  dsimp only at hm'
  rw [List.mem_map] at hm'
  obtain ⟨y,hy,rfl⟩:=hm'
  rw [List.mem_filter,zzX] at hy
  refine ⟨hm y hy.1,?_⟩
  dsimp only
  rw [←hy.2]
 ·intro i s i0 i1 hs
  rw [AF i0 i1,bs,hsol i i0 i1,bs]
  by_cases e:(If p h (AB r.1 i)).2=0
  ·rw [if_pos (by simpa using e),if_pos (by simpa using e),bs,BM (by simp; unfold BF; omega)]; rfl
  ·rw [if_neg (by simpa using e),if_neg (by simpa using e)]
theorem YS {t:Types} {p:Pattern} {c:AA} {h:AY} {inj:Bool} {m:AL} (h0:J9 t p h=0) (hl:Kq t p h inj m) (hc:E8 t p c=0):S3 t p c h m inj=0:=by
 have hh:(Mc t h).2=0:=by
  unfold J9 at h0
  split at h0
  ·rename_i k; exact absurd h0 k
  ·exact h0
 have hs:NS t p h m.Morphism=(m.Vars,0):=by
  unfold NS
  rw [if_neg (by simp [h0]),if_neg (by simp [X7 hl.chk]),hl.solve]
 unfold S3
 rw [if_neg (by simp [hc]),if_neg (by simp [hh]),if_neg (by simp [hl.chk]),if_neg (by rw [hs]; simp),if_pos (by rw [hs])]
end Go.Sf.Sc
namespace Go.Sf.Sc
open Go Go.Sf
theorem V6 {n:Nat} (h:n<=1000):∃ l,I6 n=some l∧l.length=n:=by
 unfold I6
 obtain ⟨l,e,hl⟩:=MP (f:=fun (i0:Int) (s0:List Int)=>(A3 s0 [i0]).bind fun x13=>some x13) (fun i (l:List Int)=>(l.length:Int)=i) (a:=0) (b:=n) (s:=[]) (by omega) rfl (fun i l i0 i1 hl=>⟨l++[i],by rw [BM (by simp; unfold BF; omega),bs],by simp; omega⟩)
 rw [e,bs]
 exact ⟨l,rfl,by omega⟩
theorem YJ {σ ρ:Type} {f:Int->σ->Option (B8 σ ρ)} {b:Int} {s:σ} {Q:σ->Prop} (h0:Q s) (h:0<b->∃ s',f 0 s=some (.brk s')∧Q s'):∃ s',forR f 0 b s=some (.inl s')∧Q s':=by
 by_cases hb:0<b
 ·obtain ⟨s',e,hq⟩:=h hb
  refine ⟨s',?_,hq⟩
  unfold forR
  obtain ⟨n,hn⟩:∃ n,(b - 0).toNat=n+1:=⟨(b - 0).toNat - 1,by omega⟩
  rw [hn,F4,e]
 ·refine ⟨s,?_,h0⟩
  unfold forR
  rw [show (b - 0).toNat=0 by omega]; rfl
structure Rm (p q:Pattern):Prop where
 nodes:q.Graph.Nodes.length<=p.Graph.Nodes.length+1
 edges:q.Graph.Edges.length<=p.Graph.Edges.length+1
 slots:q.Slots.length<=1
 tests:q.Tests.length<=1
 vars:0<=q.Vars∧q.Vars<=20
theorem dI {t:Types} (hf:BV t) (hv:(A7 t).2=0) {p:Pattern} (h1:p.Graph.Nodes.length<=30) (h2:p.Graph.Edges.length<=30) (h3:0<=p.Vars∧p.Vars<=20) {x y:Int} (hx:U8 x) (hy:U8 y):∃ q m,Jz t p x y=some (q,m)∧Rm p q∧m.Nodes.length<=30∧m.Edges.length<=30:=by
 have htp:=ZH hv
 have hte:=(GF hv).edges
 obtain ⟨l1,e1,k1⟩:=V6 (n:=p.Graph.Nodes.length) (by omega)
 obtain ⟨l2,e2,k2⟩:=V6 (n:=p.Graph.Edges.length) (by omega)
 unfold Jz Pt L0
 rw [e1,bs,e2,bs,bs,FZ (by unfold BF; omega),bs,FZ (by unfold BF; omega),bs,bs]
 obtain ⟨r3,e3⟩:=GP (a:=x) (show (3:Int)≠0 by omega)
 rw [e3,bs]
 have hw1:∃ w1:Pattern × Int,(if (decide (0<r3))=true then
   (quo x 4).bind fun x37=>
   (DJ (AI (IntKind.u8.wrap x37)) (t.Nodes.length:Int)).bind fun x42=>
   (A3 p.Graph.Nodes [x42]).bind fun x44=>
   some (Pattern.mk (Graph.mk x44 p.Graph.Edges) [] p.Vars [],AI ((p.Graph.Nodes.length:Int)+1))
   else
   some (Pattern.mk (Graph.mk p.Graph.Nodes p.Graph.Edges) [] p.Vars [],(p.Graph.Nodes.length:Int)))=some w1∧w1.2=w1.1.Graph.Nodes.length∧w1.1.Graph.Nodes.length<=p.Graph.Nodes.length+1∧w1.1.Graph.Edges=p.Graph.Edges∧w1.1.Slots=[]∧w1.1.Tests=[]∧w1.1.Vars=p.Vars:=by
  split
  ·obtain ⟨q,eq,_⟩:=Ol hx.1 (show (0:Int)<4 by omega)
   obtain ⟨r,er⟩:=GP (a:=AI (IntKind.u8.wrap q)) (b:=(t.Nodes.length:Int)) (by omega)
   rw [eq,bs,er,bs,BM (by simp; unfold BF; omega),bs,AW (by omega) (by omega)]
   exact ⟨_,rfl,by simp,by simp,rfl,rfl,rfl,rfl⟩
  ·exact ⟨_,rfl,rfl,by simp,rfl,rfl,rfl,rfl⟩
 obtain ⟨⟨w1,n1⟩,ew1,a1,a2,a3,a4,a5,a6⟩:=hw1
 rw [ew1,bs]
 dsimp only at a1 a2 a3 a4 a5 a6 ⊢
 subst a1
 obtain ⟨r4,e4⟩:=GP (a:=x) (show (4:Int)≠0 by omega)
 have hb:∃ b:Bool,(if (decide (0<(w1.Graph.Nodes.length:Int)))=true then ((DJ x 4).bind fun x53=>some (decide (0<x53))) else some false)=some b∧(b=true->0<(w1.Graph.Nodes.length:Int)):=by
  rw [e4,bs]
  split
  ·rename_i h; exact ⟨_,rfl,fun _=>by simpa using h⟩
  ·exact ⟨false,rfl,fun h=>by cases h⟩
 obtain ⟨b,eb,hbp⟩:=hb
 rw [eb,bs]
 have hw2:∃ w2:Pattern,(if b=true then
   thenR (forR (ρ:=Unit) (fun (i0:Int) (s0:Pattern)=>
   (DJ (AI (i0+(AI x))) (t.Edges.length:Int)).bind fun x70=>
   (DJ (AI y) (w1.Graph.Nodes.length:Int)).bind fun x74=>
   (DJ y 2).bind fun x79=>
   if (decide (x79=1))=true then
   (A3 s0.Graph.Edges [B6.mk x70 (AI ((w1.Graph.Nodes.length:Int) - 1)) x74]).bind fun x92=>
   some (.brk (Pattern.mk (Graph.mk s0.Graph.Nodes x92) s0.Slots s0.Vars s0.Tests))
   else
   (A3 s0.Graph.Edges [B6.mk x70 x74 (AI ((w1.Graph.Nodes.length:Int) - 1))]).bind fun x92=>
   some (.brk (Pattern.mk (Graph.mk s0.Graph.Nodes x92) s0.Slots s0.Vars s0.Tests))) 0 (t.Edges.length:Int) w1) (fun s0=>
   some s0) (fun _=>none)
   else
   some w1)=some w2∧w2.Graph.Nodes=w1.Graph.Nodes∧w2.Graph.Edges.length<=p.Graph.Edges.length+1∧w2.Slots=[]∧w2.Tests=[]∧w2.Vars=p.Vars:=by
  cases b
  ·exact ⟨w1,rfl,rfl,by rw [a3]; omega,a4,a5,a6⟩
  ·rw [if_pos rfl]
   have hp:=hbp rfl
   obtain ⟨s',es,hs⟩:=YJ (ρ:=Unit) (f:=fun (i0:Int) (s0:Pattern)=>
    (DJ (AI (i0+(AI x))) (t.Edges.length:Int)).bind fun x70=>
    (DJ (AI y) (w1.Graph.Nodes.length:Int)).bind fun x74=>
    (DJ y 2).bind fun x79=>
    if (decide (x79=1))=true then
    (A3 s0.Graph.Edges [B6.mk x70 (AI ((w1.Graph.Nodes.length:Int) - 1)) x74]).bind fun x92=>
    some (.brk (Pattern.mk (Graph.mk s0.Graph.Nodes x92) s0.Slots s0.Vars s0.Tests))
    else
    (A3 s0.Graph.Edges [B6.mk x70 x74 (AI ((w1.Graph.Nodes.length:Int) - 1))]).bind fun x92=>
    some (.brk (Pattern.mk (Graph.mk s0.Graph.Nodes x92) s0.Slots s0.Vars s0.Tests))) (b:=t.Edges.length) (s:=w1) (Q:=fun w2=>w2.Graph.Nodes=w1.Graph.Nodes∧w2.Graph.Edges.length<=p.Graph.Edges.length+1∧w2.Slots=[]∧w2.Tests=[]∧w2.Vars=p.Vars) ⟨rfl,by rw [a3]; omega,a4,a5,a6⟩ (fun hE=>by
     obtain ⟨r5,e5⟩:=GP (a:=AI (0+(AI x))) (b:=(t.Edges.length:Int)) (by omega)
     obtain ⟨r6,e6⟩:=GP (a:=AI y) (b:=(w1.Graph.Nodes.length:Int)) (by omega)
     obtain ⟨r7,e7⟩:=GP (a:=y) (b:=(2:Int)) (by omega)
     rw [e5,bs,e6,bs,e7,bs]
     have hap:∀ e:B6,A3 w1.Graph.Edges [e]=some (w1.Graph.Edges++[e]):=fun e=>BM (by rw [a3]; simp; unfold BF; omega)
     simp only [hap,bs]
     split
     ·exact ⟨_,rfl,rfl,by simp [a3],a4,a5,a6⟩
     ·exact ⟨_,rfl,rfl,by simp [a3],a4,a5,a6⟩)
   rw [es,C4]
   exact ⟨s',rfl,hs⟩
 obtain ⟨w2,ew2,b1,b2,b3,b4,b5⟩:=hw2
 rw [ew2,bs]
 have hw3:∀ X:Option Pattern,(∃ q,X=some q∧Rm p q)->∃ q m,(X.bind fun w3=>some (w3,Morphism.mk l1 l2))=some (q,m)∧Rm p q∧m.Nodes.length<=30∧m.Edges.length<=30:=by
  rintro X ⟨q,rfl,hq⟩
  exact ⟨q,_,rfl,hq,by simp only; omega,by simp only; omega⟩
 refine hw3 _ ?_
 have wid:Rm p w2:=⟨by rw [b1]; exact a2,b2,by rw [b3]; simp,by rw [b4]; simp,by rw [b5]; exact h3⟩
 by_cases hc:0<(w1.Graph.Nodes.length:Int)∧w2.Vars<6
 ·rw [if_pos (by simpa using hc),AW (n:=(w1.Graph.Nodes.length:Int) - 1) (by omega) (by omega),AF (by omega) (by rw [b1]; omega),bs]
  have hcd:∀ n:Int,∃ b:Bool,(if (decide (n<(t.Nodes.length:Int)))=true then ((FU t (Pattern.mk w2.Graph [CT.mk ((w1.Graph.Nodes.length:Int) - 1) 0 (Term.mk 0 0)] 1 [])).bind fun x124=>some (decide (x124=0))) else some false)=some b:=by
   intro n
   rw [SO hf,bs]
   split
   ·exact ⟨_,rfl⟩
   ·exact ⟨_,rfl⟩
  obtain ⟨c,ec⟩:=hcd (AB w2.Graph.Nodes ((w1.Graph.Nodes.length:Int) - 1))
  rw [ec,bs]
  cases c
  ·rw [if_neg (by decide)]; exact ⟨w2,rfl,wid⟩
  ·rw [if_pos rfl]
   obtain ⟨r8,e8⟩:=GP (a:=y) (b:=(3:Int)) (by omega)
   obtain ⟨q1,f1,_⟩:=Ol hx.1 (show (0:Int)<64 by omega)
   obtain ⟨q2,f2,_⟩:=Ol hy.1 (show (0:Int)<8 by omega)
   obtain ⟨r9,e9⟩:=GP (a:=AI (IntKind.u8.wrap q1)) (b:=(2:Int)) (by omega)
   obtain ⟨r10,e10⟩:=GP (a:=AI (IntKind.u8.wrap q2)) (b:=(9:Int)) (by omega)
   rw [e8,bs,b3,FZ (by simp; unfold BF; omega),bs,AW (n:=w2.Vars+1) (by omega) (by omega)]
   have n1:Rm p (Pattern.mk w2.Graph [CT.mk ((w1.Graph.Nodes.length:Int) - 1) 0 (Term.mk w2.Vars (AI r8))] (w2.Vars+1) w2.Tests):=⟨wid.nodes,wid.edges,by simp,wid.tests,by simp only; omega,by simp only; omega⟩
   split
   ·rw [f1,bs,e9,bs,f2,bs,e10,bs,b4,FZ (by simp; unfold BF; omega),bs]
    exact ⟨_,rfl,wid.nodes,wid.edges,by simp,by simp,by simp only; omega,by simp only; omega⟩
   ·exact ⟨_,rfl,n1⟩
 ·rw [if_neg (by simpa using hc)]
  exact ⟨w2,rfl,wid⟩
end Go.Sf.Sc
namespace Go.Sf.Sc
open Go Go.Sf
theorem TM {t:Types} {p:Pattern} {depth:Int} {N:Nat} (ih:∀ codes:List Int,codes.length<=N->(∀ x∈codes,U8 x)->∃ c rest,(∀ n,N+1<=n->C3 n t p codes depth=some (c,rest))∧C5 c∧cnt c+rest.length<=1+codes.length∧∀ x∈rest,U8 x) :
  ∀ (k:Nat) (i:Int) (codes:List Int) (c0:AA),codes.length<=N->(∀ x∈codes,U8 x)->c0.Kids.length+k<=1000->∃ ks rest,(∀ n,N+1<=n->forAGo (fun (i1:Int) (s1:List Int × AA)=>
   (C3 n t p s1.1 depth).bind fun x107=>
   (A3 s1.2.Kids [x107.1]).bind fun x114=>
   some (x107.2,AA.mk s1.2.Kind x114 s1.2.Map s1.2.Pattern)) k i (codes,c0)=some (rest,⟨c0.Kind,c0.Kids++ks,c0.Map,c0.Pattern⟩))∧(∀ x∈ks,C5 x)∧HN ks+rest.length<=k+codes.length∧∀ x∈rest,U8 x
 | 0,i,codes,c0,_,hu,_=>⟨[],codes,(fun n hn=>by cases c0; simp [forAGo]),(fun x hx=>by cases hx),(by simp [HN]),hu⟩
 | k+1,i,codes,c0,hl,hu,hk=>by
  obtain ⟨c,rest,h1,h2,h3,h4⟩:=ih codes hl hu
  have hc:=Lh c
  obtain ⟨ks,rest2,g1,g2,g3,g4⟩:=TM ih k (i+1) rest ⟨c0.Kind,c0.Kids++[c],c0.Map,c0.Pattern⟩ (by omega) h4 (by simp; omega)
  refine ⟨c::ks,rest2,fun n hn=>?_,fun x hx=>?_,?_,g4⟩
  ·have:=g1 n hn
   rw [forAGo,h1 n hn,bs,BM (by simp; unfold BF; omega),bs]
   simp only [List.append_assoc,List.cons_append,List.nil_append] at this ⊢
   exact this
  ·rcases List.mem_cons.1 hx with rfl | hx
   ·exact h2
   ·exact g2 x hx
  ·rw [HN]; omega
theorem YR {x:Int}:∃ kd:Int,(1<=kd∧kd<=5)∧((if (decide (x=1))=true then
  some (decide (x=1))
  else
  some (decide (x=2))).bind fun w1=>
  (if w1=true then
  some (AA.mk 2 [] (Morphism.mk [] []) (Pattern.mk (Graph.mk [] []) [] 0 []))
  else
  if (decide (x=3))=true then
  some (AA.mk 3 [] (Morphism.mk [] []) (Pattern.mk (Graph.mk [] []) [] 0 []))
  else
  if (decide (x=4))=true then
  some (AA.mk 4 [] (Morphism.mk [] []) (Pattern.mk (Graph.mk [] []) [] 0 []))
  else
  if (decide (x=5))=true then
  if (decide (x=5))=true then
  some (AA.mk 5 [] (Morphism.mk [] []) (Pattern.mk (Graph.mk [] []) [] 0 []))
  else
  some (AA.mk 1 [] (Morphism.mk [] []) (Pattern.mk (Graph.mk [] []) [] 0 []))
  else
  if (decide (x=6))=true then
  if (decide (x=6))=true then
  some (AA.mk 5 [] (Morphism.mk [] []) (Pattern.mk (Graph.mk [] []) [] 0 []))
  else
  some (AA.mk 1 [] (Morphism.mk [] []) (Pattern.mk (Graph.mk [] []) [] 0 []))
  else
  if (decide (x=7))=true then
  some (AA.mk 5 [] (Morphism.mk [] []) (Pattern.mk (Graph.mk [] []) [] 0 []))
  else
  some (AA.mk 1 [] (Morphism.mk [] []) (Pattern.mk (Graph.mk [] []) [] 0 []))))=some ⟨kd,[],⟨[],[]⟩,⟨⟨[],[]⟩,[],0,[]⟩⟩:=by
 by_cases h1:x=1
 ·exact ⟨2,by omega,by simp [h1]⟩
 by_cases h2:x=2
 ·exact ⟨2,by omega,by simp [h2]⟩
 by_cases h3:x=3
 ·exact ⟨3,by omega,by simp [h3]⟩
 by_cases h4:x=4
 ·exact ⟨4,by omega,by simp [h4]⟩
 by_cases h5:x=5
 ·exact ⟨5,by omega,by simp [h5]⟩
 by_cases h6:x=6
 ·exact ⟨5,by omega,by simp [h6]⟩
 by_cases h7:x=7
 ·exact ⟨5,by omega,by simp [h7]⟩
 ·exact ⟨1,by omega,by simp [h1,h2,h3,h4,h5,h6,h7]⟩
theorem Zr {a b kd:Int} (ha:0<=a∧a<2) (hb:0<=b∧b<2) (hk:1<=kd∧kd<=5):∃ k:Nat,k<=2∧AH [0,0,1,AI (1+a),AI (1+b),1] kd=some (k:Int):=by
 rw [AW (n:=1+a) (by omega) (by omega),AW (n:=1+b) (by omega) (by omega),AF (by omega) (by simp; omega)]
 have:kd=1∨kd=2∨kd=3∨kd=4∨kd=5:=by omega
 rcases this with rfl | rfl | rfl | rfl | rfl
 ·exact ⟨0,by omega,rfl⟩
 ·exact ⟨1,by omega,rfl⟩
 ·refine ⟨(1+a).toNat,by omega,?_⟩
  rw [Int.toNat_of_nonneg (by omega)]; rfl
 ·refine ⟨(1+b).toNat,by omega,?_⟩
  rw [Int.toNat_of_nonneg (by omega)]; rfl
 ·exact ⟨1,by omega,rfl⟩
structure ng (p:Pattern) (depth:Int):Prop where
 d:0<=depth∧depth<=2
 nodes:(p.Graph.Nodes.length:Int)+depth<=20
 edges:(p.Graph.Edges.length:Int)+depth<=20
 vars:0<=p.Vars∧p.Vars<=20
theorem dA {t:Types} (hf:BV t) (hv:(A7 t).2=0):∀ (N:Nat) (codes:List Int) (p:Pattern) (depth:Int),codes.length<=N->(∀ x∈codes,U8 x)->ng p depth->∃ c rest,(∀ n,N+1<=n->C3 n t p codes depth=some (c,rest))∧C5 c∧cnt c+rest.length<=1+codes.length∧∀ x∈rest,U8 x:=by
 intro N
 induction N with
 | zero=>
  intro codes p depth hl hu hw
  refine ⟨LJ,[],fun n hn=>?_,Sw,by rw [Se]; simp,(fun x hx=>by cases hx)⟩
  obtain ⟨n,rfl⟩:∃ k,n=k+1:=⟨n - 1,by omega⟩
  rw [C3,if_pos (by simp; omega),U0,bs]
 | succ N ih=>
  intro codes p depth hl hu hw
  by_cases h3:codes.length<3
  ·refine ⟨LJ,[],fun n hn=>?_,Sw,by rw [Se]; simp,(fun x hx=>by cases hx)⟩
   obtain ⟨n,rfl⟩:∃ k,n=k+1:=⟨n - 1,by omega⟩
   rw [C3,if_pos (by simp; omega),U0,bs]
  have hx1:=hu _ (AN (l:=codes) (i:=1) (by omega) (by omega))
  have hx2:=hu _ (AN (l:=codes) (i:=2) (by omega) (by omega))
  obtain ⟨r,er⟩:=GP (a:=AB codes 0) (show (8:Int)≠0 by omega)
  obtain ⟨kd,hkd,ekd⟩:=YR (x:=r)
  obtain ⟨a,ea,ha⟩:=HL (show 0<=AI (AB codes 1) by rw [hx1.w]; exact hx1.1) (show (0:Int)<2 by omega)
  obtain ⟨k,hk2,ek⟩:=Zr ha ha hkd
  have hd:(codes.drop 3).length+3=codes.length:=by simp; omega
  have hud:∀ x∈codes.drop 3,U8 x:=fun x hx=>hu x (List.mem_of_mem_drop hx)
  have hdw:=hw.d
  have hnw:=hw.nodes
  have hew:=hw.edges
  have UV:∀ (n:Nat) (X:Option (AA × List Int)),N+1+1<=n->(∀ m,N+1<=m->(if (decide (kd=5))=true then
    if ((decide (depth=0))||(decide (4<(AI ((p.Graph.Nodes.length:Int)+(p.Graph.Edges.length:Int))))))=true then
    (Kd).bind fun x82=>
    some (x82,codes.drop 3)
    else
    (Jz t p (AB codes 1) (AB codes 2)).bind fun x89=>
    (forA (fun (i1:Int) (s1:List Int × AA)=>
    (C3 m t x89.1 s1.1 (AI (depth - 1))).bind fun x107=>
    (A3 s1.2.Kids [x107.1]).bind fun x114=>
    some (x107.2,AA.mk s1.2.Kind x114 s1.2.Map s1.2.Pattern)) 0 (k:Int) (codes.drop 3,AA.mk kd [] x89.2 x89.1)).bind fun s1=>
    some (s1.2,s1.1)
    else
    (forA (fun (i1:Int) (s1:List Int × AA)=>
    (C3 m t p s1.1 depth).bind fun x107=>
    (A3 s1.2.Kids [x107.1]).bind fun x114=>
    some (x107.2,AA.mk s1.2.Kind x114 s1.2.Map s1.2.Pattern)) 0 (k:Int) (codes.drop 3,AA.mk kd [] ⟨[],[]⟩ ⟨⟨[],[]⟩,[],0,[]⟩)).bind fun s1=>
    some (s1.2,s1.1))=X)->C3 n t p codes depth=X:=by
   intro n X hn h
   obtain ⟨m,rfl⟩:∃ m,n=m+1:=⟨n - 1,by omega⟩
   rw [C3,if_neg (by simp; omega),AF (by omega) (by omega),bs,AF (by omega) (by omega),bs,aN (by omega) (by omega),bs,AF (by omega) (by omega),bs,er,bs]
   have e2:=ekd
   rw [←h m (by omega)]
   generalize hW:(if (decide (r=1))=true then some (decide (r=1)) else some (decide (r=2)):Option Bool)=W at e2 ⊢
   cases W with
   | none=>cases e2
   | some w1=>
    rw [bs] at e2 ⊢
    rw [e2,bs,ea,bs,bs,ek,bs]
    rfl
  have kids:∀ (q:Pattern) (dq:Int) (mp:Morphism) (pt:Pattern),ng q dq->Wo mp->QG pt->∃ c rest,(∀ m,N+1<=m->((forA (fun (i1:Int) (s1:List Int × AA)=>
    (C3 m t q s1.1 dq).bind fun x107=>
    (A3 s1.2.Kids [x107.1]).bind fun x114=>
    some (x107.2,AA.mk s1.2.Kind x114 s1.2.Map s1.2.Pattern)) 0 (k:Int) (codes.drop 3,AA.mk kd [] mp pt)).bind fun s1=>
    some (s1.2,s1.1))=some (c,rest))∧C5 c∧cnt c+rest.length<=1+codes.length∧∀ x∈rest,U8 x:=by
   intro q dq mp pt hq hm hp
   obtain ⟨ks,rest,g1,g2,g3,g4⟩:=TM (t:=t) (p:=q) (depth:=dq) (N:=N) (fun cs hcs hucs=>ih cs q dq hcs hucs hq) k 0 (codes.drop 3) (AA.mk kd [] mp pt) (by omega) hud (by simp only [List.length_nil]; omega)
   refine ⟨⟨kd,ks,mp,pt⟩,rest,fun m hm'=>?_,.mk _ hp hm g2,?_,g4⟩
   ·have:=g1 m hm'
    unfold forA
    rw [show ((k:Int) - 0).toNat=k by omega,this,bs]
    rfl
   ·rw [Lh]
    simp only
    omega
  by_cases h5:kd=5
  ·by_cases hb:depth=0∨4<AI ((p.Graph.Nodes.length:Int)+(p.Graph.Edges.length:Int))
   ·refine ⟨LJ,codes.drop 3,fun n hn=>UV n _ hn fun m _=>?_,Sw,by rw [Se]; omega,hud⟩
    rw [if_pos (by simpa using h5),if_pos (by simpa using hb),U0,bs]
   ·obtain ⟨q,mp,eq,wq,wm1,wm2⟩:=dI hf hv (p:=p) (by omega) (by omega) hw.vars hx1 hx2
    have qn:=wq.nodes
    have qe:=wq.edges
    have hdn:¬ depth=0:=fun e=>hb (.inl e)
    obtain ⟨c,rest,k1,k2,k3,k4⟩:=kids q (depth - 1) mp q ⟨by omega,by omega,by omega,wq.vars⟩ ⟨by omega,by omega⟩ ⟨by omega,by omega,by have:=wq.slots; omega,by have:=wq.tests; omega⟩
    refine ⟨c,rest,fun n hn=>UV n _ hn fun m hm=>?_,k2,k3,k4⟩
    rw [if_pos (by simpa using h5),if_neg (by simpa using hb),eq,bs,AW (n:=depth - 1) (by omega) (by omega)]
    exact k1 m hm
  ·obtain ⟨c,rest,k1,k2,k3,k4⟩:=kids p depth ⟨[],[]⟩ ⟨⟨[],[]⟩,[],0,[]⟩ hw ⟨Nat.zero_le _,Nat.zero_le _⟩ ⟨Nat.zero_le _,Nat.zero_le _,Nat.zero_le _,Nat.zero_le _⟩
   refine ⟨c,rest,fun n hn=>UV n _ hn fun m hm=>?_,k2,k3,k4⟩
   rw [if_neg (by simpa using h5)]
   exact k1 m hm
theorem Uu {t:Types} (hf:BV t) (hv:(A7 t).2=0) {p:Pattern} (h1:p.Graph.Nodes.length<=10) (h2:p.Graph.Edges.length<=10) (h3:0<=p.Vars∧p.Vars<=20) {codes:List Int} (hu:∀ x∈codes,U8 x):∃ c,Kc t p codes=some c∧C5 c∧cnt c<=20:=by
 unfold Kc
 rw [It (by omega) (by omega),bs]
 have hl:(codes.take (min (codes.length:Int) 15).toNat).length<=15:=by rw [List.length_take]; omega
 obtain ⟨c,rest,e,k1,k2,_⟩:=dA hf hv 15 (codes.take (min (codes.length:Int) 15).toNat) p 2 hl (fun x hx=>hu x (List.mem_of_mem_take hx)) ⟨by omega,by omega,by omega,h3⟩
 rw [show Pv t p (codes.take (min (codes.length:Int) 15).toNat) 2=some (c,rest) from FK 16 fun n hn=>e n hn,bs]
 exact ⟨c,rfl,k1,by omega⟩
end Go.Sf.Sc
namespace Go.Sf.Sc
open Go Go.Sf
theorem Ke {α:Type} {e:α->TV} {n:Nat} {l:List α} (h:l.length<=1000) (hx:∀ x∈l,(e x).Sm):TV.Sm (eL n e l):=by
 show TV.Sm (.list n (l.map e))
 simp only [TV.Sm,List.length_map]
 refine ⟨by unfold reachBytes; omega,Oq.2 fun t ht=>?_⟩
 obtain ⟨x,hm,rfl⟩:=List.mem_map.1 ht
 exact hx x hm
theorem Sv {l:List Int} (h:l.length<=1000):TV.Sm (eL 1 eI l):=Ke h fun _ _=>trivial
theorem SU {s:ByteArray} (h:(s.size:Int)<=1000):TV.Sm (eS s):=by
 show TV.Sm (.str s)
 simp only [TV.Sm]
 unfold reachBytes; omega
theorem aP {t:Types} (h:BV t):(AU t).Sm:=by
 have h1:=h.nodes
 have h2:=h.edges
 refine ⟨Ke (by omega) fun n hn=>?_,Ke (by omega) fun e he=>?_,trivial⟩
 ·have:=h.name n hn
  have:=h.attrs n hn
  refine ⟨SU (by omega),trivial,trivial,Ke (by omega) fun a ha=>?_,trivial⟩
  have ha:=h.each n hn a ha
  have:=ha.name
  have:=ha.names
  exact ⟨SU (by omega),trivial,trivial,Ke (by omega) fun x hx=>SU (by have:=ha.each x hx; omega),trivial⟩
 ·have:=h.ename e he
  exact ⟨SU (by omega),trivial,trivial,trivial,trivial,trivial,trivial,trivial⟩
theorem WY:∀ (N:Nat) (c:AA),SizeOf.sizeOf c<=N->C5 c->cnt c<=1000->(AJ c).Sm
 | 0,c,h,_,_=>by have:=DI c; omega
 | N+1,c,h,hf,hn=>by
  have q1:=hf.q.nodes
  have q2:=hf.q.edges
  have q3:=hf.q.slots
  have q4:=hf.q.tests
  have m1:=hf.m.nodes
  have m2:=hf.m.edges
  have hc:=Lh c
  have hl:=QS c.Kids
  refine ⟨trivial,?_,Sv (by omega),Sv (by omega),Sv (by omega),Ke (by omega) fun _ _=>⟨trivial,trivial,trivial,trivial⟩,Ke (by omega) fun _ _=>⟨trivial,trivial,trivial,trivial,trivial⟩,trivial,Ke (by omega) fun _ _=>⟨trivial,trivial,trivial,trivial,trivial,trivial⟩,trivial⟩
  rw [Lj]
  refine Ke (n:=9) (by omega) fun k hk=>?_
  have:=D3 hk
  have:=RQ hk
  exact WY N k (by omega) (hf.k k hk) (by omega)
structure T3 (p:Pattern) (c:AA) (h:AY):Prop where
 few:C5 c
 cnt:cnt c<=40
 q:QG p
 bound:Kt 14 18 (SizeOf.sizeOf c) p c=true
 narrow:KZ (SizeOf.sizeOf c) c=true
 nodes:h.Graph.Nodes.length<=6
 edges:h.Graph.Edges.length<=8
theorem Ue {t:Types} (hf:BV t) {p:Pattern} {c:AA} (hc:C5 c) (hk:cnt c<=1000) (he:E8 t p c=0) (h:AY):∃ b,Is t p c h=some b∧(b=true->T3 p c h):=by
 obtain ⟨b1,e1,f1⟩:=YF (WY _ c (Nat.le_refl _) hc hk)
 obtain ⟨b2,e2,f2⟩:=V4 p
 obtain ⟨b3,e3⟩:=Zb h
 unfold Is
 rw [e1,bs]
 cases b1
 ·exact ⟨false,rfl,fun h=>by cases h⟩
 rw [e2]
 cases b2
 ·exact ⟨false,rfl,fun h=>by cases h⟩
 rw [e3]
 cases b3
 ·exact ⟨false,rfl,fun h=>by cases h⟩
 have hc':=f1 rfl
 have hp:=f2 rfl
 simp only [bs,Bool.not_true,Bool.false_eq_true,if_false]
 rw [Ux hf p hc,bs,if_neg (by simp [he])]
 obtain ⟨b4,e4⟩:=Yl hf (aP hf) p.Graph h.Graph
 unfold Mm
 rw [e2,e3,e4,Z4,Yj 14 18 hc hp]
 simp only [bs,if_true]
 cases b4
 ·simp only [Bool.false_eq_true,if_false,bs,Bool.false_and]
  exact ⟨_,rfl,fun h=>by cases h⟩
 simp only [if_true,bs]
 split
 ·rename_i hcond
  rw [bs,bs]
  refine ⟨_,rfl,fun hb=>?_⟩
  rw [zzZ,zzZ,zzX,zzX] at hcond
  exact ⟨hc,hc'.2,hp,hb,hcond.1.1,by omega,by omega⟩
 ·exact ⟨_,rfl,fun h=>by cases h⟩
end Go.Sf.Sc
namespace Go.Sf.Sc
open Go Go.Sf
structure Xs (d:GY):Prop where
 types:∀ x∈d.Types,U2 x
 ends : ∀ x ∈ d.Ends, U2 x
 pat:Xu d.P
 first:∀ x∈d.C,U8 x
 second:∀ x∈d.D,U8 x
 host:Xq d.H
theorem Kh {α:Type} {e:α->TV} {n:Nat} {l:List α} (h:TV.WF (eL n e l)):∀ x∈l,(e x).WF:=by
 have h':TV.WF (.list n (l.map e)):=h
 simp only [TV.WF] at h'
 intro x hx
 have key:∀ {ts:List TV},TV.WFs ts->∀ t∈ts,t.WF:=by
  intro ts
  induction ts with
  | nil=>intro _ t ht; cases ht
  | cons a l ih=>
   intro hw t ht
   rcases List.mem_cons.1 ht with rfl | ht
   ·exact hw.1
   ·exact ih hw.2 t ht
 exact key h'.2 _ (List.mem_map.2 ⟨x,hx,rfl⟩)
theorem ON {x:Int} (h:(G4 x).WF):U8 x:=by
 have h':IntKind.u8.min<=x∧x<=IntKind.u8.max:=h
 have e1:IntKind.u8.min=0:=by decide
 have e2:IntKind.u8.max=255:=by decide
 rw [e1,e2] at h'
 exact ⟨h'.1,by omega⟩
theorem Xj {x:II} (h:(JP x).WF):U2 x:=⟨ON h.1,ON h.2.1⟩
theorem Xk {x:MH} (h:(Io x).WF):U3 x:=⟨ON h.1,ON h.2.1,ON h.2.2.1⟩
theorem bB {d:GY} (h:(I4 d).WF):Xs d:=by
 have h':TV.WFs [_,_,_,_,_,_,_,_,_,_]:=h
 obtain ⟨h1,h2,h3,h4,h5,_,h7,h8,h9,h10,_⟩:=h'
 exact ⟨fun x hx=>Xj (Kh h1 x hx),fun x hx=>Xj (Kh h2 x hx),⟨⟨fun x hx=>ON (Kh h3 x hx),fun x hx=>Xk (Kh h4 x hx)⟩,fun x hx=>Xk (Kh h5 x hx)⟩,
  fun x hx=>ON (Kh h7 x hx),fun x hx=>ON (Kh h8 x hx),⟨fun x hx=>Xj (Kh h9 x hx),fun x hx=>Xk (Kh h10 x hx)⟩⟩
structure gj (t:Types) (p:Pattern) (c:AA) (h:AY) (l:List AL) (inj:Bool):Prop where
 few:BV t
 hv:(A7 t).2=0
 pat:bF p
 cond:E8 t p c=0
 ph:J9 t p h=0
 each:∀ m∈l,Kq t p h inj m
 len:l.length<=30
 light:T3 p c h
theorem Yf {t:Types} {p:Pattern} (h:IH t p=0):(A7 t).2=0:=by
 unfold IH at h
 split at h
 ·rename_i k; exact absurd h k
 ·rename_i k; exact Classical.not_not.1 k
theorem dB {d:GY} (hd:Xs d) (inj:Bool):∃ t x h l ok,Lr d inj=some (t,x,h,l,ok)∧(ok=true->gj t x.P x.C h l inj):=by
 obtain ⟨t,et,ht⟩:=Z0 hd.types hd.ends
 obtain ⟨p,ep,hp⟩:=Z3 ht hd.pat
 have hf:=ht.few
 have pn:=hp.nodes
 have pe:=hp.edges
 unfold Lr
 rw [et,bs,ep,bs,SO hf,bs]
 by_cases h1:3<AI ((p.Graph.Nodes.length:Int)+p.Graph.Edges.length)
 ·rw [if_pos (by simpa using h1),bs,if_pos rfl]
  exact ⟨_,_,_,_,_,rfl,fun h=>by cases h⟩
 rw [if_neg (by simpa using h1),bs]
 by_cases h2:IH t p=0
 case neg=>
  rw [if_pos (by simpa using h2)]
  exact ⟨_,_,_,_,_,rfl,fun h=>by cases h⟩
 rw [if_neg (by simpa using h2)]
 have hv:=Yf h2
 obtain ⟨c,ec,hc,hk⟩:=Uu hf hv (p:=p) (by omega) (by omega) ⟨hp.vars.1,by have:=hp.vars.2; omega⟩ hd.first
 rw [ec,bs,It (by omega) (by omega),bs,It (by omega) (by omega),bs]
 obtain ⟨h,eh,_⟩:=Z1 hf hv (d:=⟨d.H.Nodes.take (min (d.H.Nodes.length:Int) 5).toNat,d.H.Edges.take (min (d.H.Edges.length:Int) 6).toNat⟩) ⟨fun x hx=>hd.host.nodes x (List.mem_of_mem_take hx),fun x hx=>hd.host.edges x (List.mem_of_mem_take hx)⟩
 obtain ⟨r,er,hr⟩:=Yi hf p h inj
 rw [eh,bs,er,bs,Ux hf p hc,bs]
 by_cases h3:r.2=0∧(r.1.length:Int)<=30
 case neg=>
  rw [if_neg (by simpa using h3),bs,if_neg (by decide),bs]
  exact ⟨_,_,_,_,_,rfl,fun h=>by cases h⟩
 rw [if_pos (by simpa using h3),bs]
 obtain ⟨k1,k2⟩:=hr h3.1
 by_cases h4:E8 t p c=0
 case neg=>
  rw [if_neg (by simpa using h4),bs]
  exact ⟨_,_,_,_,_,rfl,fun h=>by cases h⟩
 rw [if_pos (by simpa using h4)]
 obtain ⟨b,eb,hb⟩:=Ue hf hc (by omega) h4 h
 rw [eb,bs,bs]
 exact ⟨_,_,_,_,_,rfl,fun hb'=>⟨hf,hv,hp,h4,k1,k2,by have:=h3.2; omega,hb hb'⟩⟩
theorem S4 {t:Types} {p:Pattern} {c:AA} (h:E8 t p c=0):IH t p=0∧Ie c=0∧GN (SizeOf.sizeOf c) t p c=0:=by
 unfold E8 at h
 split at h
 ·rename_i k; exact absurd h k
 rename_i k1
 split at h
 ·rename_i k; exact absurd h k
 rename_i k2
 exact ⟨Classical.not_not.1 k1,Classical.not_not.1 k2,h⟩
theorem QT {t:Types} {p:Pattern} {c:AA} (h1:IH t p=0) (h2:Ie c=0) (h3:CG t p c):E8 t p c=0:=by
 unfold E8
 rw [if_neg (by simp [h1]),if_neg (by simp [h2]),WK _ h3]
theorem Ud {t:Types} {p:Pattern} {c:AA} {h:AY} (hl:T3 p c h) (he:E8 t p c=0):CG t p c:=
 bK _ (Nat.le_refl _) (fun M hM=>by rw [hM]; exact (S4 he).2.2) hl.bound hl.narrow hl.few
theorem dc {t:Types} (hf:BV t) {p:Pattern} {c:AA} {h:AY} {m:AL} {inj:Bool} (h0:J9 t p h=0) (hm:Kq t p h inj m) (n1:h.Graph.Nodes.length<=14) (n2:h.Graph.Edges.length<=18) (he:E8 t p c=0) (hg:CG t p c) (hc:C5 c) (hk:cnt c<=40) :
  BU t p c h m inj=some (den t h inj c m,0):=by
 have hcg:=YS h0 hm he
 obtain ⟨hv,hh,hcv,ha⟩:=bL hf hk hcg
 have hw:=Wl (inj:=inj) hv hh n1 n2 _ c p m (Nat.le_refl _) hcv hg ha
 rw [Vk hf p hc hk]
 unfold aJ wS
 simp only [hcg,ne_eq,not_true_eq_false,if_false,hw]
 cases den t h inj c m <;> rfl
end Go.Sf.Sc
namespace Go.Sf.Sc
open Go Go.Sf
theorem VR:∀ (N M:Nat) (c:AA),Km M c=true->SizeOf.sizeOf c<=N->Km N c=true
 | 0,_,c,_,h=>by have:=DI c; omega
 | N+1,0,c,h,_=>by cases h
 | N+1,M+1,c,h,hs=>by
  rw [Km,zzZ,List.all_eq_true] at h ⊢
  exact ⟨h.1,fun k hk=>VR N M k (h.2 k hk) (by have:=D3 hk; omega)⟩
def GK (kd:Int) (a b:AA):AA:=⟨kd,[a,b],⟨[],[]⟩,⟨⟨[],[]⟩,[],0,[]⟩⟩
def H7 (a:AA):AA:=⟨2,[a],⟨[],[]⟩,⟨⟨[],[]⟩,[],0,[]⟩⟩
theorem MK (kd:Int) (a b:AA):cnt (GK kd a b)=1+cnt a+cnt b:=by simp [GK,cnt,HN]; omega
theorem Sg {kd:Int} (h:kd=3∨kd=4) (a b:AA):NE (GK kd a b)=max (NE a) (NE b):=by
 have:¬ kd=5:=by omega
 simp [GK,NE,OT,this]
theorem O3 (a:AA):cnt (H7 a)=1+cnt a:=by simp [H7,cnt,HN]
theorem ZZ (a:AA):NE (H7 a)=NE a:=by simp [H7,NE,OT]
theorem V5 (kd:Int) {a b:AA} (ha:C5 a) (hb:C5 b):C5 (GK kd a b):=RN kd fun k hk=>by
 rcases List.mem_cons.1 hk with rfl | hk
 ·exact ha
 ·rw [List.mem_singleton.1 hk]; exact hb
theorem Zc {a:AA} (ha:C5 a):C5 (H7 a):=RN 2 fun k hk=>by rw [List.mem_singleton.1 hk]; exact ha
theorem ZG {t:Types} {p:Pattern} {a b:AA} (hk:cnt (H7 (GK 4 a b))<=40) (he:E8 t p (H7 (GK 4 a b))=0) (hg:CG t p (H7 (GK 4 a b))) :
  (CG t p b∧CG t p (GK 3 a b)∧CG t p (GK 4 a b))∧E8 t p b=0∧E8 t p (GK 3 a b)=0∧E8 t p (GK 4 a b)=0:=by
 obtain ⟨e1,e2,_⟩:=S4 he
 obtain ⟨w,m1,m2⟩:=aM e2
 have g4:CG t p (GK 4 a b):=hg.kid (show ¬ (2:Int)=5 by decide) _ List.mem_cons_self
 have ga:CG t p a:=g4.kid (show ¬ (4:Int)=5 by decide) _ List.mem_cons_self
 have gb:CG t p b:=g4.kid (show ¬ (4:Int)=5 by decide) _ (List.mem_cons_of_mem _ List.mem_cons_self)
 have g3:CG t p (GK 3 a b):=cM (by decide) fun k hk=>by
  rcases List.mem_cons.1 hk with rfl | hk
  ·exact ga
  ·rw [List.mem_singleton.1 hk]; exact gb
 rw [O3,MK] at hk
 rw [RY (by rw [O3,MK]; omega),O3,ZZ,MK,Sg (.inr rfl)] at m1 m2
 simp only at m1 m2
 have w4:Km (SizeOf.sizeOf (H7 (GK 4 a b))) (GK 4 a b)=true:=by
  obtain ⟨n,hn⟩:∃ n,SizeOf.sizeOf (H7 (GK 4 a b))=n+1:=⟨SizeOf.sizeOf (H7 (GK 4 a b)) - 1,by have:=DI (H7 (GK 4 a b)); omega⟩
  unfold VQ at w
  rw [hn,Km,zzZ,List.all_eq_true] at w
  have:=w.2 _ List.mem_cons_self
  rw [hn]
  exact VR (n+1) n _ this (by have:=D3 (c:=H7 (GK 4 a b)) (k:=GK 4 a b) List.mem_cons_self; omega)
 obtain ⟨n,hn⟩:∃ n,SizeOf.sizeOf (H7 (GK 4 a b))=n+1:=⟨SizeOf.sizeOf (H7 (GK 4 a b)) - 1,by have:=DI (H7 (GK 4 a b)); omega⟩
 have w3:Km (n+1) (GK 3 a b)=true:=by rw [hn] at w4; exact w4
 rw [hn,Km,zzZ,List.all_eq_true] at w4
 have wb:=w4.2 b (List.mem_cons_of_mem _ List.mem_cons_self)
 have fin:∀ (c:AA) (M:Nat),Km M c=true->cnt c<=12->NE c<=3->Ie c=0:=fun c M hM h1 h2=>
  aL (VR _ M c hM (Nat.le_refl _)) (by rw [RY (by omega)]; simp only; omega) (by rw [RY (by omega)]; simp only; omega)
 refine ⟨⟨gb,g3,g4⟩,QT e1 (fin b n wb (by omega) (by omega)) gb,QT e1 (fin _ (n+1) w3 (by rw [MK]; omega) (by rw [Sg (.inl rfl)]; omega)) g3,
  QT e1 (fin _ (n+1) (by rw [Km,zzZ,List.all_eq_true]; exact w4) (by rw [MK]; omega) (by rw [Sg (.inr rfl)]; omega)) g4⟩
theorem YA (t:Types) (h:AY) (inj:Bool) (a b:AA) (m:AL):den t h inj (GK 4 a b) m=(den t h inj a m||den t h inj b m):=by
 rw [Rw]; simp [GK]
theorem cQ (t:Types) (h:AY) (inj:Bool) (a b:AA) (m:AL):den t h inj (GK 3 a b) m=(den t h inj a m&&den t h inj b m):=by
 rw [Rw]; simp [GK]
theorem cR (t:Types) (h:AY) (inj:Bool) (a:AA) (m:AL):den t h inj (H7 a) m=!den t h inj a m:=by
 rw [Rw]; simp [H7]
theorem Ok (d:GY) (inj:Bool) (hw:(I4 d).WF):GX d inj=some true:=by
 have hd:=bB hw
 obtain ⟨t,x,h,l,ok,e,hm⟩:=dB hd inj
 unfold GX
 rw [ZX,bs,if_neg (by decide),e,bs]
 cases ok
 ·rfl
 have hm:=hm rfl
 have hl:=hm.light
 have hg:=Ud hl hm.cond
 have pn:=hm.pat.nodes
 have pe:=hm.pat.edges
 have n1:=hl.nodes
 have n2:=hl.edges
 have n3:=hl.cnt
 obtain ⟨c,ec,hc,hk⟩:=Uu hm.few hm.hv (p:=x.P) (by omega) (by omega) ⟨hm.pat.vars.1,by have:=hm.pat.vars.2; omega⟩ (codes:=d.D.take (min (d.D.length:Int) 12).toNat) (fun y hy=>hd.second y (List.mem_of_mem_take hy))
 rw [if_neg (by simp),It (by omega) (by omega),bs]
 dsimp only
 rw [ec,bs,bs,bs,bs,bs,bs]
 have f4:=V5 4 hl.few hc
 have f3:=V5 3 hl.few hc
 have f2:=Zc f4
 have k2:=O3 (GK 4 x.C c)
 have k4:=MK 4 x.C c
 have k3:=MK 3 x.C c
 show ((Hu t x.P (H7 (GK 4 x.C c))).bind fun x67=>
  (if (!decide (x67=0))=true then some true else ((Is t x.P (H7 (GK 4 x.C c)) h).bind fun x75=>some (!x75))).bind fun x77=>if x77=true then some true else _)=some true
 rw [Ux hm.few x.P f2,bs]
 by_cases he:E8 t x.P (H7 (GK 4 x.C c))=0
 case neg=>rw [if_pos (by simpa using he)]; rfl
 rw [if_neg (by simpa using he)]
 obtain ⟨b,eb,hb⟩:=Ue hm.few f2 (by omega) he h
 rw [eb,bs,bs]
 cases b
 ·rfl
 rw [if_neg (by decide)]
 have hb:=hb rfl
 have hg2:=Ud hb he
 have kb:=hb.cnt
 obtain ⟨⟨gb,g3,g4⟩,eb2,e3,e4⟩:=ZG kb he hg2
 rw [CE (fun _=>false) false]
 ·have:anyR (fun _=>false) 0 (l.length:Int)=false:=DW.2 fun _ _ _=>rfl
  rw [this]; rfl
 ·intro i i0 i1 _
  have hi:=hm.each _ (AN i0 i1)
  have S:=fun (q:AA) (q1:E8 t x.P q=0) (q2:CG t x.P q) (q3:C5 q) (q4:cnt q<=40)=>dc hm.few hm.ph hi (by omega) (by omega) q1 q2 q3 q4
  have s1:=S x.C hm.cond hg hl.few hl.cnt
  have s2:=S c eb2 gb hc (by omega)
  have s3:=S (GK 3 x.C c) e3 g3 f3 (by omega)
  have s4:=S (GK 4 x.C c) e4 g4 f4 (by omega)
  have s5:=S (H7 (GK 4 x.C c)) he hg2 f2 (by omega)
  rw [cQ] at s3
  rw [YA] at s4
  rw [cR,YA] at s5
  unfold H7 GK at s5
  unfold GK at s3 s4
  rw [AF i0 i1,bs,s1,bs,s2,bs,s3,bs,s4,bs,s5,bs]
  cases den t h inj x.C (AB l i) <;> cases den t h inj c (AB l i) <;> rfl
end Go.Sf.Sc
