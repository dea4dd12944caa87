/- Plain lemmas: what the functions of the program and of the reference compute. -/
import Derived.Test.YtlbmpkmkmkgniaaGreatDoorEval
import Derived.Test.YtlbmpkmkmkgniaaGreatDoorP52
set_option maxRecDepth 100000
namespace Go.Sf.Sc
open Go Go.Sf
def ED (t:AD) (h:A0) (inj:Bool):Nat->AA->AG->List Int->Bool->List AN
 | 0,_,_,_,_=>[]
 | N+1,c,m,path,good=>
  if c.Kind=2 then ED t h inj N (AB c.Kids 0) m (path++[0]) (!good) else
  if c.Kind=3∨c.Kind=4 then
   if decide (c.Kind=3)=good then (B2 c.Kids.length).flatMap fun i=>ED t h inj N (AB c.Kids i) m (path++[i]) good
   else (fst (fun i=>if G1 t h inj (AB c.Kids i) m=good then some (ED t h inj N (AB c.Kids i) m (path++[i]) good) else none) 0 c.Kids.length).getD []
  else if c.Kind=5 then
   if good=false then
    if (DK t c h m inj).1.length=0 then [⟨path,3,m.Morphism.Nodes⟩] else
    (B2 (min (DK t c h m inj).1.length 5)).flatMap fun i=>⟨path,4,(AB (DK t c h m inj).1 i).Morphism.Nodes⟩::ED t h inj N (AB c.Kids 0) (AB (DK t c h m inj).1 i) (path++[0]) false
   else (fst (fun i=>if G1 t h inj (AB c.Kids 0) (AB (DK t c h m inj).1 i)=true then
     some (⟨path,2,(AB (DK t c h m inj).1 i).Morphism.Nodes⟩::if (AB c.Kids 0).Kind=1 then [] else ED t h inj N (AB c.Kids 0) (AB (DK t c h m inj).1 i) (path++[0]) true) else none) 0 (DK t c h m inj).1.length).getD []
  else [⟨path,1,[]⟩]
theorem SO (c:AA):1<=cnt c:=by rw [KT]; omega
theorem UB {F:Int->List AN}:∀ (l:List AA) (k:Nat),(∀ i:Int,k<=i->i<k+l.length->(F i).length<=6 ^ cnt (AB l (i - k)))->((List.range' k l.length).flatMap fun i=>F (i:Nat)).length<=6 ^ GZ l
 | [],k,_=>by simp [GZ]
 | c::l,k,h=>by
  have h0:=h k (by omega) (by simp; omega)
  have ih:=UB l (k+1) (fun i i0 i1=>by
   have:=h i (by omega) (by simp; omega)
   rw [show (i - (k:Int))=(i - ((k+1:Nat):Int))+1 by omega] at this
   rwa [show AB (c::l) (i - ((k+1:Nat):Int)+1)=AB l (i - ((k+1:Nat):Int)) by
    unfold AB
    rw [show (i - ((k+1:Nat):Int)+1).toNat=(i - ((k+1:Nat):Int)).toNat+1 by omega]; rfl] at this)
  rw [Int.sub_self] at h0
  rw [List.length_cons,List.range'_succ,List.flatMap_cons,List.length_append,GZ,Nat.pow_add]
  have h1:(F k).length<=6 ^ cnt c:=h0
  cases l with
  | nil=>simp [GZ] at ih ⊢; exact h1
  | cons d l=>
   have p1:6<=6 ^ cnt c:=by have:=Nat.pow_le_pow_right (n:=6) (by omega) (SO c); simpa using this
   have p2:6<=6 ^ GZ (d::l):=by
    have hd:=SO d
    have:=Nat.pow_le_pow_right (n:=6) (by omega) (show 1<=GZ (d::l) by rw [GZ]; omega); simpa using this
   have:=Nat.mul_le_mul_left (6 ^ cnt c) p2
   have:=Nat.mul_le_mul_right (6 ^ GZ (d::l)) p1
   omega
theorem Q9 {a b:Nat} (h:a<=b):6 ^ a<=6 ^ b:=Nat.pow_le_pow_right (by omega) h
theorem Se {t:AD} {h:A0} {inj:Bool}:∀ (N:Nat) (c:AA) (p:Pattern) (m:AG) (path:List Int) (good:Bool),CV t p c->(ED t h inj N c m path good).length<=6 ^ cnt c
 | 0,_,_,_,_,_,_=>by simp [ED]
 | N+1,c,p,m,path,good,hc=>by
  have he:=KT c
  have hkid:∀ k∈c.Kids,cnt k<=cnt c - 1:=fun k hk=>by have:=ND hk; omega
  have ih:=Se (t:=t) (h:=h) (inj:=inj) N
  have one:1<=6 ^ cnt c:=Nat.pow_pos (by omega)
  rw [ED]
  by_cases h2:c.Kind=2
  ·have h1:=hc.one (.inl h2)
   have hk:=AS (l:=c.Kids) (i:=0) (by omega) (by omega)
   rw [if_pos h2]
   exact Nat.le_trans (ih _ p m _ _ (hc.kid (by omega) _ hk)) (Q9 (by have:=hkid _ hk; omega))
  rw [if_neg h2]
  by_cases h34:c.Kind=3∨c.Kind=4
  ·rw [if_pos h34]
   split
   ·have:=UB (F:=fun i=>ED t h inj N (AB c.Kids i) m (path++[i]) good) c.Kids 0 (fun i i0 i1=>by
     rw [show i - ((0:Nat):Int)=i by omega]
     exact ih _ p m _ _ (hc.kid (by omega) _ (AS (by omega) (by omega))))
    unfold B2
    rw [List.flatMap_map,List.range_eq_range']
    exact Nat.le_trans this (Q9 (by omega))
   ·cases hr:fst (fun i=>if G1 t h inj (AB c.Kids i) m=good then some (ED t h inj N (AB c.Kids i) m (path++[i]) good) else none) 0 c.Kids.length with
    | none=>simp
    | some r=>
     obtain ⟨i,i0,i1,k,_⟩:=CT hr
     split at k
     ·cases k
      have hk:=AS (l:=c.Kids) i0 i1
      exact Nat.le_trans (ih _ p m _ _ (hc.kid (by omega) _ hk)) (Q9 (by have:=hkid _ hk; omega))
     ·cases k
  rw [if_neg h34]
  by_cases h5:c.Kind=5
  ·have h1:=hc.one (.inr h5)
   have hk:=AS (l:=c.Kids) (i:=0) (by omega) (by omega)
   have hck:=hkid _ hk
   have p0:=SO (AB c.Kids 0)
   have hcv:=hc.kid5 h5 _ hk
   have p1:6*6 ^ cnt (AB c.Kids 0)<=6 ^ cnt c:=by
    have:=Q9 (show cnt (AB c.Kids 0)+1<=cnt c by omega)
    rw [Nat.pow_succ] at this; omega
   have p2:6<=6 ^ cnt (AB c.Kids 0):=by have:=Q9 p0; simpa using this
   rw [if_pos h5]
   split
   ·split
    ·simpa using one
    ·refine Nat.le_trans (Oe (B:=1+6 ^ cnt (AB c.Kids 0)) (fun i _=>?_)) ?_
     ·rw [List.length_cons]
      have:=ih (AB c.Kids 0) c.Pattern (AB (DK t c h m inj).1 i) (path++[0]) false hcv
      omega
     ·rw [DX]
      have:min (DK t c h m inj).1.length 5*(1+6 ^ cnt (AB c.Kids 0))<=5*(1+6 ^ cnt (AB c.Kids 0)):=Nat.mul_le_mul_right _ (by omega)
      omega
   ·generalize hle:(DK t c h m inj).1=l
    cases hr:fst (fun i=>if G1 t h inj (AB c.Kids 0) (AB l i)=true then
     some ((⟨path,2,(AB l i).Morphism.Nodes⟩:AN)::if (AB c.Kids 0).Kind=1 then [] else ED t h inj N (AB c.Kids 0) (AB l i) (path++[0]) true) else none) 0 l.length with
    | none=>simp
    | some r=>
     obtain ⟨i,i0,i1,k,_⟩:=CT hr
     split at k
     ·cases k
      have:=ih (AB c.Kids 0) c.Pattern (AB l i) (path++[0]) true hcv
      simp only [Option.getD_some,List.length_cons]
      split
      ·simp; omega
      ·omega
     ·cases k
  rw [if_neg h5]
  simpa using one
end Go.Sf.Sc
namespace Go.Sf.Sc
open Go Go.Sf
theorem NB {path:List Int} (h:path.length<=1000) (i:Int):DJ path i=some (path++[i]):=by
 unfold DJ slices_Clone_int
 rw [JI (by unfold B9; omega),bs,DU (by simp; unfold B9; omega)]; rfl
theorem Pq {path nodes:List Int} (h:path.length<=1000) (h2:nodes.length<=1000) (k:Int):EZ path k nodes=some ⟨path,k,nodes⟩:=by
 unfold EZ slices_Clone_int
 rw [JI (by unfold B9; omega),bs,JI (by unfold B9; omega)]; rfl
theorem Mn {α:Type} (F:Int->List α) {i:Int} (h:0<=i):(B2 (i+1).toNat).flatMap F=(B2 i.toNat).flatMap F++F i:=by
 rw [show (i+1).toNat=i.toNat+1 by omega,LD,List.flatMap_append,List.flatMap_cons,List.flatMap_nil,List.append_nil,show ((i.toNat:Nat):Int)=i by omega]
theorem Pb {α:Type} (F:Int->List α) {k:Nat}:∀ {n:Nat},k<=n->((B2 k).flatMap F).length<=((B2 n).flatMap F).length
 | 0,h=>by rw [show k=0 by omega]; omega
 | n+1,h=>by
  by_cases e:k=n+1
  ·rw [e]; omega
  ·have:=Pb F (k:=k) (n:=n) (by omega)
   rw [LD,List.flatMap_append,List.length_append]; omega
theorem nL {k:Nat} (h:k<=12):6 ^ k<=B9:=by
 refine Nat.le_trans (Q9 h) ?_
 unfold B9; decide
theorem RX {s:AE} (hf:CA s.t) (hv:(BJ s.t).2=0) (hh:Hg s.t s.h) (n1:s.h.Graph.Nodes.length<=14) (n2:s.h.Graph.Edges.length<=18):∀ (N:Nat) (c:AA) (p:Pattern) (m:AG) (path:List Int) (good:Bool),SizeOf.sizeOf c<=N->CV s.t p c->CG s.t p c->M4 s.t p s.h m->cnt c<=12->path.length+cnt c<=1000->∀ n,2*N<=n->A5 n s c m path good=some (ED s.t s.h s.injective N c m path good)
 | 0,c,_,_,_,_,h,_,_,_,_,_,_,_=>by have:=DW c; omega
 | N+1,c,p,m,path,good,h,hc,hg,ha,hn12,hp,n,hn=>by
  obtain ⟨n,rfl⟩:∃ k,n=k+2:=⟨n - 2,by omega⟩
  have hl:=Se (h:=s.h) (inj:=s.injective) (N+1) c p m path good hc
  have hl:=Nat.le_trans hl (nL hn12)
  have he:=KT c
  have kid:∀ k∈c.Kids,SizeOf.sizeOf k<=N∧cnt k<=cnt c - 1:=fun k hk=>by have:=EC hk; have:=ND hk; omega
  have mn:=ha.m.nlen
  have qn:=ha.q.g.nodes
  rw [ED] at hl
  rw [A5,ED]
  by_cases h2:c.Kind=2
  ·have h1:=hc.one (.inl h2)
   have hk:=AS (l:=c.Kids) (i:=0) (by omega) (by omega)
   have hkk:=kid _ hk
   rw [if_pos (by simpa using h2),if_pos h2,AL (by omega) (by omega),bs,NB (by omega),bs,
    RX hf hv hh n1 n2 N _ p m _ _ hkk.1 (hc.kid (by omega) _ hk) (hg.kid (by omega) _ hk) ha (by omega) (by simp; omega) (n+1) (by omega)]
   rfl
  rw [if_neg (by simpa using h2),if_neg h2]
  rw [if_neg h2] at hl
  by_cases h34:c.Kind=3∨c.Kind=4
  ·have hw:(if (decide (c.Kind=3))=true then some (decide (c.Kind=3)) else some (decide (c.Kind=4)))=some true:=by
    rcases h34 with e | e <;> simp [e]
   rw [hw,bs,if_pos rfl,if_pos h34,BZ]
   rw [if_pos h34] at hl
   have ih:∀ i:Int,0<=i->i<c.Kids.length->A5 n s (AB c.Kids i) m (path++[i]) good=some (ED s.t s.h s.injective N (AB c.Kids i) m (path++[i]) good):=fun i i0 i1=>by
    have hk:=AS (l:=c.Kids) i0 i1
    have hkk:=kid _ hk
    exact RX hf hv hh n1 n2 N _ p m _ _ hkk.1 (hc.kid (by omega) _ hk) (hg.kid (by omega) _ hk) ha (by omega) (by simp; omega) n (by omega)
   by_cases hb:decide (c.Kind=3)=good
   ·rw [if_pos hb] at hl ⊢
    rw [K5 (a:=0) (b:=c.Kids.length) (s:=[]) (fun i=>(B2 i.toNat).flatMap fun i=>ED s.t s.h s.injective N (AB c.Kids i) m (path++[i]) good) (fun _=>none) (by omega) rfl (fun i i0 i1 _=>by
     have hpre:=Pb (fun i=>ED s.t s.h s.injective N (AB c.Kids i) m (path++[i]) good) (k:=(i+1).toNat) (n:=c.Kids.length) (by omega)
     rw [Mn _ i0,List.length_append] at hpre
     rw [AL i0 i1,bs,if_pos (by simp [hb]),NB (by omega),bs,ih i i0 i1,bs,DU (by omega),bs,Mn _ i0]; rfl)]
    rw [C2.2 (fun _ _ _=>rfl),Int.toNat_natCast]; rfl
   ·rw [if_neg hb]
    rw [K5 (a:=0) (b:=c.Kids.length) (s:=[]) (fun _=>[]) (fun i=>if G1 s.t s.h s.injective (AB c.Kids i) m=good then some (ED s.t s.h s.injective N (AB c.Kids i) m (path++[i]) good) else none) (by omega) rfl (fun i i0 i1 _=>by
     have hk:=AS (l:=c.Kids) i0 i1
     rw [AL i0 i1,bs,if_neg (by simp [hb]),e_holds hf hv hh n1 n2 (hc.kid (by omega) _ hk) (hg.kid (by omega) _ hk) ha,bs]
     by_cases e:G1 s.t s.h s.injective (AB c.Kids i) m=good
     ·rw [if_pos (by simp [e]),NB (by omega),bs,ih i i0 i1,bs,if_pos e]; rfl
     ·rw [if_neg (by simp [e]),if_neg e]; rfl)]
    cases fst (fun i=>if G1 s.t s.h s.injective (AB c.Kids i) m=good then some (ED s.t s.h s.injective N (AB c.Kids i) m (path++[i]) good) else none) 0 c.Kids.length <;> rfl
  have hw:(if (decide (c.Kind=3))=true then some (decide (c.Kind=3)) else some (decide (c.Kind=4)))=some false:=by
   rw [if_neg (by simp; omega)]
   simp; omega
  rw [hw,bs,if_neg (by decide),if_neg h34]
  rw [if_neg h34] at hl
  by_cases h5:c.Kind=5
  ·have hi:=hc.ins h5
   have h1:=hc.one (.inr h5)
   have e0:=Nh (inj:=s.injective) hv hh ha hi (hg.ex h5).2 n1 n2
   obtain ⟨e1,e2⟩:=OD hv hh ha hi e0
   have hk:=AS (l:=c.Kids) (i:=0) (by omega) (by omega)
   have hkk:=kid _ hk
   have i0:AM c.Kids 0=some (AB c.Kids 0):=AL (by omega) (by omega)
   rw [if_pos (by simpa using h5),if_pos h5,B5,Xq hf hv hh ha hi e0,bs]
   rw [if_pos h5] at hl
   generalize hle:(DK s.t c s.h m s.injective).1=l at hl e1 e2 ⊢
   have ih:∀ (i:Int) (g:Bool),0<=i->i<l.length->A5 n s (AB c.Kids 0) (AB l i) (path++[0]) g=some (ED s.t s.h s.injective N (AB c.Kids 0) (AB l i) (path++[0]) g):=fun i g i0 i1=>
    RX hf hv hh n1 n2 N _ c.Pattern _ _ _ hkk.1 (hc.kid5 h5 _ hk) (hg.kid5 h5 _ hk) (e2 _ (AS i0 i1)) (by omega) (by simp; omega) n (by omega)
   have rs:∀ (i:Int) (k:Int),0<=i->i<l.length->EZ path k (AB l i).Morphism.Nodes=some ⟨path,k,(AB l i).Morphism.Nodes⟩:=fun i k i0 i1=>by
    have:=e2 _ (AS i0 i1)
    have a1:=this.m.nlen
    have a2:=this.q.g.nodes
    exact Pq (by omega) (by omega) k
   cases good
   ·rw [if_pos rfl] at hl ⊢
    by_cases hz:l.length=0
    ·rw [if_pos (by simp [hz]),if_pos hz,Pq (by omega) (by omega)]; rfl
    ·have hz':¬ ((!false)&&decide ((l.length:Int)=0))=true:=by
      rw [zzZ,zzX]; omega
     rw [if_neg hz',if_neg hz]
     rw [if_neg hz] at hl
     rw [K5 (a:=0) (b:=l.length) (s:=[]) (fun i=>(B2 (min i 5).toNat).flatMap fun i=>(⟨path,4,(AB l i).Morphism.Nodes⟩:AN)::ED s.t s.h s.injective N (AB c.Kids 0) (AB l i) (path++[0]) false) (fun _=>none) (by omega) rfl (fun i j0 j1 _=>by
      rw [AL j0 j1,bs]
      by_cases h5':i<5
      ·have hpre:=Pb (fun i=>(⟨path,4,(AB l i).Morphism.Nodes⟩:AN)::ED s.t s.h s.injective N (AB c.Kids 0) (AB l i) (path++[0]) false) (k:=(i+1).toNat) (n:=min l.length 5) (by omega)
       rw [Mn _ j0,List.length_append,List.length_cons] at hpre
       rw [show (min (i+1) 5)=i+1 by omega,show min i 5=i by omega,Mn _ j0]
       rw [if_pos (by simp; omega),rs i 4 j0 j1,bs,DU (by simp only [List.length_cons,List.length_nil]; omega),bs,i0,bs,NB (by omega),bs,ih i false j0 j1,bs,DU (by simp only [List.length_append,List.length_cons,List.length_nil]; omega),bs,List.append_assoc]; rfl
      ·rw [show (min (i+1) 5)=5 by omega,show min i 5=5 by omega,if_neg (by simp; omega)]; rfl)]
     rw [C2.2 (fun _ _ _=>rfl),show (min (l.length:Int) 5).toNat=min l.length 5 by omega]; rfl
   ·rw [if_neg (by simp),if_neg (by simp)]
    rw [K5 (a:=0) (b:=l.length) (s:=[]) (fun _=>[]) (fun i=>if G1 s.t s.h s.injective (AB c.Kids 0) (AB l i)=true then
     some ((⟨path,2,(AB l i).Morphism.Nodes⟩:AN)::if (AB c.Kids 0).Kind=1 then [] else ED s.t s.h s.injective N (AB c.Kids 0) (AB l i) (path++[0]) true) else none) (by omega) rfl (fun i j0 j1 _=>by
     rw [AL j0 j1,bs,if_neg (by simp),if_pos rfl,i0,bs,e_holds hf hv hh n1 n2 (hc.kid5 h5 _ hk) (hg.kid5 h5 _ hk) (e2 _ (AS j0 j1)),bs,bs]
     by_cases e:G1 s.t s.h s.injective (AB c.Kids 0) (AB l i)=true
     ·have hlen:=Se (h:=s.h) (inj:=s.injective) N (AB c.Kids 0) c.Pattern (AB l i) (path++[0]) true (hc.kid5 h5 _ hk)
      have:=Q9 (show cnt (AB c.Kids 0)<=11 by omega)
      rw [if_pos e,if_pos e,rs i 2 j0 j1,bs,bs]
      by_cases ek:(AB c.Kids 0).Kind=1
      ·rw [if_neg (by simp [ek]),if_pos ek]; rfl
      ·rw [if_pos (by simp [ek]),if_neg ek,bs,NB (by omega),bs,ih i true j0 j1,bs,DU (by simp only [List.length_cons,List.length_nil]; unfold B9; omega)]; rfl
     ·rw [if_neg e,if_neg e]; rfl)]
    cases fst (fun i=>if G1 s.t s.h s.injective (AB c.Kids 0) (AB l i)=true then
     some ((⟨path,2,(AB l i).Morphism.Nodes⟩:AN)::if (AB c.Kids 0).Kind=1 then [] else ED s.t s.h s.injective N (AB c.Kids 0) (AB l i) (path++[0]) true) else none) 0 l.length <;> rfl
  rw [if_neg (by simpa using h5),if_neg h5,Pq (by omega) (by simp)]; rfl
end Go.Sf.Sc
namespace Go.Sf.Sc
open Go Go.Sf
end Go.Sf.Sc
namespace Go.Sf.Sc
open Go Go.Sf
theorem X5 {x:G5} (sx:(G2 x).Sm):(AF x.C).Sm:=by
 obtain ⟨p,c⟩:=x
 cases c
 have sx':TV.Sms [_,_,_,_,_,_,_,_,_,_,_,_,_,_]:=sx
 obtain ⟨_,_,_,_,_,h⟩:=sx'
 exact h
theorem YK {t:AD} {x:G5} (y:H6) (st:(At t).Sm) (sx:(G2 x).Sm):∃ b,KY t x y=some b∧(b=true->CA t∧EA x.C∧cnt x.C<=40∧FO t x.P x.C y.H=some true):=by
 obtain ⟨b1,e1,f1⟩:=Sw st
 unfold KY
 rw [e1,bs]
 cases b1
 ·exact ⟨_,rfl,fun h=>by simp at h⟩
 obtain ⟨b2,e2,f2⟩:=YH (f1 rfl) st x.P (X5 sx) y.H
 rw [if_pos rfl,e2]
 refine ⟨_,rfl,fun h=>?_⟩
 rw [zzZ,zzZ] at h
 have hb:b2=true:=h.1.1
 subst hb
 have:=f2 rfl
 exact ⟨f1 rfl,this.1,this.2.1,rfl⟩
theorem Wk {t:AD} (hf:CA t) {p:Pattern} {c:AA} (hc:EA c) (hk:cnt c<=1000) (he:HU t p c=0) {h:A0} (hl:FO t p c h=some true):RI p c h:=by
 obtain ⟨b,e,f⟩:=ZW hf hc hk he h
 rw [hl] at e
 cases e
 exact f rfl
theorem Ty {t:AD} {p:Pattern} {c:AA} {h:A0} {m:AG} {inj:Bool} (e:Nc t p c h m inj=0):HU t p c=0:=by
 unfold Nc at e
 split at e
 ·rename_i k; exact absurd e k
 ·rename_i k; exact Classical.not_not.1 k
theorem V5 {t:AD} {p:Pattern} {c:AA} {h:A0} {m:AG} {inj:Bool} (e:(K0 t p c h m inj).2=0):Nc t p c h m inj=0:=by
 by_cases h0:Nc t p c h m inj=0
 ·exact h0
 have hw:(wS t p c h m inj).2=Nc t p c h m inj:=by unfold wS; rw [if_pos h0]
 unfold K0 at e
 rw [hw,if_neg (ZA t p c h m inj)] at e
 exact e
theorem ZB {t:AD} {p:Pattern} {c:AA} (hk:cnt c<=1000) (e:HU t p c=0):cnt c<=12:=by
 obtain ⟨_,m1,_⟩:=Ut (PQ e).2.1
 rw [UQ hk] at m1
 simp only at m1
 omega
noncomputable def Nf (t:AD) (p:Pattern) (c:AA) (h:A0) (m:AG) (inj:Bool):List AN × Int:=
 if (K0 t p c h m inj).2≠0 then ([],(K0 t p c h m inj).2) else if (K0 t p c h m inj).1=true then ([],10) else (ED t h inj (SizeOf.sizeOf c) c m [] false,0)
theorem TO {t:AD} (hf:CA t) {p:Pattern} {c:AA} (hc:EA c) (hk:cnt c<=40) {h:A0} {m:AG} {inj:Bool} (hl:FO t p c h=some true) (e:(K0 t p c h m inj).2=0) :
  (BJ t).2=0∧Hg t h∧CV t p c∧CG t p c∧M4 t p h m∧cnt c<=12∧h.Graph.Nodes.length<=14∧h.Graph.Edges.length<=18:=by
 have h0:=V5 e
 have he:=Ty h0
 obtain ⟨hv,hh,hcv,ha⟩:=aZ hf hk h0
 have hlc:=Wk hf hc (by omega) he hl
 have:=hlc.nodes
 have:=hlc.edges
 exact ⟨hv,hh,hcv,ZV hlc he,ha,ZB (by omega) he,by omega,by omega⟩
theorem X6 {t:AD} (hf:CA t) {p:Pattern} {c:AA} (hc:EA c) (hk:cnt c<=40) {h:A0} {m:AG} {inj:Bool} (hl:FO t p c h=some true):EJ t p c h m inj=some (Nf t p c h m inj):=by
 unfold EJ Nf
 rw [VU hf p hc hk,bs]
 by_cases e:(K0 t p c h m inj).2=0
 ·have e':¬ (K0 t p c h m inj).2≠0:=fun k=>k e
  rw [if_neg (by simp [e]),if_neg e']
  by_cases e1:(K0 t p c h m inj).1=true
  ·rw [if_pos e1,if_pos e1]
  ·obtain ⟨hv,hh,hcv,hg,ha,h12,n1,n2⟩:=TO hf hc hk hl e
   rw [if_neg e1,if_neg e1,show GV ⟨t,h,inj⟩ c m [] false=some (ED t h inj (SizeOf.sizeOf c) c m [] false) from HK (2*SizeOf.sizeOf c) fun n hn=>RX (s:=⟨t,h,inj⟩) hf hv hh n1 n2 _ c p m [] false (Nat.le_refl _) hcv hg ha h12 (by simp; omega) n hn]
   rfl
 ·rw [if_pos (by simp [e]),if_pos e]
instance:Inhabited AN:=⟨⟨[],0,[]⟩⟩
end Go.Sf.Sc
namespace Go.Sf.Sc
open Go Go.Sf
def O5 (l:List Int):Prop:=l.Pairwise (·<·)
theorem QX:∀ {a b:List Int},O5 a->O5 b->(∀ x,x∈a↔x∈b)->a=b
 | [],[],_,_,_=>rfl
 | [],y::b,_,_,h=>by have:=(h y).2 (by simp); simp at this
 | x::a,[],_,_,h=>by have:=(h x).1 (by simp); simp at this
 | x::a,y::b,ha,hb,h=>by
  have ha':=List.pairwise_cons.1 ha
  have hb':=List.pairwise_cons.1 hb
  have e:x=y:=by
   have h1:=(h x).1 (by simp)
   have h2:=(h y).2 (by simp)
   rcases List.mem_cons.1 h1 with e | h1
   ·exact e
   ·rcases List.mem_cons.1 h2 with e | h2
    ·exact e.symm
    ·have:=hb'.1 x h1
     have:=ha'.1 y h2
     omega
  subst e
  rw [QX ha'.2 hb'.2 fun z=>by
   constructor
   ·intro hz
    have:=ha'.1 z hz
    rcases List.mem_cons.1 ((h z).1 (List.mem_cons_of_mem _ hz)) with e | k
    ·omega
    ·exact k
   ·intro hz
    have:=hb'.1 z hz
    rcases List.mem_cons.1 ((h z).2 (List.mem_cons_of_mem _ hz)) with e | k
    ·omega
    ·exact k]
end Go.Sf.Sc
namespace Go.Sf.Sc
open Go Go.Sf
end Go.Sf.Sc
namespace Go.Sf.Sc
open Go Go.Sf
end Go.Sf.Sc
namespace Go.Sf.Sc
open Go Go.Sf
end Go.Sf.Sc
namespace Go.Sf.Sc
open Go Go.Sf
structure PF (l:List AN) (Q:List AN->Prop) (L:List Int):Prop where
 asc:O5 L
 mem:∀ x,x∈L↔(0<=x∧x<=l.length)∧Q (l.take x.toNat)
theorem QW:∀ {L:List Int} {a b:Int},O5 L->(∀ x∈L,a<=x∧x<=b)->a<=b+1->(L.length:Int)<=b+1 - a
 | [],_,_,_,_,h=>by simp; omega
 | y::L,a,b,h,hm,_=>by
  have h':=List.pairwise_cons.1 h
  have hy:=hm y (by simp)
  have:=QW (a:=y+1) (b:=b) h'.2 (fun x hx=>⟨by have:=h'.1 x hx; omega,(hm x (List.mem_cons_of_mem _ hx)).2⟩) (by omega)
  rw [List.length_cons]
  omega
theorem PF.len {l:List AN} {Q:List AN->Prop} {L:List Int} (h:PF l Q L):L.length<=l.length+1:=by
 have:=QW (a:=0) (b:=l.length) h.asc (fun x hx=>((h.mem x).1 hx).1) (by omega)
 omega
end Go.Sf.Sc
namespace Go.Sf.Sc
open Go Go.Sf
theorem R4 {P Q:List AN->Prop} {l:List AN} {a x:Nat} (h1:a<=x) (h2:x<=l.length):(∃ u v,(l.drop a).take (x - a)=u++v∧P u∧Q v)↔∃ b,a<=b∧b<=x∧P ((l.drop a).take (b - a))∧Q ((l.drop b).take (x - b)):=by
 constructor
 ·rintro ⟨u,v,e,hu,hv⟩
  have hl:u.length+v.length=x - a:=by
   have:=congrArg List.length e
   rw [List.length_take,List.length_drop,List.length_append] at this; omega
  refine ⟨a+u.length,by omega,by omega,?_,?_⟩
  ·have:=congrArg (List.take u.length) e
   rw [List.take_take,List.take_left,show min u.length (x - a)=u.length by omega] at this
   rw [show a+u.length - a=u.length by omega,this]; exact hu
  ·have:=congrArg (List.drop u.length) e
   rw [List.drop_take,List.drop_left,List.drop_drop] at this
   rw [show x - (a+u.length)=x - a - u.length by omega,this]; exact hv
 ·rintro ⟨b,b1,b2,hu,hv⟩
  refine ⟨_,_,?_,hu,hv⟩
  rw [show l.drop b=(l.drop a).drop (b - a) by rw [List.drop_drop]; congr 1; omega,show x - a=(b - a)+(x - b) by omega,List.take_add]
structure Xa (l:List AN) (A:List Int):Prop where
 asc:O5 A
 rng:∀ a∈A,0<=a∧a<=l.length
structure Jk (l:List AN) (A:List Int) (Q:List AN->Prop) (E:List Int):Prop where
 asc:O5 E
 mem:∀ x,x∈E↔∃ a∈A,a<=x∧x<=l.length∧Q ((l.drop a.toNat).take (x - a).toNat)
theorem Xa.len {l:List AN} {A:List Int} (h:Xa l A):A.length<=l.length+1:=by
 have:=QW (a:=0) (b:=l.length) h.asc h.rng (by omega)
 omega
theorem Jk.congr {l:List AN} {A E:List Int} {Q R:List AN->Prop} (h:Jk l A Q E) (hq:∀ y,Q y↔R y):Jk l A R E:=
 ⟨h.asc,fun x=>(h.mem x).trans ⟨fun ⟨a,ha,h1,h2,k⟩=>⟨a,ha,h1,h2,(hq _).1 k⟩,fun ⟨a,ha,h1,h2,k⟩=>⟨a,ha,h1,h2,(hq _).2 k⟩⟩⟩
theorem Jk.seq {l:List AN} {A B E:List Int} {Q R:List AN->Prop} (hA:Xa l A) (h1:Jk l A Q B) (h2:Jk l B R E):Jk l A (fun y=>∃ u v,y=u++v∧Q u∧R v) E:=by
 refine ⟨h2.asc,fun x=>⟨fun hx=>?_,?_⟩⟩
 ·obtain ⟨b,hb,b1,b2,b3⟩:=(h2.mem x).1 hx
  obtain ⟨a,ha,a1,a2,a3⟩:=(h1.mem b).1 hb
  have:=hA.rng a ha
  refine ⟨a,ha,by omega,b2,?_⟩
  rw [show (x - a).toNat=x.toNat - a.toNat by omega]
  exact (R4 (P:=Q) (Q:=R) (by omega) (by omega)).2 ⟨b.toNat,by omega,by omega,by rwa [show b.toNat - a.toNat=(b - a).toNat by omega],by rwa [show x.toNat - b.toNat=(x - b).toNat by omega]⟩
 ·rintro ⟨a,ha,a1,a2,a3⟩
  have:=hA.rng a ha
  rw [show (x - a).toNat=x.toNat - a.toNat by omega] at a3
  obtain ⟨b,b1,b2,b3,b4⟩:=(R4 (P:=Q) (Q:=R) (by omega) (by omega)).1 a3
  refine (h2.mem x).2 ⟨(b:Int),(h1.mem b).2 ⟨a,ha,by omega,by omega,by rwa [show ((b:Int) - a).toNat=b - a.toNat by omega]⟩,by omega,a2,?_⟩
  rw [show (x - (b:Int)).toNat=x.toNat - b by omega]; simpa using b4
theorem Jk.or {l:List AN} {A B D E:List Int} {Q R:List AN->Prop} (h1:Jk l A Q B) (h2:Jk l A R D) (hE:O5 E) (hm:∀ x,x∈E↔x∈B∨x∈D):Jk l A (fun y=>Q y∨R y) E:=by
 refine ⟨hE,fun x=>(hm x).trans ?_⟩
 rw [h1.mem,h2.mem]
 constructor
 ·rintro (⟨a,ha,a1,a2,a3⟩ | ⟨a,ha,a1,a2,a3⟩)
  ·exact ⟨a,ha,a1,a2,.inl a3⟩
  ·exact ⟨a,ha,a1,a2,.inr a3⟩
 ·rintro ⟨a,ha,a1,a2,a3 | a3⟩
  ·exact .inl ⟨a,ha,a1,a2,a3⟩
  ·exact .inr ⟨a,ha,a1,a2,a3⟩
def IT:List Int->List Int->List Int
 | [],b=>b
 | x::a,[]=>x::a
 | x::a,y::b=>if x<y then x::IT a (y::b) else if x=y then y::IT a b else y::IT (x::a) b
termination_by a b=>a.length+b.length
theorem J0:∀ (n:Nat) (a b:List Int),a.length+b.length<=n->∀ x,x∈IT a b↔x∈a∨x∈b
 | _,[],b,_,x=>by rw [IT]; simp
 | _,z::a,[],_,x=>by rw [IT]; simp
 | 0,z::a,y::b,h,x=>by simp at h
 | n+1,z::a,y::b,h,x=>by
  simp only [List.length_cons] at h
  rw [IT]
  split
  ·rw [List.mem_cons,J0 n a (y::b) (by simp only [List.length_cons]; omega),List.mem_cons (l:=a),or_assoc]
  ·split
   ·rename_i e
    rw [List.mem_cons,J0 n a b (by omega),List.mem_cons,List.mem_cons,e]
    constructor
    ·rintro (k | k | k) <;> simp [k]
    ·rintro ((k | k) | (k | k)) <;> simp [k]
   ·rw [List.mem_cons,J0 n (z::a) b (by simp only [List.length_cons]; omega),List.mem_cons (l:=b)]
    constructor
    ·rintro (k | k | k) <;> simp [k]
    ·rintro (k | k | k) <;> simp [k]
theorem Nq:∀ (n:Nat) (a b:List Int),a.length+b.length<=n->O5 a->O5 b->O5 (IT a b)
 | _,[],b,_,_,hb=>by rw [IT]; exact hb
 | _,z::a,[],_,ha,_=>by rw [IT]; exact ha
 | 0,z::a,y::b,h,_,_=>by simp at h
 | n+1,z::a,y::b,h,ha,hb=>by
  simp only [List.length_cons] at h
  have ha':=List.pairwise_cons.1 ha
  have hb':=List.pairwise_cons.1 hb
  rw [IT]
  split
  ·refine List.pairwise_cons.2 ⟨fun x hx=>?_,Nq n a (y::b) (by simp only [List.length_cons]; omega) ha'.2 hb⟩
   rcases (J0 _ _ _ (Nat.le_refl _) x).1 hx with k | k
   ·exact ha'.1 x k
   ·rcases List.mem_cons.1 k with k | k
    ·omega
    ·have:=hb'.1 x k; omega
  ·split
   ·refine List.pairwise_cons.2 ⟨fun x hx=>?_,Nq n a b (by omega) ha'.2 hb'.2⟩
    rcases (J0 _ _ _ (Nat.le_refl _) x).1 hx with k | k
    ·have:=ha'.1 x k; omega
    ·exact hb'.1 x k
   ·refine List.pairwise_cons.2 ⟨fun x hx=>?_,Nq n (z::a) b (by simp only [List.length_cons]; omega) ha hb'.2⟩
    rcases (J0 _ _ _ (Nat.le_refl _) x).1 hx with k | k
    ·rcases List.mem_cons.1 k with k | k
     ·omega
     ·have:=ha'.1 x k; omega
    ·exact hb'.1 x k
theorem Jk.join {l:List AN} {A B D:List Int} {Q R:List AN->Prop} (h1:Jk l A Q B) (h2:Jk l A R D):Jk l A (fun y=>Q y∨R y) (IT B D):=
 h1.or h2 (Nq _ _ _ (Nat.le_refl _) h1.asc h2.asc) (J0 _ _ _ (Nat.le_refl _))
end Go.Sf.Sc
namespace Go.Sf.Sc
open Go Go.Sf
def IG:AA->List Int->Option AA
 | c,[]=>some c
 | c,k::p=>if 0<=k∧k<c.Kids.length then IG (AB c.Kids k) p else none
structure OS (h:A0) (r:AN) (k:AA):Prop where
 tru:r.Kind=1↔k.Kind=1
 ex:r.Kind≠1->k.Kind=5
 node:∀ x∈r.Nodes,0<=x∧x<h.Graph.Nodes.length
 len:r.Kind=2∨r.Kind=4->r.Nodes.length=k.Pattern.Graph.Nodes.length
theorem WM {t:AD} {h:A0} {inj:Bool} (hv:(BJ t).2=0) (hh:Hg t h) (n1:h.Graph.Nodes.length<=14) (n2:h.Graph.Edges.length<=18):∀ (N:Nat) (c:AA) (p:Pattern) (m:AG) (path:List Int) (good:Bool),CV t p c->CG t p c->M4 t p h m->∀ r∈ED t h inj N c m path good,∃ rest k,r.Path=path++rest∧IG c rest=some k∧OS h r k
 | 0,_,_,_,_,_,_,_,_,r,hr=>by simp [ED] at hr
 | N+1,c,p,m,path,good,hc,hg,ha,r,hr=>by
  have ih:=WM (inj:=inj) hv hh n1 n2 N
  have hrng:=hc.rng
  have step:∀ (i:Int) (rest:List Int) (k:AA),0<=i->i<c.Kids.length->r.Path=(path++[i])++rest->IG (AB c.Kids i) rest=some k->OS h r k->∃ rest k,r.Path=path++rest∧IG c rest=some k∧OS h r k:=fun i rest k i0 i1 e1 e2 e3=>⟨i::rest,k,by rw [e1]; simp,by rw [IG,if_pos ⟨i0,i1⟩]; exact e2,e3⟩
  have mnode:∀ {q:Pattern} {x:AG},M4 t q h x->∀ y∈x.Morphism.Nodes,0<=y∧y<h.Graph.Nodes.length:=fun hx y hy=>by
   obtain ⟨j,j0,j1,rfl⟩:=D8 hy
   exact (hx.m.node j j0 j1).1
  rw [ED] at hr
  by_cases h2:c.Kind=2
  ·rw [if_pos h2] at hr
   have h1:=hc.one (.inl h2)
   have hk:=AS (l:=c.Kids) (i:=0) (by omega) (by omega)
   obtain ⟨rest,k,e1,e2,e3⟩:=ih _ p m _ _ (hc.kid (by omega) _ hk) (hg.kid (by omega) _ hk) ha r hr
   exact step 0 rest k (by omega) (by omega) e1 e2 e3
  rw [if_neg h2] at hr
  by_cases h34:c.Kind=3∨c.Kind=4
  ·rw [if_pos h34] at hr
   have kid:∀ (i:Int) (g:Bool),0<=i->i<c.Kids.length->r∈ED t h inj N (AB c.Kids i) m (path++[i]) g->∃ rest k,r.Path=path++rest∧IG c rest=some k∧OS h r k:=fun i g i0 i1 hr=>by
    have hk:=AS (l:=c.Kids) i0 i1
    obtain ⟨rest,k,e1,e2,e3⟩:=ih _ p m _ _ (hc.kid (by omega) _ hk) (hg.kid (by omega) _ hk) ha r hr
    exact step i rest k i0 i1 e1 e2 e3
   split at hr
   ·obtain ⟨i,hi,hr⟩:=List.mem_flatMap.1 hr
    have:=EY.1 hi
    exact kid i _ (by omega) (by omega) hr
   ·cases hf:fst (fun i=>if G1 t h inj (AB c.Kids i) m=good then some (ED t h inj N (AB c.Kids i) m (path++[i]) good) else none) 0 c.Kids.length with
    | none=>rw [hf] at hr; simp at hr
    | some l=>
     rw [hf] at hr
     obtain ⟨i,i0,i1,k,_⟩:=CT hf
     split at k
     ·cases k; exact kid i _ i0 i1 hr
     ·cases k
  rw [if_neg h34] at hr
  by_cases h5:c.Kind=5
  ·have hi:=hc.ins h5
   have h1:=hc.one (.inr h5)
   have e0:=Nh (inj:=inj) hv hh ha hi (hg.ex h5).2 n1 n2
   obtain ⟨e1,e2⟩:=OD hv hh ha hi e0
   have hk:=AS (l:=c.Kids) (i:=0) (by omega) (by omega)
   rw [if_pos h5] at hr
   generalize hle:(DK t c h m inj).1=l at hr e1 e2
   have self:∀ (K:Int) (ns:List Int),r=⟨path,K,ns⟩->K≠1->(∀ x∈ns,0<=x∧x<h.Graph.Nodes.length)->(K=2∨K=4->ns.length=c.Pattern.Graph.Nodes.length)->∃ rest k,r.Path=path++rest∧IG c rest=some k∧OS h r k:=fun K ns e k1 k2 k3=>by
    subst e
    exact ⟨[],c,by simp,rfl,⟨⟨fun k=>absurd k k1,fun k=>by omega⟩,fun _=>h5,k2,k3⟩⟩
   have kid:∀ (i:Int) (g:Bool),0<=i->i<l.length->r∈ED t h inj N (AB c.Kids 0) (AB l i) (path++[0]) g->∃ rest k,r.Path=path++rest∧IG c rest=some k∧OS h r k:=fun i g i0 i1 hr=>by
    obtain ⟨rest,k,e1,e2,e3⟩:=ih _ c.Pattern _ _ _ (hc.kid5 h5 _ hk) (hg.kid5 h5 _ hk) (e2 _ (AS i0 i1)) r hr
    exact step 0 rest k (by omega) (by omega) e1 e2 e3
   have ext:∀ (i:Int) (K:Int),0<=i->i<l.length->K≠1->r=⟨path,K,(AB l i).Morphism.Nodes⟩->∃ rest k,r.Path=path++rest∧IG c rest=some k∧OS h r k:=fun i K i0 i1 hK e=>
    self K _ e hK (mnode (e2 _ (AS i0 i1))) (fun _=>(e2 _ (AS i0 i1)).m.nlen)
   split at hr
   ·split at hr
    ·exact self 3 m.Morphism.Nodes (by simpa using hr) (by decide) (mnode ha) (fun k=>by omega)
    ·obtain ⟨i,hi,hr⟩:=List.mem_flatMap.1 hr
     have:=EY.1 hi
     rcases List.mem_cons.1 hr with hr | hr
     ·exact ext i 4 (by omega) (by omega) (by decide) hr
     ·exact kid i _ (by omega) (by omega) hr
   ·cases hf:fst (fun i=>if G1 t h inj (AB c.Kids 0) (AB l i)=true then
     some ((⟨path,2,(AB l i).Morphism.Nodes⟩:AN)::if (AB c.Kids 0).Kind=1 then [] else ED t h inj N (AB c.Kids 0) (AB l i) (path++[0]) true) else none) 0 l.length with
    | none=>rw [hf] at hr; simp at hr
    | some l'=>
     rw [hf] at hr
     obtain ⟨i,i0,i1,k,_⟩:=CT hf
     split at k
     ·cases k
      rcases List.mem_cons.1 hr with hr | hr
      ·exact ext i 2 i0 i1 (by decide) hr
      ·split at hr
       ·simp at hr
       ·exact kid i _ i0 i1 hr
     ·cases k
  rw [if_neg h5,List.mem_singleton] at hr
  subst hr
  exact ⟨[],c,by simp,rfl,⟨⟨fun _=>by omega,fun _=>rfl⟩,fun k=>absurd rfl k,fun x hx=>by simp at hx,fun k=>by simp at k⟩⟩
theorem Yu {t:AD} {h:A0} {inj:Bool}:∀ (N:Nat) (c:AA) (p:Pattern) (m:AG) (path:List Int) (good:Bool),SizeOf.sizeOf c<=N->CV t p c->Mh N c=true->G1 t h inj c m=good->ED t h inj N c m path good≠[]
 | 0,c,_,_,_,_,h,_,_,_=>by have:=DW c; omega
 | N+1,c,p,m,path,good,hs,hc,hw,hd=>by
  have kid:∀ k∈c.Kids,SizeOf.sizeOf k<=N:=fun k hk=>by have:=EC hk; omega
  have ih:=Yu (t:=t) (h:=h) (inj:=inj) N
  rw [Mh,zzZ,List.all_eq_true] at hw
  obtain ⟨hb,hw⟩:=hw
  rw [T3] at hd
  rw [ED]
  by_cases h2:c.Kind=2
  ·have h1:=hc.one (.inl h2)
   have hk:=AS (l:=c.Kids) (i:=0) (by omega) (by omega)
   rw [if_pos h2,Lz h1] at hd
   rw [if_pos h2]
   exact ih _ p m _ _ (kid _ hk) (hc.kid (by omega) _ hk) (hw _ hk) (by rw [←hd,Bool.not_not])
  rw [if_neg h2] at hd
  rw [if_neg h2]
  by_cases h34:c.Kind=3∨c.Kind=4
  ·rw [if_pos h34]
   have hlen:1<=c.Kids.length:=by
    have:=hb
    unfold Nl at this
    rcases h34 with e | e <;> simp [e] at this <;> omega
   split
   ·rename_i hg
    have hk:=AS (l:=c.Kids) (i:=0) (by omega) (by omega)
    have h0:G1 t h inj (AB c.Kids 0) m=good:=by
     by_cases h3:c.Kind=3
     ·have hg':good=true:=by rw [←hg]; simp [h3]
      rw [if_pos h3,hg',List.all_eq_true] at hd
      rw [hg']; exact hd _ hk
     ·have hg':good=false:=by rw [←hg]; simp [h3]
      rw [if_neg h3,if_pos (by omega),hg',List.any_eq_false] at hd
      rw [hg']; simpa using hd _ hk
    intro e
    have:=(List.flatMap_eq_nil_iff.1 e) 0 (EY.2 (by omega))
    exact ih _ p m _ _ (kid _ hk) (hc.kid (by omega) _ hk) (hw _ hk) h0 this
   ·rename_i hg
    have hex:∃ k∈c.Kids,G1 t h inj k m=good:=by
     by_cases h3:c.Kind=3
     ·have hg:good=false:=by cases good <;> simp_all
      rw [if_pos h3,hg,List.all_eq_false] at hd
      obtain ⟨k,hk,e⟩:=hd
      exact ⟨k,hk,by rw [hg]; simpa using e⟩
     ·have hg:good=true:=by cases good <;> simp_all
      rw [if_neg h3,if_pos (by omega),hg,List.any_eq_true] at hd
      obtain ⟨k,hk,e⟩:=hd
      exact ⟨k,hk,by rw [hg]; exact e⟩
    obtain ⟨k,hk,e⟩:=hex
    obtain ⟨j,j0,j1,rfl⟩:=D8 hk
    cases hf:fst (fun i=>if G1 t h inj (AB c.Kids i) m=good then some (ED t h inj N (AB c.Kids i) m (path++[i]) good) else none) 0 c.Kids.length with
    | none=>
     have:=C2.1 hf j j0 j1
     rw [if_pos e] at this; cases this
    | some l=>
     obtain ⟨i,i0,i1,k,_⟩:=CT hf
     split at k
     ·rename_i hi
      cases k
      have hk:=AS (l:=c.Kids) i0 i1
      exact ih _ p m _ _ (kid _ hk) (hc.kid (by omega) _ hk) (hw _ hk) hi
     ·cases k
  rw [if_neg h34]
  rw [if_neg (by omega),if_neg (by omega)] at hd
  by_cases h5:c.Kind=5
  ·have h1:=hc.one (.inr h5)
   rw [if_pos h5,Lz h1] at hd
   rw [if_pos h5]
   generalize hle:(DK t c h m inj).1=l at hd ⊢
   split
   ·split
    ·simp
    ·rename_i hz
     intro e
     have:=(List.flatMap_eq_nil_iff.1 e) 0 (EY.2 (by omega))
     cases this
   ·rename_i hg
    have hg:good=true:=by cases good <;> simp_all
    subst hg
    rw [List.any_eq_true] at hd
    obtain ⟨k,hk',e⟩:=hd
    obtain ⟨j,j0,j1,rfl⟩:=D8 hk'
    cases hf:fst (fun i=>if G1 t h inj (AB c.Kids 0) (AB l i)=true then
     some ((⟨path,2,(AB l i).Morphism.Nodes⟩:AN)::if (AB c.Kids 0).Kind=1 then [] else ED t h inj N (AB c.Kids 0) (AB l i) (path++[0]) true) else none) 0 l.length with
    | none=>
     have:=C2.1 hf j j0 j1
     rw [if_pos e] at this; cases this
    | some l'=>
     obtain ⟨i,i0,i1,k,_⟩:=CT hf
     split at k
     ·cases k; simp
     ·cases k
  rw [if_neg h5]
  simp
end Go.Sf.Sc
namespace Go.Sf.Sc
open Go Go.Sf
theorem U4 (n:Nat):O5 (B2 n):=by
 unfold O5 B2
 rw [List.pairwise_map]
 exact List.Pairwise.imp (fun h=>Int.ofNat_lt.2 h) List.pairwise_lt_range
noncomputable def ZT (Q:List AN->Prop) (l:List AN):List Int:=(B2 (l.length+1)).filter fun x=>@decide (Q (l.take x.toNat)) (Classical.propDecidable _)
theorem TB (Q:List AN->Prop) (l:List AN):PF l Q (ZT Q l):=by
 refine ⟨List.Pairwise.filter _ (U4 _),fun x=>?_⟩
 unfold ZT
 rw [List.mem_filter,EY,@zzX _ (Classical.propDecidable _)]
 constructor
 ·rintro ⟨h1,h2⟩; exact ⟨by omega,h2⟩
 ·rintro ⟨h1,h2⟩; exact ⟨by omega,h2⟩
theorem PF.eq {l:List AN} {Q:List AN->Prop} {L:List Int} (h:PF l Q L):L=ZT Q l:=
 QX h.asc (TB Q l).asc fun x=>(h.mem x).trans ((TB Q l).mem x).symm
theorem PF.congr {l:List AN} {Q R:List AN->Prop} {L:List Int} (h:PF l Q L) (e:∀ y,Q y↔R y):PF l R L:=
 ⟨h.asc,fun x=>(h.mem x).trans ⟨fun ⟨a,b⟩=>⟨a,(e _).1 b⟩,fun ⟨a,b⟩=>⟨a,(e _).2 b⟩⟩⟩
end Go.Sf.Sc
namespace Go.Sf.Sc
open Go Go.Sf
end Go.Sf.Sc
namespace Go.Sf.Sc
open Go Go.Sf
noncomputable def ZD (Q:List AN->Prop) (l:List AN) (A:List Int):List Int:=(B2 (l.length+1)).filter fun x=>@decide (∃ a∈A,a<=x∧x<=l.length∧Q ((l.drop a.toNat).take (x - a).toNat)) (Classical.propDecidable _)
theorem Ss {l:List AN} {A:List Int} (hA:Xa l A) (Q:List AN->Prop):Jk l A Q (ZD Q l A):=by
 refine ⟨List.Pairwise.filter _ (U4 _),fun x=>?_⟩
 unfold ZD
 rw [List.mem_filter,EY,@zzX _ (Classical.propDecidable _)]
 constructor
 ·rintro ⟨_,h2⟩; exact h2
 ·rintro ⟨a,ha,h1,h2,h3⟩
  have:=hA.rng a ha
  exact ⟨by omega,a,ha,h1,h2,h3⟩
theorem Jk.eq {l:List AN} {A E:List Int} {Q:List AN->Prop} (hA:Xa l A) (h:Jk l A Q E):E=ZD Q l A:=
 QX h.asc (Ss hA Q).asc fun x=>(h.mem x).trans ((Ss hA Q).mem x).symm
end Go.Sf.Sc
namespace Go.Sf.Sc
open Go Go.Sf
theorem fi {t:AD} {p:Pattern} {c:AA} {h:A0} {m:AG} {inj:Bool} (hcg:Nc t p c h m inj=0) (hcv:CV t p c) (hg:CG t p c) (ha:M4 t p h m) (hv:(BJ t).2=0) (hh:Hg t h) (n1:h.Graph.Nodes.length<=14) (n2:h.Graph.Edges.length<=18):K0 t p c h m inj=(G1 t h inj c m,0):=by
 have hw:=WN (inj:=inj) hv hh n1 n2 _ c p m (Nat.le_refl _) hcv hg ha
 unfold K0 wS
 simp only [hcg,ne_eq,not_true_eq_false,if_false,hw]
 cases G1 t h inj c m <;> rfl
end Go.Sf.Sc
namespace Go.Sf.Sc
open Go Go.Sf
theorem ZC {t:AD} {p:Pattern} {c:AA} (hk:cnt c<=1000) (e:HU t p c=0):cnt c<=12∧RS c<=3∧Mh (SizeOf.sizeOf c) c=true:=by
 obtain ⟨w,m1,m2⟩:=Ut (PQ e).2.1
 rw [UQ hk] at m1 m2
 simp only at m1 m2
 exact ⟨by omega,by omega,w⟩
end Go.Sf.Sc
namespace Go.Sf.Sc
open Go Go.Sf
theorem U0:∀ (c:AA) (path:List Int) (k:AA) (i:Nat),IG c path=some k->i<path.length->∃ d,IG c (path.take i)=some d∧IG d (path.drop i)=some k
 | c,[],_,_,_,h=>by simp at h
 | c,x::p,k,0,h,_=>⟨c,rfl,h⟩
 | c,x::p,k,i+1,h,hi=>by
  rw [IG] at h
  split at h
  ·rename_i hx
   obtain ⟨d,e1,e2⟩:=U0 _ p k i h (by simpa using hi)
   exact ⟨d,by rw [List.take_succ_cons,IG,if_pos hx]; exact e1,by rw [List.drop_succ_cons]; exact e2⟩
  ·cases h
theorem U1:∀ (c:AA) (path:List Int) (d:AA) (x:Int),IG c path=some d->IG c (path++[x])=if 0<=x∧x<d.Kids.length then some (AB d.Kids x) else none
 | c,[],d,x,h=>by
  cases h
  rw [List.nil_append,IG]
  split <;> rfl
 | c,y::p,d,x,h=>by
  rw [IG] at h
  split at h
  ·rename_i hy
   rw [List.cons_append,IG,if_pos hy]
   exact U1 _ p d x h
  ·cases h
theorem e8 {c k:AA} {path:List Int} (h:IG c path=some k):NJ c path=some (k,true):=by
 unfold NJ
 rw [K5 (a:=0) (b:=path.length) (s:=(c,AA.mk 0 [] (Morphism.mk [] []) (Pattern.mk (Graph.mk [] []) [] 0 []))) (fun i=>((IG c (path.take i.toNat)).getD c,AA.mk 0 [] (Morphism.mk [] []) (Pattern.mk (Graph.mk [] []) [] 0 []))) (fun _=>none) (by omega) rfl (fun i i0 i1 _=>?_)]
 ·rw [C2.2 (fun _ _ _=>rfl),Int.toNat_natCast,List.take_length,h]; rfl
 ·obtain ⟨d,e1,e2⟩:=U0 c path k i.toNat h (by omega)
  rw [Qb (show i.toNat<path.length by omega),show ((i.toNat:Nat):Int)=i by omega,IG] at e2
  split at e2
  ·rename_i hx
   rw [AL i0 i1,bs,HP i0 i1,U1 _ _ d _ e1,e1,if_pos hx]
   dsimp only [Option.getD_some]
   rw [if_neg (by simp; omega),AL hx.1 hx.2]; rfl
  ·cases e2
theorem QH (t:AD) (x:G5) (y:H6) (st:(At t).Sm) (sx:(G2 x).Sm) (_:(I9 y).Sm):IU t x y=some true:=by
 obtain ⟨b,e,f⟩:=YK y st sx
 unfold IU
 rw [Y6,bs,if_neg (by decide),e]
 cases b
 ·rfl
 obtain ⟨hf,hc,hk,hl⟩:=f rfl
 simp only [bs,Bool.not_true,Bool.false_eq_true,if_false]
 rw [X6 hf hc hk hl,bs]
 by_cases h0:(K0 t x.P x.C y.H y.M y.Injective).2=0
 ·have hcg:=V5 h0
  have he:=Ty hcg
  obtain ⟨hv,hh,hcv,hg,ha,h12,n1,n2⟩:=TO hf hc hk hl h0
  have hsat:=fi hcg hcv hg ha hv hh n1 n2
  by_cases hd:G1 t y.H y.Injective x.C y.M=true
  ·have hx:Nf t x.P x.C y.H y.M y.Injective=([],10):=by
    unfold Nf
    rw [hsat,hd]; rfl
   rw [hx,if_pos (by decide)]; rfl
  ·have hd:G1 t y.H y.Injective x.C y.M=false:=by simpa using hd
   have hx:Nf t x.P x.C y.H y.M y.Injective=(ED t y.H y.Injective (SizeOf.sizeOf x.C) x.C y.M [] false,0):=by
    unfold Nf
    rw [hsat,hd]; rfl
   rw [hx,if_neg (by simp)]
   have hne:=Yu (t:=t) (h:=y.H) (inj:=y.Injective) (SizeOf.sizeOf x.C) x.C x.P y.M [] false (Nat.le_refl _) hcv (ZC (by omega) he).2.2 hd
   have hm:=WM (inj:=y.Injective) hv hh n1 n2 (SizeOf.sizeOf x.C) x.C x.P y.M [] false hcv hg ha
   dsimp only
   generalize ED t y.H y.Injective (SizeOf.sizeOf x.C) x.C y.M [] false=l at hne hm ⊢
   rw [C1 (fun _=>false) false]
   ·have:anyR (fun _=>false) 0 (l.length:Int)=false:=EB.2 fun _ _ _=>rfl
    rw [this]
    have:0<l.length:=List.length_pos_iff.2 hne
    show some (decide (0<(l.length:Int)))=_
    simp; omega
   ·intro i i0 i1 _
    obtain ⟨rest,k,p1,p2,p3⟩:=hm _ (AS i0 i1)
    rw [List.nil_append] at p1
    rw [AL i0 i1,bs,p1,e8 p2,bs]
    dsimp only
    have c1:¬ (((!true)||(!((decide ((AB l i).Kind=1))==(decide (k.Kind=1)))))||((!decide ((AB l i).Kind=1))&&(!decide (k.Kind=5))))=true:=by
     by_cases h1:(AB l i).Kind=1
     ·have:=p3.tru.1 h1
      simp [h1,this]
     ·have h5:=p3.ex h1
      simp [h1,h5]
    rw [if_neg c1,RQ (p:=fun n=>decide (n<0)||decide ((y.H.Graph.Nodes.length:Int)<=n)) (show ∀ n∈(AB l i).Nodes,Hm n y=_ from fun n _=>rfl),bs]
    have c2:(AB l i).Nodes.any (fun n=>decide (n<0)||decide ((y.H.Graph.Nodes.length:Int)<=n))=false:=by
     rw [List.any_eq_false]
     intro n hn
     have:=p3.node n hn
     simp; omega
    rw [c2,if_neg (by decide)]
    by_cases h24:(AB l i).Kind=2∨(AB l i).Kind=4
    ·rw [if_pos (by simpa using h24),if_neg (by rw [p3.len h24]; simp)]; rfl
    ·rw [if_neg (by simpa using h24)]; rfl
 ·have hx:(Nf t x.P x.C y.H y.M y.Injective)=([],(K0 t x.P x.C y.H y.M y.Injective).2):=by unfold Nf; rw [if_pos h0]
  rw [hx,if_pos (by simpa using h0)]; rfl
end Go.Sf.Sc
