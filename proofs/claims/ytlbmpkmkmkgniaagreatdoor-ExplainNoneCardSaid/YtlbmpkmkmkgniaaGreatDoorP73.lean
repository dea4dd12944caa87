/- Plain lemmas: what the functions of the program and of the reference compute. -/
import Derived.Test.YtlbmpkmkmkgniaaGreatDoorEval
import Derived.Test.YtlbmpkmkmkgniaaGreatDoorP52
set_option maxRecDepth 100000
namespace Go.Sf.Sc
open Go Go.Sf
def GV (t:AD) (h:A2) (inj:Bool):Nat->AA->AG->List Int->Bool->List AN
 | 0,_,_,_,_=>[]
 | N+1,c,m,path,good=>
  if c.Kind=2 then GV t h inj N (AB c.Kids 0) m (path++[0]) (!good) else
  if c.Kind=3∨c.Kind=4 then
   if decide (c.Kind=3)=good then (B2 c.Kids.length).flatMap fun i=>GV t h inj N (AB c.Kids i) m (path++[i]) good
   else (fst (fun i=>if HH t h inj (AB c.Kids i) m=good then some (GV t h inj N (AB c.Kids i) m (path++[i]) good) else none) 0 c.Kids.length).getD []
  else if c.Kind=5 then
   if good=false then
    if (DU t c h m inj).1.length=0 then [⟨path,3,m.Morphism.Nodes⟩] else
    (B2 (min (DU t c h m inj).1.length 5)).flatMap fun i=>⟨path,4,(AB (DU t c h m inj).1 i).Morphism.Nodes⟩::GV t h inj N (AB c.Kids 0) (AB (DU t c h m inj).1 i) (path++[0]) false
   else (fst (fun i=>if HH t h inj (AB c.Kids 0) (AB (DU t c h m inj).1 i)=true then
     some (⟨path,2,(AB (DU t c h m inj).1 i).Morphism.Nodes⟩::if (AB c.Kids 0).Kind=1 then [] else GV t h inj N (AB c.Kids 0) (AB (DU t c h m inj).1 i) (path++[0]) true) else none) 0 (DU t c h m inj).1.length).getD []
  else [⟨path,1,[]⟩]
theorem SH (c:AA):1<=cnt c:=by rw [Ju]; omega
theorem UD {F:Int->List AN}:∀ (l:List AA) (k:Nat),(∀ i:Int,k<=i->i<k+l.length->(F i).length<=6 ^ cnt (AB l (i - k)))->((List.range' k l.length).flatMap fun i=>F (i:Nat)).length<=6 ^ GJ l
 | [],k,_=>by simp [GJ]
 | c::l,k,h=>by
  have h0:=h k (by omega) (by simp; omega)
  have ih:=UD l (k+1) (fun i i0 i1=>by
   have:=h i (by omega) (by simp; omega)
   rw [show (i - (k:Int))=(i - ((k+1:Nat):Int))+1 by omega] at this
   rwa [show AB (c::l) (i - ((k+1:Nat):Int)+1)=AB l (i - ((k+1:Nat):Int)) by
    unfold AB
    rw [show (i - ((k+1:Nat):Int)+1).toNat=(i - ((k+1:Nat):Int)).toNat+1 by omega]; rfl] at this)
  rw [Int.sub_self] at h0
  rw [List.length_cons,List.range'_succ,List.flatMap_cons,List.length_append,GJ,Nat.pow_add]
  have h1:(F k).length<=6 ^ cnt c:=h0
  cases l with
  | nil=>simp [GJ] at ih ⊢; exact h1
  | cons d l=>
   have p1:6<=6 ^ cnt c:=by have:=Nat.pow_le_pow_right (n:=6) (by omega) (SH c); simpa using this
   have p2:6<=6 ^ GJ (d::l):=by
    have hd:=SH d
    have:=Nat.pow_le_pow_right (n:=6) (by omega) (show 1<=GJ (d::l) by rw [GJ]; omega); simpa using this
   have:=Nat.mul_le_mul_left (6 ^ cnt c) p2
   have:=Nat.mul_le_mul_right (6 ^ GJ (d::l)) p1
   omega
theorem Qi {a b:Nat} (h:a<=b):6 ^ a<=6 ^ b:=Nat.pow_le_pow_right (by omega) h
theorem SZ {t:AD} {h:A2} {inj:Bool}:∀ (N:Nat) (c:AA) (p:Pattern) (m:AG) (path:List Int) (good:Bool),CV t p c->(GV t h inj N c m path good).length<=6 ^ cnt c
 | 0,_,_,_,_,_,_=>by simp [GV]
 | N+1,c,p,m,path,good,hc=>by
  have he:=Ju c
  have hkid:∀ k∈c.Kids,cnt k<=cnt c - 1:=fun k hk=>by have:=NA hk; omega
  have ih:=SZ (t:=t) (h:=h) (inj:=inj) N
  have one:1<=6 ^ cnt c:=Nat.pow_pos (by omega)
  rw [GV]
  by_cases h2:c.Kind=2
  ·have h1:=hc.one (.inl h2)
   have hk:=AV (l:=c.Kids) (i:=0) (by omega) (by omega)
   rw [if_pos h2]
   exact Nat.le_trans (ih _ p m _ _ (hc.kid (by omega) _ hk)) (Qi (by have:=hkid _ hk; omega))
  rw [if_neg h2]
  by_cases h34:c.Kind=3∨c.Kind=4
  ·rw [if_pos h34]
   split
   ·have:=UD (F:=fun i=>GV t h inj N (AB c.Kids i) m (path++[i]) good) c.Kids 0 (fun i i0 i1=>by
     rw [show i - ((0:Nat):Int)=i by omega]
     exact ih _ p m _ _ (hc.kid (by omega) _ (AV (by omega) (by omega))))
    unfold B2
    rw [List.flatMap_map,List.range_eq_range']
    exact Nat.le_trans this (Qi (by omega))
   ·cases hr:fst (fun i=>if HH t h inj (AB c.Kids i) m=good then some (GV t h inj N (AB c.Kids i) m (path++[i]) good) else none) 0 c.Kids.length with
    | none=>simp
    | some r=>
     obtain ⟨i,i0,i1,k,_⟩:=DP hr
     split at k
     ·cases k
      have hk:=AV (l:=c.Kids) i0 i1
      exact Nat.le_trans (ih _ p m _ _ (hc.kid (by omega) _ hk)) (Qi (by have:=hkid _ hk; omega))
     ·cases k
  rw [if_neg h34]
  by_cases h5:c.Kind=5
  ·have h1:=hc.one (.inr h5)
   have hk:=AV (l:=c.Kids) (i:=0) (by omega) (by omega)
   have hck:=hkid _ hk
   have p0:=SH (AB c.Kids 0)
   have hcv:=hc.kid5 h5 _ hk
   have p1:6*6 ^ cnt (AB c.Kids 0)<=6 ^ cnt c:=by
    have:=Qi (show cnt (AB c.Kids 0)+1<=cnt c by omega)
    rw [Nat.pow_succ] at this; omega
   have p2:6<=6 ^ cnt (AB c.Kids 0):=by have:=Qi p0; simpa using this
   rw [if_pos h5]
   split
   ·split
    ·simpa using one
    ·refine Nat.le_trans (OY (B:=1+6 ^ cnt (AB c.Kids 0)) (fun i _=>?_)) ?_
     ·rw [List.length_cons]
      have:=ih (AB c.Kids 0) c.Pattern (AB (DU t c h m inj).1 i) (path++[0]) false hcv
      omega
     ·rw [D0]
      have:min (DU t c h m inj).1.length 5*(1+6 ^ cnt (AB c.Kids 0))<=5*(1+6 ^ cnt (AB c.Kids 0)):=Nat.mul_le_mul_right _ (by omega)
      omega
   ·generalize hle:(DU t c h m inj).1=l
    cases hr:fst (fun i=>if HH t h inj (AB c.Kids 0) (AB l i)=true then
     some ((⟨path,2,(AB l i).Morphism.Nodes⟩:AN)::if (AB c.Kids 0).Kind=1 then [] else GV t h inj N (AB c.Kids 0) (AB l i) (path++[0]) true) else none) 0 l.length with
    | none=>simp
    | some r=>
     obtain ⟨i,i0,i1,k,_⟩:=DP hr
     split at k
     ·cases k
      have:=ih (AB c.Kids 0) c.Pattern (AB l i) (path++[0]) true hcv
      simp only [Option.getD_some,List.length_cons]
      split
      ·simp; omega
      ·omega
     ·cases k
  rw [if_neg h5]
  simpa using one
end Go.Sf.Sc
namespace Go.Sf.Sc
open Go Go.Sf
theorem M8 {path:List Int} (h:path.length<=1000) (i:Int):DL path i=some (path++[i]):=by
 unfold DL slices_Clone_int
 rw [JG (by unfold B9; omega),bs,DY (by simp; unfold B9; omega)]; rfl
theorem Ph {path nodes:List Int} (h:path.length<=1000) (h2:nodes.length<=1000) (k:Int):E0 path k nodes=some ⟨path,k,nodes⟩:=by
 unfold E0 slices_Clone_int
 rw [JG (by unfold B9; omega),bs,JG (by unfold B9; omega)]; rfl
theorem Mk {α:Type} (F:Int->List α) {i:Int} (h:0<=i):(B2 (i+1).toNat).flatMap F=(B2 i.toNat).flatMap F++F i:=by
 rw [show (i+1).toNat=i.toNat+1 by omega,LB,List.flatMap_append,List.flatMap_cons,List.flatMap_nil,List.append_nil,show ((i.toNat:Nat):Int)=i by omega]
theorem PT {α:Type} (F:Int->List α) {k:Nat}:∀ {n:Nat},k<=n->((B2 k).flatMap F).length<=((B2 n).flatMap F).length
 | 0,h=>by rw [show k=0 by omega]; omega
 | n+1,h=>by
  by_cases e:k=n+1
  ·rw [e]; omega
  ·have:=PT F (k:=k) (n:=n) (by omega)
   rw [LB,List.flatMap_append,List.length_append]; omega
theorem nH {k:Nat} (h:k<=12):6 ^ k<=B9:=by
 refine Nat.le_trans (Qi h) ?_
 unfold B9; decide
theorem PN {s:AE} (hf:CA s.t) (hv:(BJ s.t).2=0) (hh:H1 s.t s.h) (n1:s.h.Graph.Nodes.length<=14) (n2:s.h.Graph.Edges.length<=18):∀ (N:Nat) (c:AA) (p:Pattern) (m:AG) (path:List Int) (good:Bool),SizeOf.sizeOf c<=N->CV s.t p c->CG s.t p c->N5 s.t p s.h m->cnt c<=12->path.length+cnt c<=1000->∀ n,2*N<=n->A5 n s c m path good=some (GV s.t s.h s.injective N c m path good)
 | 0,c,_,_,_,_,h,_,_,_,_,_,_,_=>by have:=DA c; omega
 | N+1,c,p,m,path,good,h,hc,hg,ha,hn12,hp,n,hn=>by
  obtain ⟨n,rfl⟩:∃ k,n=k+2:=⟨n - 2,by omega⟩
  have hl:=SZ (h:=s.h) (inj:=s.injective) (N+1) c p m path good hc
  have hl:=Nat.le_trans hl (nH hn12)
  have he:=Ju c
  have kid:∀ k∈c.Kids,SizeOf.sizeOf k<=N∧cnt k<=cnt c - 1:=fun k hk=>by have:=DW hk; have:=NA hk; omega
  have mn:=ha.m.nlen
  have qn:=ha.q.g.nodes
  rw [GV] at hl
  rw [A5,GV]
  by_cases h2:c.Kind=2
  ·have h1:=hc.one (.inl h2)
   have hk:=AV (l:=c.Kids) (i:=0) (by omega) (by omega)
   have hkk:=kid _ hk
   rw [if_pos (by simpa using h2),if_pos h2,AM (by omega) (by omega),bs,M8 (by omega),bs,
    PN hf hv hh n1 n2 N _ p m _ _ hkk.1 (hc.kid (by omega) _ hk) (hg.kid (by omega) _ hk) ha (by omega) (by simp; omega) (n+1) (by omega)]
   rfl
  rw [if_neg (by simpa using h2),if_neg h2]
  rw [if_neg h2] at hl
  by_cases h34:c.Kind=3∨c.Kind=4
  ·have hw:(if (decide (c.Kind=3))=true then some (decide (c.Kind=3)) else some (decide (c.Kind=4)))=some true:=by
    rcases h34 with e | e <;> simp [e]
   rw [hw,bs,if_pos rfl,if_pos h34,BZ]
   rw [if_pos h34] at hl
   have ih:∀ i:Int,0<=i->i<c.Kids.length->A5 n s (AB c.Kids i) m (path++[i]) good=some (GV s.t s.h s.injective N (AB c.Kids i) m (path++[i]) good):=fun i i0 i1=>by
    have hk:=AV (l:=c.Kids) i0 i1
    have hkk:=kid _ hk
    exact PN hf hv hh n1 n2 N _ p m _ _ hkk.1 (hc.kid (by omega) _ hk) (hg.kid (by omega) _ hk) ha (by omega) (by simp; omega) n (by omega)
   by_cases hb:decide (c.Kind=3)=good
   ·rw [if_pos hb] at hl ⊢
    rw [Ly (a:=0) (b:=c.Kids.length) (s:=[]) (fun i=>(B2 i.toNat).flatMap fun i=>GV s.t s.h s.injective N (AB c.Kids i) m (path++[i]) good) (fun _=>none) (by omega) rfl (fun i i0 i1 _=>by
     have hpre:=PT (fun i=>GV s.t s.h s.injective N (AB c.Kids i) m (path++[i]) good) (k:=(i+1).toNat) (n:=c.Kids.length) (by omega)
     rw [Mk _ i0,List.length_append] at hpre
     rw [AM i0 i1,bs,if_pos (by simp [hb]),M8 (by omega),bs,ih i i0 i1,bs,DY (by omega),bs,Mk _ i0]; rfl)]
    rw [DF.2 (fun _ _ _=>rfl),Int.toNat_natCast]; rfl
   ·rw [if_neg hb]
    rw [Ly (a:=0) (b:=c.Kids.length) (s:=[]) (fun _=>[]) (fun i=>if HH s.t s.h s.injective (AB c.Kids i) m=good then some (GV s.t s.h s.injective N (AB c.Kids i) m (path++[i]) good) else none) (by omega) rfl (fun i i0 i1 _=>by
     have hk:=AV (l:=c.Kids) i0 i1
     rw [AM i0 i1,bs,if_neg (by simp [hb]),e_holds hf hv hh n1 n2 (hc.kid (by omega) _ hk) (hg.kid (by omega) _ hk) ha,bs]
     by_cases e:HH s.t s.h s.injective (AB c.Kids i) m=good
     ·rw [if_pos (by simp [e]),M8 (by omega),bs,ih i i0 i1,bs,if_pos e]; rfl
     ·rw [if_neg (by simp [e]),if_neg e]; rfl)]
    cases fst (fun i=>if HH s.t s.h s.injective (AB c.Kids i) m=good then some (GV s.t s.h s.injective N (AB c.Kids i) m (path++[i]) good) else none) 0 c.Kids.length <;> rfl
  have hw:(if (decide (c.Kind=3))=true then some (decide (c.Kind=3)) else some (decide (c.Kind=4)))=some false:=by
   rw [if_neg (by simp; omega)]
   simp; omega
  rw [hw,bs,if_neg (by decide),if_neg h34]
  rw [if_neg h34] at hl
  by_cases h5:c.Kind=5
  ·have hi:=hc.ins h5
   have h1:=hc.one (.inr h5)
   have e0:=PP (inj:=s.injective) hv hh ha hi (hg.ex h5).2 n1 n2
   obtain ⟨e1,e2⟩:=Pu hv hh ha hi e0
   have hk:=AV (l:=c.Kids) (i:=0) (by omega) (by omega)
   have hkk:=kid _ hk
   have i0:AL c.Kids 0=some (AB c.Kids 0):=AM (by omega) (by omega)
   rw [if_pos (by simpa using h5),if_pos h5,B5,Xq hf hv hh ha hi e0,bs]
   rw [if_pos h5] at hl
   generalize hle:(DU s.t c s.h m s.injective).1=l at hl e1 e2 ⊢
   have ih:∀ (i:Int) (g:Bool),0<=i->i<l.length->A5 n s (AB c.Kids 0) (AB l i) (path++[0]) g=some (GV s.t s.h s.injective N (AB c.Kids 0) (AB l i) (path++[0]) g):=fun i g i0 i1=>
    PN hf hv hh n1 n2 N _ c.Pattern _ _ _ hkk.1 (hc.kid5 h5 _ hk) (hg.kid5 h5 _ hk) (e2 _ (AV i0 i1)) (by omega) (by simp; omega) n (by omega)
   have rs:∀ (i:Int) (k:Int),0<=i->i<l.length->E0 path k (AB l i).Morphism.Nodes=some ⟨path,k,(AB l i).Morphism.Nodes⟩:=fun i k i0 i1=>by
    have:=e2 _ (AV i0 i1)
    have a1:=this.m.nlen
    have a2:=this.q.g.nodes
    exact Ph (by omega) (by omega) k
   cases good
   ·rw [if_pos rfl] at hl ⊢
    by_cases hz:l.length=0
    ·rw [if_pos (by simp [hz]),if_pos hz,Ph (by omega) (by omega)]; rfl
    ·have hz':¬ ((!false)&&decide ((l.length:Int)=0))=true:=by
      rw [zzZ,zzX]; omega
     rw [if_neg hz',if_neg hz]
     rw [if_neg hz] at hl
     rw [Ly (a:=0) (b:=l.length) (s:=[]) (fun i=>(B2 (min i 5).toNat).flatMap fun i=>(⟨path,4,(AB l i).Morphism.Nodes⟩:AN)::GV s.t s.h s.injective N (AB c.Kids 0) (AB l i) (path++[0]) false) (fun _=>none) (by omega) rfl (fun i j0 j1 _=>by
      rw [AM j0 j1,bs]
      by_cases h5':i<5
      ·have hpre:=PT (fun i=>(⟨path,4,(AB l i).Morphism.Nodes⟩:AN)::GV s.t s.h s.injective N (AB c.Kids 0) (AB l i) (path++[0]) false) (k:=(i+1).toNat) (n:=min l.length 5) (by omega)
       rw [Mk _ j0,List.length_append,List.length_cons] at hpre
       rw [show (min (i+1) 5)=i+1 by omega,show min i 5=i by omega,Mk _ j0]
       rw [if_pos (by simp; omega),rs i 4 j0 j1,bs,DY (by simp only [List.length_cons,List.length_nil]; omega),bs,i0,bs,M8 (by omega),bs,ih i false j0 j1,bs,DY (by simp only [List.length_append,List.length_cons,List.length_nil]; omega),bs,List.append_assoc]; rfl
      ·rw [show (min (i+1) 5)=5 by omega,show min i 5=5 by omega,if_neg (by simp; omega)]; rfl)]
     rw [DF.2 (fun _ _ _=>rfl),show (min (l.length:Int) 5).toNat=min l.length 5 by omega]; rfl
   ·rw [if_neg (by simp),if_neg (by simp)]
    rw [Ly (a:=0) (b:=l.length) (s:=[]) (fun _=>[]) (fun i=>if HH s.t s.h s.injective (AB c.Kids 0) (AB l i)=true then
     some ((⟨path,2,(AB l i).Morphism.Nodes⟩:AN)::if (AB c.Kids 0).Kind=1 then [] else GV s.t s.h s.injective N (AB c.Kids 0) (AB l i) (path++[0]) true) else none) (by omega) rfl (fun i j0 j1 _=>by
     rw [AM j0 j1,bs,if_neg (by simp),if_pos rfl,i0,bs,e_holds hf hv hh n1 n2 (hc.kid5 h5 _ hk) (hg.kid5 h5 _ hk) (e2 _ (AV j0 j1)),bs,bs]
     by_cases e:HH s.t s.h s.injective (AB c.Kids 0) (AB l i)=true
     ·have hlen:=SZ (h:=s.h) (inj:=s.injective) N (AB c.Kids 0) c.Pattern (AB l i) (path++[0]) true (hc.kid5 h5 _ hk)
      have:=Qi (show cnt (AB c.Kids 0)<=11 by omega)
      rw [if_pos e,if_pos e,rs i 2 j0 j1,bs,bs]
      by_cases ek:(AB c.Kids 0).Kind=1
      ·rw [if_neg (by simp [ek]),if_pos ek]; rfl
      ·rw [if_pos (by simp [ek]),if_neg ek,bs,M8 (by omega),bs,ih i true j0 j1,bs,DY (by simp only [List.length_cons,List.length_nil]; unfold B9; omega)]; rfl
     ·rw [if_neg e,if_neg e]; rfl)]
    cases fst (fun i=>if HH s.t s.h s.injective (AB c.Kids 0) (AB l i)=true then
     some ((⟨path,2,(AB l i).Morphism.Nodes⟩:AN)::if (AB c.Kids 0).Kind=1 then [] else GV s.t s.h s.injective N (AB c.Kids 0) (AB l i) (path++[0]) true) else none) 0 l.length <;> rfl
  rw [if_neg (by simpa using h5),if_neg h5,Ph (by omega) (by simp)]; rfl
end Go.Sf.Sc
namespace Go.Sf.Sc
open Go Go.Sf
end Go.Sf.Sc
namespace Go.Sf.Sc
open Go Go.Sf
theorem X5 {x:G7} (sx:(G4 x).Sm):(AF x.C).Sm:=by
 obtain ⟨p,c⟩:=x
 cases c
 have sx':TV.Sms [_,_,_,_,_,_,_,_,_,_,_,_,_,_]:=sx
 obtain ⟨_,_,_,_,_,h⟩:=sx'
 exact h
theorem YK {t:AD} {x:G7} (y:JK) (st:(At t).Sm) (sx:(G4 x).Sm):∃ b,KY t x y=some b∧(b=true->CA t∧D6 x.C∧cnt x.C<=40∧FP t x.P x.C y.H=some true):=by
 obtain ⟨b1,e1,f1⟩:=St st
 unfold KY
 rw [e1,bs]
 cases b1
 ·exact ⟨_,rfl,fun h=>by simp at h⟩
 obtain ⟨b2,e2,f2⟩:=YH (f1 rfl) st x.P (X5 sx) y.H
 rw [if_pos rfl,e2]
 refine ⟨_,rfl,fun h=>?_⟩
 rw [zzZ,zzZ] at h
 have hb:b2=true:=h.1.1
 subst hb
 have:=f2 rfl
 exact ⟨f1 rfl,this.1,this.2.1,rfl⟩
theorem Wk {t:AD} (hf:CA t) {p:Pattern} {c:AA} (hc:D6 c) (hk:cnt c<=1000) (he:ED t p c=0) {h:A2} (hl:FP t p c h=some true):Qr p c h:=by
 obtain ⟨b,e,f⟩:=ZT hf hc hk he h
 rw [hl] at e
 cases e
 exact f rfl
theorem Ty {t:AD} {p:Pattern} {c:AA} {h:A2} {m:AG} {inj:Bool} (e:Mf t p c h m inj=0):ED t p c=0:=by
 unfold Mf at e
 split at e
 ·rename_i k; exact absurd e k
 ·rename_i k; exact Classical.not_not.1 k
theorem V6 {t:AD} {p:Pattern} {c:AA} {h:A2} {m:AG} {inj:Bool} (e:(J7 t p c h m inj).2=0):Mf t p c h m inj=0:=by
 by_cases h0:Mf t p c h m inj=0
 ·exact h0
 have hw:(wS t p c h m inj).2=Mf t p c h m inj:=by unfold wS; rw [if_pos h0]
 unfold J7 at e
 rw [hw,if_neg (Y9 t p c h m inj)] at e
 exact e
theorem Tz {t:AD} {p:Pattern} {c:AA} (hk:cnt c<=1000) (e:ED t p c=0):cnt c<=12:=by
 obtain ⟨_,m1,_⟩:=Uv (PL e).2.1
 rw [ZV hk] at m1
 simp only at m1
 omega
noncomputable def Pt (t:AD) (p:Pattern) (c:AA) (h:A2) (m:AG) (inj:Bool):List AN × Int:=
 if (J7 t p c h m inj).2≠0 then ([],(J7 t p c h m inj).2) else if (J7 t p c h m inj).1=true then ([],10) else (GV t h inj (SizeOf.sizeOf c) c m [] false,0)
theorem TN {t:AD} (hf:CA t) {p:Pattern} {c:AA} (hc:D6 c) (hk:cnt c<=40) {h:A2} {m:AG} {inj:Bool} (hl:FP t p c h=some true) (e:(J7 t p c h m inj).2=0) :
  (BJ t).2=0∧H1 t h∧CV t p c∧CG t p c∧N5 t p h m∧cnt c<=12∧h.Graph.Nodes.length<=14∧h.Graph.Edges.length<=18:=by
 have h0:=V6 e
 have he:=Ty h0
 obtain ⟨hv,hh,hcv,ha⟩:=aZ hf hk h0
 have hlc:=Wk hf hc (by omega) he hl
 have:=hlc.nodes
 have:=hlc.edges
 exact ⟨hv,hh,hcv,ZS hlc he,ha,Tz (by omega) he,by omega,by omega⟩
theorem X6 {t:AD} (hf:CA t) {p:Pattern} {c:AA} (hc:D6 c) (hk:cnt c<=40) {h:A2} {m:AG} {inj:Bool} (hl:FP t p c h=some true):C3 t p c h m inj=some (Pt t p c h m inj):=by
 unfold C3 Pt
 rw [N2 hf p hc hk,bs]
 by_cases e:(J7 t p c h m inj).2=0
 ·have e':¬ (J7 t p c h m inj).2≠0:=fun k=>k e
  rw [if_neg (by simp [e]),if_neg e']
  by_cases e1:(J7 t p c h m inj).1=true
  ·rw [if_pos e1,if_pos e1]
  ·obtain ⟨hv,hh,hcv,hg,ha,h12,n1,n2⟩:=TN hf hc hk hl e
   rw [if_neg e1,if_neg e1,show FL ⟨t,h,inj⟩ c m [] false=some (GV t h inj (SizeOf.sizeOf c) c m [] false) from GY (2*SizeOf.sizeOf c) fun n hn=>PN (s:=⟨t,h,inj⟩) hf hv hh n1 n2 _ c p m [] false (Nat.le_refl _) hcv hg ha h12 (by simp; omega) n hn]
   rfl
 ·rw [if_pos (by simp [e]),if_pos e]
instance:Inhabited AN:=⟨⟨[],0,[]⟩⟩
end Go.Sf.Sc
namespace Go.Sf.Sc
open Go Go.Sf
def O0 (l:List Int):Prop:=l.Pairwise (·<·)
theorem QO:∀ {a b:List Int},O0 a->O0 b->(∀ x,x∈a↔x∈b)->a=b
 | [],[],_,_,_=>rfl
 | [],y::b,_,_,h=>by have:=(h y).2 (by simp); simp at this
 | x::a,[],_,_,h=>by have:=(h x).1 (by simp); simp at this
 | x::a,y::b,ha,hb,h=>by
  have ha':=List.pairwise_cons.1 ha
  have hb':=List.pairwise_cons.1 hb
  have e:x=y:=by
   have h1:=(h x).1 (by simp)
   have h2:=(h y).2 (by simp)
   rcases List.mem_cons.1 h1 with e | h1
   ·exact e
   ·rcases List.mem_cons.1 h2 with e | h2
    ·exact e.symm
    ·have:=hb'.1 x h1
     have:=ha'.1 y h2
     omega
  subst e
  rw [QO ha'.2 hb'.2 fun z=>by
   constructor
   ·intro hz
    have:=ha'.1 z hz
    rcases List.mem_cons.1 ((h z).1 (List.mem_cons_of_mem _ hz)) with e | k
    ·omega
    ·exact k
   ·intro hz
    have:=hb'.1 z hz
    rcases List.mem_cons.1 ((h z).2 (List.mem_cons_of_mem _ hz)) with e | k
    ·omega
    ·exact k]
end Go.Sf.Sc
namespace Go.Sf.Sc
open Go Go.Sf
end Go.Sf.Sc
namespace Go.Sf.Sc
open Go Go.Sf
end Go.Sf.Sc
namespace Go.Sf.Sc
open Go Go.Sf
end Go.Sf.Sc
namespace Go.Sf.Sc
open Go Go.Sf
structure O9 (l:List AN) (Q:List AN->Prop) (L:List Int):Prop where
 asc:O0 L
 mem:∀ x,x∈L↔(0<=x∧x<=l.length)∧Q (l.take x.toNat)
theorem QN:∀ {L:List Int} {a b:Int},O0 L->(∀ x∈L,a<=x∧x<=b)->a<=b+1->(L.length:Int)<=b+1 - a
 | [],_,_,_,_,h=>by simp; omega
 | y::L,a,b,h,hm,_=>by
  have h':=List.pairwise_cons.1 h
  have hy:=hm y (by simp)
  have:=QN (a:=y+1) (b:=b) h'.2 (fun x hx=>⟨by have:=h'.1 x hx; omega,(hm x (List.mem_cons_of_mem _ hx)).2⟩) (by omega)
  rw [List.length_cons]
  omega
theorem O9.len {l:List AN} {Q:List AN->Prop} {L:List Int} (h:O9 l Q L):L.length<=l.length+1:=by
 have:=QN (a:=0) (b:=l.length) h.asc (fun x hx=>((h.mem x).1 hx).1) (by omega)
 omega
end Go.Sf.Sc
namespace Go.Sf.Sc
open Go Go.Sf
theorem Rx {P Q:List AN->Prop} {l:List AN} {a x:Nat} (h1:a<=x) (h2:x<=l.length):(∃ u v,(l.drop a).take (x - a)=u++v∧P u∧Q v)↔∃ b,a<=b∧b<=x∧P ((l.drop a).take (b - a))∧Q ((l.drop b).take (x - b)):=by
 constructor
 ·rintro ⟨u,v,e,hu,hv⟩
  have hl:u.length+v.length=x - a:=by
   have:=congrArg List.length e
   rw [List.length_take,List.length_drop,List.length_append] at this; omega
  refine ⟨a+u.length,by omega,by omega,?_,?_⟩
  ·have:=congrArg (List.take u.length) e
   rw [List.take_take,List.take_left,show min u.length (x - a)=u.length by omega] at this
   rw [show a+u.length - a=u.length by omega,this]; exact hu
  ·have:=congrArg (List.drop u.length) e
   rw [List.drop_take,List.drop_left,List.drop_drop] at this
   rw [show x - (a+u.length)=x - a - u.length by omega,this]; exact hv
 ·rintro ⟨b,b1,b2,hu,hv⟩
  refine ⟨_,_,?_,hu,hv⟩
  rw [show l.drop b=(l.drop a).drop (b - a) by rw [List.drop_drop]; congr 1; omega,show x - a=(b - a)+(x - b) by omega,List.take_add]
structure Xa (l:List AN) (A:List Int):Prop where
 asc:O0 A
 rng:∀ a∈A,0<=a∧a<=l.length
structure Jj (l:List AN) (A:List Int) (Q:List AN->Prop) (E:List Int):Prop where
 asc:O0 E
 mem:∀ x,x∈E↔∃ a∈A,a<=x∧x<=l.length∧Q ((l.drop a.toNat).take (x - a).toNat)
theorem Xa.len {l:List AN} {A:List Int} (h:Xa l A):A.length<=l.length+1:=by
 have:=QN (a:=0) (b:=l.length) h.asc h.rng (by omega)
 omega
theorem Jj.congr {l:List AN} {A E:List Int} {Q R:List AN->Prop} (h:Jj l A Q E) (hq:∀ y,Q y↔R y):Jj l A R E:=
 ⟨h.asc,fun x=>(h.mem x).trans ⟨fun ⟨a,ha,h1,h2,k⟩=>⟨a,ha,h1,h2,(hq _).1 k⟩,fun ⟨a,ha,h1,h2,k⟩=>⟨a,ha,h1,h2,(hq _).2 k⟩⟩⟩
theorem Jj.seq {l:List AN} {A B E:List Int} {Q R:List AN->Prop} (hA:Xa l A) (h1:Jj l A Q B) (h2:Jj l B R E):Jj l A (fun y=>∃ u v,y=u++v∧Q u∧R v) E:=by
 refine ⟨h2.asc,fun x=>⟨fun hx=>?_,?_⟩⟩
 ·obtain ⟨b,hb,b1,b2,b3⟩:=(h2.mem x).1 hx
  obtain ⟨a,ha,a1,a2,a3⟩:=(h1.mem b).1 hb
  have:=hA.rng a ha
  refine ⟨a,ha,by omega,b2,?_⟩
  rw [show (x - a).toNat=x.toNat - a.toNat by omega]
  exact (Rx (P:=Q) (Q:=R) (by omega) (by omega)).2 ⟨b.toNat,by omega,by omega,by rwa [show b.toNat - a.toNat=(b - a).toNat by omega],by rwa [show x.toNat - b.toNat=(x - b).toNat by omega]⟩
 ·rintro ⟨a,ha,a1,a2,a3⟩
  have:=hA.rng a ha
  rw [show (x - a).toNat=x.toNat - a.toNat by omega] at a3
  obtain ⟨b,b1,b2,b3,b4⟩:=(Rx (P:=Q) (Q:=R) (by omega) (by omega)).1 a3
  refine (h2.mem x).2 ⟨(b:Int),(h1.mem b).2 ⟨a,ha,by omega,by omega,by rwa [show ((b:Int) - a).toNat=b - a.toNat by omega]⟩,by omega,a2,?_⟩
  rw [show (x - (b:Int)).toNat=x.toNat - b by omega]; simpa using b4
theorem Jj.or {l:List AN} {A B D E:List Int} {Q R:List AN->Prop} (h1:Jj l A Q B) (h2:Jj l A R D) (hE:O0 E) (hm:∀ x,x∈E↔x∈B∨x∈D):Jj l A (fun y=>Q y∨R y) E:=by
 refine ⟨hE,fun x=>(hm x).trans ?_⟩
 rw [h1.mem,h2.mem]
 constructor
 ·rintro (⟨a,ha,a1,a2,a3⟩ | ⟨a,ha,a1,a2,a3⟩)
  ·exact ⟨a,ha,a1,a2,.inl a3⟩
  ·exact ⟨a,ha,a1,a2,.inr a3⟩
 ·rintro ⟨a,ha,a1,a2,a3 | a3⟩
  ·exact .inl ⟨a,ha,a1,a2,a3⟩
  ·exact .inr ⟨a,ha,a1,a2,a3⟩
def IR:List Int->List Int->List Int
 | [],b=>b
 | x::a,[]=>x::a
 | x::a,y::b=>if x<y then x::IR a (y::b) else if x=y then y::IR a b else y::IR (x::a) b
termination_by a b=>a.length+b.length
theorem J1:∀ (n:Nat) (a b:List Int),a.length+b.length<=n->∀ x,x∈IR a b↔x∈a∨x∈b
 | _,[],b,_,x=>by rw [IR]; simp
 | _,z::a,[],_,x=>by rw [IR]; simp
 | 0,z::a,y::b,h,x=>by simp at h
 | n+1,z::a,y::b,h,x=>by
  simp only [List.length_cons] at h
  rw [IR]
  split
  ·rw [List.mem_cons,J1 n a (y::b) (by simp only [List.length_cons]; omega),List.mem_cons (l:=a),or_assoc]
  ·split
   ·rename_i e
    rw [List.mem_cons,J1 n a b (by omega),List.mem_cons,List.mem_cons,e]
    constructor
    ·rintro (k | k | k) <;> simp [k]
    ·rintro ((k | k) | (k | k)) <;> simp [k]
   ·rw [List.mem_cons,J1 n (z::a) b (by simp only [List.length_cons]; omega),List.mem_cons (l:=b)]
    constructor
    ·rintro (k | k | k) <;> simp [k]
    ·rintro (k | k | k) <;> simp [k]
theorem Ni:∀ (n:Nat) (a b:List Int),a.length+b.length<=n->O0 a->O0 b->O0 (IR a b)
 | _,[],b,_,_,hb=>by rw [IR]; exact hb
 | _,z::a,[],_,ha,_=>by rw [IR]; exact ha
 | 0,z::a,y::b,h,_,_=>by simp at h
 | n+1,z::a,y::b,h,ha,hb=>by
  simp only [List.length_cons] at h
  have ha':=List.pairwise_cons.1 ha
  have hb':=List.pairwise_cons.1 hb
  rw [IR]
  split
  ·refine List.pairwise_cons.2 ⟨fun x hx=>?_,Ni n a (y::b) (by simp only [List.length_cons]; omega) ha'.2 hb⟩
   rcases (J1 _ _ _ (Nat.le_refl _) x).1 hx with k | k
   ·exact ha'.1 x k
   ·rcases List.mem_cons.1 k with k | k
    ·omega
    ·have:=hb'.1 x k; omega
  ·split
   ·refine List.pairwise_cons.2 ⟨fun x hx=>?_,Ni n a b (by omega) ha'.2 hb'.2⟩
    rcases (J1 _ _ _ (Nat.le_refl _) x).1 hx with k | k
    ·have:=ha'.1 x k; omega
    ·exact hb'.1 x k
   ·refine List.pairwise_cons.2 ⟨fun x hx=>?_,Ni n (z::a) b (by simp only [List.length_cons]; omega) ha hb'.2⟩
    rcases (J1 _ _ _ (Nat.le_refl _) x).1 hx with k | k
    ·rcases List.mem_cons.1 k with k | k
     ·omega
     ·have:=ha'.1 x k; omega
    ·exact hb'.1 x k
theorem Jj.join {l:List AN} {A B D:List Int} {Q R:List AN->Prop} (h1:Jj l A Q B) (h2:Jj l A R D):Jj l A (fun y=>Q y∨R y) (IR B D):=
 h1.or h2 (Ni _ _ _ (Nat.le_refl _) h1.asc h2.asc) (J1 _ _ _ (Nat.le_refl _))
end Go.Sf.Sc
namespace Go.Sf.Sc
open Go Go.Sf
theorem U4 (n:Nat):O0 (B2 n):=by
 unfold O0 B2
 rw [List.pairwise_map]
 exact List.Pairwise.imp (fun h=>Int.ofNat_lt.2 h) List.pairwise_lt_range
noncomputable def ZQ (Q:List AN->Prop) (l:List AN):List Int:=(B2 (l.length+1)).filter fun x=>@decide (Q (l.take x.toNat)) (Classical.propDecidable _)
theorem S9 (Q:List AN->Prop) (l:List AN):O9 l Q (ZQ Q l):=by
 refine ⟨List.Pairwise.filter _ (U4 _),fun x=>?_⟩
 unfold ZQ
 rw [List.mem_filter,G2,@zzX _ (Classical.propDecidable _)]
 constructor
 ·rintro ⟨h1,h2⟩; exact ⟨by omega,h2⟩
 ·rintro ⟨h1,h2⟩; exact ⟨by omega,h2⟩
theorem O9.eq {l:List AN} {Q:List AN->Prop} {L:List Int} (h:O9 l Q L):L=ZQ Q l:=
 QO h.asc (S9 Q l).asc fun x=>(h.mem x).trans ((S9 Q l).mem x).symm
theorem O9.congr {l:List AN} {Q R:List AN->Prop} {L:List Int} (h:O9 l Q L) (e:∀ y,Q y↔R y):O9 l R L:=
 ⟨h.asc,fun x=>(h.mem x).trans ⟨fun ⟨a,b⟩=>⟨a,(e _).1 b⟩,fun ⟨a,b⟩=>⟨a,(e _).2 b⟩⟩⟩
end Go.Sf.Sc
namespace Go.Sf.Sc
open Go Go.Sf
end Go.Sf.Sc
namespace Go.Sf.Sc
open Go Go.Sf
noncomputable def ZA (Q:List AN->Prop) (l:List AN) (A:List Int):List Int:=(B2 (l.length+1)).filter fun x=>@decide (∃ a∈A,a<=x∧x<=l.length∧Q ((l.drop a.toNat).take (x - a).toNat)) (Classical.propDecidable _)
theorem So {l:List AN} {A:List Int} (hA:Xa l A) (Q:List AN->Prop):Jj l A Q (ZA Q l A):=by
 refine ⟨List.Pairwise.filter _ (U4 _),fun x=>?_⟩
 unfold ZA
 rw [List.mem_filter,G2,@zzX _ (Classical.propDecidable _)]
 constructor
 ·rintro ⟨_,h2⟩; exact h2
 ·rintro ⟨a,ha,h1,h2,h3⟩
  have:=hA.rng a ha
  exact ⟨by omega,a,ha,h1,h2,h3⟩
theorem Jj.eq {l:List AN} {A E:List Int} {Q:List AN->Prop} (hA:Xa l A) (h:Jj l A Q E):E=ZA Q l A:=
 QO h.asc (So hA Q).asc fun x=>(h.mem x).trans ((So hA Q).mem x).symm
end Go.Sf.Sc
namespace Go.Sf.Sc
open Go Go.Sf
theorem YU {t:AD} {p:Pattern} {c:AA} {h:A2} {m:AG} {inj:Bool} (hcg:Mf t p c h m inj=0) (hcv:CV t p c) (hg:CG t p c) (ha:N5 t p h m) (hv:(BJ t).2=0) (hh:H1 t h) (n1:h.Graph.Nodes.length<=14) (n2:h.Graph.Edges.length<=18):J7 t p c h m inj=(HH t h inj c m,0):=by
 have hw:=WN (inj:=inj) hv hh n1 n2 _ c p m (Nat.le_refl _) hcv hg ha
 unfold J7 wS
 simp only [hcg,ne_eq,not_true_eq_false,if_false,hw]
 cases HH t h inj c m <;> rfl
end Go.Sf.Sc
namespace Go.Sf.Sc
open Go Go.Sf
end Go.Sf.Sc
namespace Go.Sf.Sc
open Go Go.Sf
theorem U7:∀ (N M:Nat) (c:AA),SizeOf.sizeOf c<=N->SizeOf.sizeOf c<=M->Lq N c=Lq M c
 | 0,_,c,h,_=>by have:=DA c; omega
 | N+1,0,c,_,h=>by have:=DA c; omega
 | N+1,M+1,c,h1,h2=>by
  rw [Lq,Lq]
  congr 1
  rw [Bool.eq_iff_iff,List.all_eq_true,List.all_eq_true]
  constructor
  ·intro k x hx
   have:=DW hx
   rw [←U7 N M x (by omega) (by omega)]; exact k x hx
  ·intro k x hx
   have:=DW hx
   rw [U7 N M x (by omega) (by omega)]; exact k x hx
theorem UZ:∀ (N M:Nat) (t:AD) (p:Pattern) (c:AA),SizeOf.sizeOf c<=N->SizeOf.sizeOf c<=M->ER N t p c=ER M t p c
 | 0,_,_,_,c,h,_=>by have:=DA c; omega
 | N+1,0,_,_,c,_,h=>by have:=DA c; omega
 | N+1,M+1,t,p,c,h1,h2=>by
  rw [P0,P0]
  split
  ·rfl
  ·congr 1
   refine S1 fun i i0 i1 _=>?_
   have:=DW (AV (l:=c.Kids) i0 i1)
   rw [UZ N M t _ _ (by omega) (by omega)]
def CF (c:AA):AA:=AA.mk 2 [c] (Morphism.mk [] []) (Pattern.mk (Graph.mk [] []) [] 0 [])
theorem X3 (c:AA):SizeOf.sizeOf c+1<=SizeOf.sizeOf (CF c):=by
 have:SizeOf.sizeOf c<SizeOf.sizeOf (CF c):=DW (c:=CF c) (k:=c) (by unfold CF; simp)
 omega
theorem ZY {c:AA} (h:D6 c):D6 (CF c):=.mk _ ⟨by simp [CF],by simp [CF],by simp [CF],by simp [CF]⟩ ⟨by simp [CF],by simp [CF]⟩ fun k hk=>by
 have:k=c:=by simpa [CF] using hk
 rw [this]; exact h
theorem ZX (c:AA):cnt (CF c)=cnt c+1:=by
 rw [Ju]
 show 1+GJ [c]=_
 simp [GJ]; omega
theorem TD {t:AD} {p:Pattern} {c:AA} (hk:cnt c<=40) (e:ED t p c=0):ED t p (CF c)=0∨ED t p (CF c)=3:=by
 obtain ⟨e1,e2,e3⟩:=PL e
 obtain ⟨w,_,_⟩:=Uv e2
 have hs:=X3 c
 obtain ⟨k,hk'⟩:∃ k,SizeOf.sizeOf (CF c)=k+1:=⟨SizeOf.sizeOf (CF c) - 1,by omega⟩
 have hw:U6 (CF c)=true:=by
  unfold U6
  rw [hk',Lq,zzZ]
  refine ⟨by simp [Nf,CF,L9],?_⟩
  rw [List.all_eq_true]
  intro x hx
  have:x=c:=by simpa [CF] using hx
  rw [this,U7 k (SizeOf.sizeOf c) c (by omega) (Nat.le_refl _)]; exact w
 have ho:ER (SizeOf.sizeOf (CF c)) t p (CF c)=0:=by
  rw [hk',P0,if_neg (by simp [CF])]
  have:fst (fun i=>nz (ER k t (if (CF c).Kind=5 then (CF c).Pattern else p) (AB (CF c).Kids i))) 0 (CF c).Kids.length=none:=DF.2 fun i i0 i1=>by
   have i1:i<1:=by simpa [CF] using i1
   have:i=0:=by omega
   subst this
   rw [if_neg (by simp [CF]),show AB (CF c).Kids 0=c from rfl,UZ k (SizeOf.sizeOf c) t p c (by omega) (Nat.le_refl _),e3]; rfl
  rw [this]; rfl
 have hse:IZ (CF c)=0∨IZ (CF c)=3:=by
  unfold IZ
  rw [if_neg (by rw [hw]; decide)]
  split
  ·exact .inr rfl
  ·exact .inl rfl
 unfold ED
 rw [if_neg (fun k=>k e1),ho]
 rcases hse with k | k
 ·rw [k]; exact .inl rfl
 ·rw [k]; exact .inr rfl
theorem Qh (t:AD) (x:G7) (y:JK) (st:(At t).Sm) (sx:(G4 x).Sm) (_:(Jv y).Sm):Is t x y=some true:=by
 obtain ⟨b,e,f⟩:=YK y st sx
 unfold Is
 rw [Y5,bs,if_neg (by decide),e]
 cases b
 ·rfl
 obtain ⟨hf,hc,hk,hl⟩:=f rfl
 simp only [bs,Bool.not_true,Bool.false_eq_true,if_false]
 rw [N2 hf x.P hc hk,X6 hf hc hk hl]
 simp only [bs]
 by_cases h0:(J7 t x.P x.C y.H y.M y.Injective).2=0
 ·rw [if_neg (by simp [h0])]
  have hcg:=V6 h0
  have he:=Ty hcg
  obtain ⟨hv,hh,hcv,hg,ha,h12,n1,n2⟩:=TN hf hc hk hl h0
  have hsat:=YU hcg hcv hg ha hv hh n1 n2
  have hx:(Pt t x.P x.C y.H y.M y.Injective).2=if HH t y.H y.Injective x.C y.M=true then 10 else 0:=by
   unfold Pt
   rw [hsat]
   cases HH t y.H y.Injective x.C y.M <;> simp
  show (C3 t x.P (CF x.C) y.H y.M y.Injective).bind _=_
  have hncnt:=ZX x.C
  have hnf:=ZY hc
  have hcgN:Mf t x.P (CF x.C) y.H y.M y.Injective=if ED t x.P (CF x.C)≠0 then ED t x.P (CF x.C) else 0:=by
   unfold Mf at hcg ⊢
   rw [if_neg (fun k=>k he)] at hcg
   split
   ·rfl
   ·exact hcg
  have hN:C3 t x.P (CF x.C) y.H y.M y.Injective=(if ED t x.P (CF x.C)≠0 then some ([],3) else if HH t y.H y.Injective x.C y.M=true then some (GV t y.H y.Injective (SizeOf.sizeOf (CF x.C)) (CF x.C) y.M [] false,0) else some ([],10)):=by
   unfold C3
   rw [N2 hf x.P hnf (by omega),bs]
   rcases TD hk he with k | k
   ·have hne:¬ ED t x.P (CF x.C)≠0:=fun q=>q k
    rw [if_neg hne] at hcgN ⊢
    have hcvN:CV t x.P (CF x.C):=.mk _ _ (by simp [CF]) (by simp [CF]) (fun _=>rfl) (fun k=>by simp [CF] at k) fun q hq=>by
     have:q=x.C:=by simpa [CF] using hq
     rw [this,if_neg (by simp [CF])]; exact hcv
    have hgN:CG t x.P (CF x.C):=.mk _ _ (fun k=>by simp [CF] at k) fun q hq=>by
     have:q=x.C:=by simpa [CF] using hq
     rw [this,if_neg (by simp [CF])]; exact hg
    have hdN:HH t y.H y.Injective (CF x.C) y.M=!HH t y.H y.Injective x.C y.M:=by
     rw [T4,if_pos (show (CF x.C).Kind=2 from rfl)]; rfl
    rw [YU hcgN hcvN hgN ha hv hh n1 n2,hdN,if_neg (by simp)]
    have h12N:=Tz (by omega) k
    cases HH t y.H y.Injective x.C y.M
    ·rw [if_pos (by rfl),if_neg (by decide)]
    ·rw [if_neg (by decide),if_pos rfl,show FL ⟨t,y.H,y.Injective⟩ (CF x.C) y.M [] false=some (GV t y.H y.Injective (SizeOf.sizeOf (CF x.C)) (CF x.C) y.M [] false) from GY (2*SizeOf.sizeOf (CF x.C)) fun n hn=>PN (s:=⟨t,y.H,y.Injective⟩) hf hv hh n1 n2 _ (CF x.C) x.P y.M [] false (Nat.le_refl _) hcvN hgN ha h12N (by simp; omega) n hn]
     rfl
   ·have hne:ED t x.P (CF x.C)≠0:=by omega
    rw [if_pos hne] at hcgN ⊢
    have hs:J7 t x.P (CF x.C) y.H y.M y.Injective=(false,3):=by
     have hw:wS t x.P (CF x.C) y.H y.M y.Injective=(zP,3):=by
      unfold wS
      rw [if_pos (by omega),hcgN,k]
     unfold J7
     rw [hw]; rfl
    rw [hs]; rfl
  rw [hN,hx,hsat]
  rcases TD hk he with k | k
  ·have hne:¬ ED t x.P (CF x.C)≠0:=fun q=>q k
   rw [if_neg hne]
   cases HH t y.H y.Injective x.C y.M <;> rfl
  ·have hne:ED t x.P (CF x.C)≠0:=by omega
   rw [if_pos hne]
   cases HH t y.H y.Injective x.C y.M <;> rfl
 ·rw [if_pos (by simpa using h0)]
  have hx:(Pt t x.P x.C y.H y.M y.Injective).2=(J7 t x.P x.C y.H y.M y.Injective).2:=by unfold Pt; rw [if_pos h0]
  rw [hx]; simp
end Go.Sf.Sc
