/- Plain lemmas: what the functions of the program and of the reference compute. -/
import Derived.Test.YtlbmpkmkmkgniaaGreatDoorP25
set_option maxRecDepth 100000
namespace Go.Sf.Sc
open Go Go.Sf
def Pp:AA:=⟨1,[],⟨[],[]⟩,⟨⟨[],[]⟩,[],0,[]⟩⟩
def noC:AA:=⟨2,[Pp],⟨[],[]⟩,⟨⟨[],[]⟩,[],0,[]⟩⟩
inductive NF:AA->Prop
 | yes:NF Pp
 | not (k:AA) (h:NF k) (h2:k.Kind≠2):NF ⟨2,[k],⟨[],[]⟩,⟨⟨[],[]⟩,[],0,[]⟩⟩
 | conn (kd:Int) (ks:List AA) (hk:kd=3∨kd=4) (h2:2<=ks.length) (h:∀ x∈ks,NF x) (hx:∀ x∈ks,x.Kind≠kd∧x≠Pp∧x≠noC) (hd:ks.Nodup):NF ⟨kd,ks,⟨[],[]⟩,⟨⟨[],[]⟩,[],0,[]⟩⟩
 | ex (k:AA) (m:Morphism) (p:Pattern) (h:NF k) (hn:k≠noC):NF ⟨5,[k],m,p⟩
theorem NF.no:NF noC:=.not Pp .yes (by decide)
theorem NF.kids {c:AA} (h:NF c):∀ x∈c.Kids,NF x:=by
 cases h with
 | yes=>intro x hx; cases hx
 | not k h _=>intro x hx; rw [List.mem_singleton.1 hx]; exact h
 | conn kd ks _ _ h _ _=>exact h
 | ex k m p h _=>intro x hx; rw [List.mem_singleton.1 hx]; exact h
def flat (kd:Int) (l:List AA):List AA:=l.flatMap fun c=>if c.Kind=kd then c.Kids else [c]
noncomputable def nP (ab ne:AA):List AA->List AA->Option (List AA)
 | out,[]=>some out
 | out,x::l=>if ae x ab=true then none else nP ab ne (if (!ae x ne&&!out.any fun y=>ae y x)=true then out++[x] else out) l
noncomputable def nL (kd:Int):AA:=if kd=4 then Pp else noC
noncomputable def nN (kd:Int):AA:=if kd=4 then noC else Pp
def o0 (kd:Int) (ne:AA) (out:List AA):AA:=if out.length=0 then ne else if out.length=1 then AB out 0 else ⟨kd,out,⟨[],[]⟩,⟨⟨[],[]⟩,[],0,[]⟩⟩
noncomputable def conn (kd:Int) (l:List AA):AA:=match nP (nL kd) (nN kd) [] (flat kd l) with | some out=>o0 kd (nN kd) out | none=>nL kd
end Go.Sf.Sc
namespace Go.Sf.Sc
open Go Go.Sf
end Go.Sf.Sc
namespace Go.Sf.Sc
open Go Go.Sf
noncomputable def pP (k:Int) (ks:List AA) (m:Morphism) (p:Pattern):AA:=
 if k=2 then (if (AB ks 0).Kind=2 then AB (AB ks 0).Kids 0 else ⟨2,ks,⟨[],[]⟩,⟨⟨[],[]⟩,[],0,[]⟩⟩) else
 if k=3∨k=4 then conn k ks else
 if k=5 then (if ae (AB ks 0) noC=true then noC else ⟨5,ks,m,p⟩) else Pp
mutual
noncomputable def XE:AA->AA
 | ⟨k,kids,m,p⟩=>pP k (bF kids) m p
noncomputable def bF:List AA->List AA
 | []=>[]
 | c::l=>XE c::bF l
end
structure pk (kd:Int) (out:List AA):Prop where
 nf:∀ x∈out,NF x
 ne:∀ x∈out,x.Kind≠kd∧x≠Pp∧x≠noC
 nd:out.Nodup
end Go.Sf.Sc
namespace Go.Sf.Sc
open Go Go.Sf
end Go.Sf.Sc
namespace Go.Sf.Sc
open Go Go.Sf
structure pS (c:AA):Prop where
 nf:∀ x∈c.Kids.map XE,NF x
 len:c.Kids.length<=1000
 flat:∀ kd,(flat kd (c.Kids.map XE)).length<=1000
end Go.Sf.Sc
namespace Go.Sf.Sc
open Go Go.Sf
theorem Uv {c:AA} (h:IZ c=0):U6 c=true∧(Oe c).1<=12∧(Oe c).2<=3:=by
 unfold IZ at h
 split at h
 ·cases h
 ·rename_i h1
  split at h
  ·cases h
  ·rename_i h2
   exact ⟨by simpa using h1,by omega,by omega⟩
end Go.Sf.Sc
