/- Plain lemmas: what the functions of the program and of the reference compute. -/
import Derived.Test.YtlbmpkmkmkgniaaGreatDoorP25
set_option linter.all false
set_option maxRecDepth 100000
namespace Go.Sf.Sc
open Go Go.Sf
def Q9:AA:=⟨1,[],⟨[],[]⟩,⟨⟨[],[]⟩,[],0,[]⟩⟩
def noC:AA:=⟨2,[Q9],⟨[],[]⟩,⟨⟨[],[]⟩,[],0,[]⟩⟩
inductive NF:AA->Prop
 | yes:NF Q9
 | not (k:AA) (h:NF k) (h2:k.Kind≠2):NF ⟨2,[k],⟨[],[]⟩,⟨⟨[],[]⟩,[],0,[]⟩⟩
 | conn (kd:Int) (ks:List AA) (hk:kd=3∨kd=4) (h2:2<=ks.length) (h:∀ x∈ks,NF x) (hx:∀ x∈ks,x.Kind≠kd∧x≠Q9∧x≠noC) (hd:ks.Nodup):NF ⟨kd,ks,⟨[],[]⟩,⟨⟨[],[]⟩,[],0,[]⟩⟩
 | ex (k:AA) (m:Morphism) (p:Pattern) (h:NF k) (hn:k≠noC):NF ⟨5,[k],m,p⟩
theorem NF.no:NF noC:=.not Q9 .yes (by decide)
theorem NF.kids {c:AA} (h:NF c):∀ x∈c.Kids,NF x:=by
 cases h with
 | yes=>intro x a; cases a
 | not k h _=>intro x a; rw [List.mem_singleton.1 a]; exact h
 | conn kd b _ _ h _ _=>exact h
 | ex k m p h _=>intro x a; rw [List.mem_singleton.1 a]; exact h
def flat (kd:Int) (l:List AA):List AA:=l.flatMap fun c=>if c.Kind=kd then c.Kids else [c]
noncomputable def pU (ab ne:AA):List AA->List AA->Option (List AA)
 | out,[]=>some out
 | out,x::l=>if cO x ab=true then none else pU ab ne (if (!cO x ne&&!out.any fun y=>cO y x)=true then out++[x] else out) l
noncomputable def pQ (kd:Int):AA:=if kd=4 then Q9 else noC
noncomputable def pS (kd:Int):AA:=if kd=4 then noC else Q9
def rL (kd:Int) (ne:AA) (out:List AA):AA:=if out.length=0 then ne else if out.length=1 then AB out 0 else ⟨kd,out,⟨[],[]⟩,⟨⟨[],[]⟩,[],0,[]⟩⟩
noncomputable def conn (kd:Int) (l:List AA):AA:=match pU (pQ kd) (pS kd) [] (flat kd l) with | some out=>rL kd (pS kd) out | none=>pQ kd
end Go.Sf.Sc
namespace Go.Sf.Sc
open Go Go.Sf
end Go.Sf.Sc
namespace Go.Sf.Sc
open Go Go.Sf
noncomputable def ri (k:Int) (ks:List AA) (m:Morphism) (p:Pattern):AA:=
 if k=2 then (if (AB ks 0).Kind=2 then AB (AB ks 0).Kids 0 else ⟨2,ks,⟨[],[]⟩,⟨⟨[],[]⟩,[],0,[]⟩⟩) else
 if k=3∨k=4 then conn k ks else
 if k=5 then (if cO (AB ks 0) noC=true then noC else ⟨5,ks,m,p⟩) else Q9
mutual
noncomputable def YC:AA->AA
 | ⟨k,kids,m,p⟩=>ri k (cp kids) m p
noncomputable def cp:List AA->List AA
 | []=>[]
 | c::l=>YC c::cp l
end
structure rz (kd:Int) (out:List AA):Prop where
 nf:∀ x∈out,NF x
 ne:∀ x∈out,x.Kind≠kd∧x≠Q9∧x≠noC
 nd:out.Nodup
end Go.Sf.Sc
namespace Go.Sf.Sc
open Go Go.Sf
end Go.Sf.Sc
namespace Go.Sf.Sc
open Go Go.Sf
structure rl (c:AA):Prop where
 nf:∀ x∈c.Kids.map YC,NF x
 len:c.Kids.length<=1000
 flat:∀ kd,(flat kd (c.Kids.map YC)).length<=1000
end Go.Sf.Sc
namespace Go.Sf.Sc
open Go Go.Sf
theorem bP {c:AA} (h:Ko c=0):Z2 c=true∧(Pb c).1<=12∧(Pb c).2<=3:=by
 unfold Ko at h;split at h
 ·cases h
 ·rename_i a;split at h
  ·cases h
  ·rename_i b;exact ⟨by simpa using a,by omega,by omega⟩
end Go.Sf.Sc
