/- Plain lemmas: what the functions of the program and of the reference compute. -/
import Derived.Test.YtlbmpkmkmkgniaaGreatDoorP25
set_option linter.all false
set_option maxRecDepth 100000
namespace Go.Sf.Sc
open Go Go.Sf
def R0:AA:=⟨1,[],⟨[],[]⟩,⟨⟨[],[]⟩,[],0,[]⟩⟩
def noC:AA:=⟨2,[R0],⟨[],[]⟩,⟨⟨[],[]⟩,[],0,[]⟩⟩
inductive NF:AA->Prop
 | yes:NF R0
 | not (k:AA) (h:NF k) (h2:k.Kind≠2):NF ⟨2,[k],⟨[],[]⟩,⟨⟨[],[]⟩,[],0,[]⟩⟩
 | conn (kd:Int) (ks:List AA) (hk:kd=3∨kd=4) (h2:2<=ks.length) (h:∀ x∈ks,NF x) (hx:∀ x∈ks,x.Kind≠kd∧x≠R0∧x≠noC) (hd:ks.Nodup):NF ⟨kd,ks,⟨[],[]⟩,⟨⟨[],[]⟩,[],0,[]⟩⟩
 | ex (k:AA) (m:Morphism) (p:Pattern) (h:NF k) (hn:k≠noC):NF ⟨5,[k],m,p⟩
theorem NF.no:NF noC:=.not R0 .yes (by decide)
theorem NF.kids {c:AA} (h:NF c):∀ x∈c.Kids,NF x:=by
 cases h with
 | yes=>intro x a; cases a
 | not k h _=>intro x a; rw [List.mem_singleton.1 a]; exact h
 | conn kd b _ _ h _ _=>exact h
 | ex k m p h _=>intro x a; rw [List.mem_singleton.1 a]; exact h
def flat (kd:Int) (l:List AA):List AA:=l.flatMap fun c=>if c.Kind=kd then c.Kids else [c]
noncomputable def rc (ab ne:AA):List AA->List AA->Option (List AA)
 | out,[]=>some out
 | out,x::l=>if eJ x ab=true then none else rc ab ne (if (!eJ x ne&&!out.any fun y=>eJ y x)=true then out++[x] else out) l
noncomputable def rX (kd:Int):AA:=if kd=4 then R0 else noC
noncomputable def ra (kd:Int):AA:=if kd=4 then noC else R0
def td (kd:Int) (ne:AA) (out:List AA):AA:=if out.length=0 then ne else if out.length=1 then AB out 0 else ⟨kd,out,⟨[],[]⟩,⟨⟨[],[]⟩,[],0,[]⟩⟩
noncomputable def conn (kd:Int) (l:List AA):AA:=match rc (rX kd) (ra kd) [] (flat kd l) with | some out=>td kd (ra kd) out | none=>rX kd
end Go.Sf.Sc
namespace Go.Sf.Sc
open Go Go.Sf
end Go.Sf.Sc
namespace Go.Sf.Sc
open Go Go.Sf
noncomputable def uK (k:Int) (ks:List AA) (m:Morphism) (p:Pattern):AA:=
 if k=2 then (if (AB ks 0).Kind=2 then AB (AB ks 0).Kids 0 else ⟨2,ks,⟨[],[]⟩,⟨⟨[],[]⟩,[],0,[]⟩⟩) else
 if k=3∨k=4 then conn k ks else
 if k=5 then (if eJ (AB ks 0) noC=true then noC else ⟨5,ks,m,p⟩) else R0
mutual
noncomputable def Zk:AA->AA
 | ⟨k,kids,m,p⟩=>uK k (eh kids) m p
noncomputable def eh:List AA->List AA
 | []=>[]
 | c::l=>Zk c::eh l
end
structure uW (kd:Int) (out:List AA):Prop where
 nf:∀ x∈out,NF x
 ne:∀ x∈out,x.Kind≠kd∧x≠R0∧x≠noC
 nd:out.Nodup
end Go.Sf.Sc
namespace Go.Sf.Sc
open Go Go.Sf
end Go.Sf.Sc
namespace Go.Sf.Sc
open Go Go.Sf
structure uM (c:AA):Prop where
 nf:∀ x∈c.Kids.map Zk,NF x
 len:c.Kids.length<=1000
 flat:∀ kd,(flat kd (c.Kids.map Zk)).length<=1000
end Go.Sf.Sc
namespace Go.Sf.Sc
open Go Go.Sf
theorem dL {c:AA} (h:LO c=0):bm c=true∧(Qg c).1<=12∧(Qg c).2<=3:=by
 unfold LO at h;split at h
 ·cases h
 ·rename_i a;split at h
  ·cases h
  ·rename_i b;exact ⟨by simpa using a,by omega,by omega⟩
end Go.Sf.Sc
