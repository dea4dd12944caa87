/- Plain lemmas: what the functions of the program and of the reference compute. -/
import Derived.Test.YtlbmpkmkmkgniaaGreatDoorP25
set_option linter.all false
set_option maxRecDepth 100000
namespace Go.Sf.Sc
open Go Go.Sf
def SN:AA:=⟨1,[],⟨[],[]⟩,⟨⟨[],[]⟩,[],0,[]⟩⟩
def noC:AA:=⟨2,[SN],⟨[],[]⟩,⟨⟨[],[]⟩,[],0,[]⟩⟩
inductive NF:AA->Prop
 | yes:NF SN
 | not (k:AA) (h:NF k) (h2:k.Kind≠2):NF ⟨2,[k],⟨[],[]⟩,⟨⟨[],[]⟩,[],0,[]⟩⟩
 | conn (kd:Int) (ks:List AA) (hk:kd=3∨kd=4) (h2:2<=ks.length) (h:∀ x∈ks,NF x) (hx:∀ x∈ks,x.Kind≠kd∧x≠SN∧x≠noC) (hd:ks.Nodup):NF ⟨kd,ks,⟨[],[]⟩,⟨⟨[],[]⟩,[],0,[]⟩⟩
 | ex (k:AA) (m:Morphism) (p:Pattern) (h:NF k) (hn:k≠noC):NF ⟨5,[k],m,p⟩
theorem NF.no:NF noC:=.not SN .yes (by decide)
variable {c:AA}
theorem NF.kids (h:NF c):∀ x∈c.Kids,NF x:=by
 cases h with
 | yes=>intro x a; cases a
 | not k h _=>intro x a; rw [List.mem_singleton.1 a]; exact h
 | conn kd b _ _ h _ _=>exact h
 | ex k m p h _=>intro x a; rw [List.mem_singleton.1 a]; exact h
def flat (kd:Int) (l:List AA):List AA:=l.flatMap fun c=>if c.Kind=kd then c.Kids else [c]
noncomputable def rV (ab ne:AA):List AA->List AA->Option (List AA)
 | out,[]=>some out
 | out,x::l=>if eA x ab=true then none else rV ab ne (if (!eA x ne&&!out.any fun y=>eA y x)=true then out++[x] else out) l
noncomputable def rQ (kd:Int):AA:=if kd=4 then SN else noC
noncomputable def rT (kd:Int):AA:=if kd=4 then noC else SN
def tX (kd:Int) (ne:AA) (out:List AA):AA:=if out.length=0 then ne else if out.length=1 then AB out 0 else ⟨kd,out,⟨[],[]⟩,⟨⟨[],[]⟩,[],0,[]⟩⟩
noncomputable def conn (kd:Int) (l:List AA):AA:=match rV (rQ kd) (rT kd) [] (flat kd l) with | some out=>tX kd (rT kd) out | none=>rQ kd
end Go.Sf.Sc
namespace Go.Sf.Sc
open Go Go.Sf
end Go.Sf.Sc
namespace Go.Sf.Sc
open Go Go.Sf
noncomputable def uC (k:Int) (ks:List AA) (m:Morphism) (p:Pattern):AA:=
 if k=2 then (if (AB ks 0).Kind=2 then AB (AB ks 0).Kids 0 else ⟨2,ks,⟨[],[]⟩,⟨⟨[],[]⟩,[],0,[]⟩⟩) else
 if k=3∨k=4 then conn k ks else
 if k=5 then (if eA (AB ks 0) noC=true then noC else ⟨5,ks,m,p⟩) else SN
mutual
noncomputable def Ze:AA->AA
 | ⟨k,kids,m,p⟩=>uC k (eZ kids) m p
noncomputable def eZ:List AA->List AA
 | []=>[]
 | c::l=>Ze c::eZ l
end
structure uO (kd:Int) (out:List AA):Prop where
 nf:∀ x∈out,NF x
 ne:∀ x∈out,x.Kind≠kd∧x≠SN∧x≠noC
 nd:out.Nodup
end Go.Sf.Sc
namespace Go.Sf.Sc
open Go Go.Sf
end Go.Sf.Sc
namespace Go.Sf.Sc
open Go Go.Sf
structure uE (c:AA):Prop where
 nf:∀ x∈c.Kids.map Ze,NF x
 len:c.Kids.length<=1000
 flat:∀ kd,(flat kd (c.Kids.map Ze)).length<=1000
end Go.Sf.Sc
namespace Go.Sf.Sc
open Go Go.Sf
variable {c:AA}
theorem XF (h:LN c=0):bg c=true∧(QY c).1<=12∧(QY c).2<=3:=by
 unfold LN at h;split at h
 ·cases h
 ·rename_i a;split at h
  ·cases h
  ·rename_i b;exact ⟨by simpa using a,by omega,by omega⟩
end Go.Sf.Sc
