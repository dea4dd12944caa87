/- Plain lemmas: what the functions of the program and of the reference compute. -/
import Derived.Test.YtlbmpkmkmkgniaaGreatDoorP25
set_option linter.all false
set_option maxRecDepth 100000
namespace Go.Sf.Sc
open Go Go.Sf
def SO:AA:=⟨1,[],⟨[],[]⟩,⟨⟨[],[]⟩,[],0,[]⟩⟩
def noC:AA:=⟨2,[SO],⟨[],[]⟩,⟨⟨[],[]⟩,[],0,[]⟩⟩
inductive NF:AA->Prop
 | yes:NF SO
 | not (k:AA) (h:NF k) (h2:k.Kind≠2):NF ⟨2,[k],⟨[],[]⟩,⟨⟨[],[]⟩,[],0,[]⟩⟩
 | conn (kd:Int) (ks:List AA) (hk:kd=3∨kd=4) (h2:2<=ks.length) (h:∀ x∈ks,NF x) (hx:∀ x∈ks,x.Kind≠kd∧x≠SO∧x≠noC) (hd:ks.Nodup):NF ⟨kd,ks,⟨[],[]⟩,⟨⟨[],[]⟩,[],0,[]⟩⟩
 | ex (k:AA) (m:Morphism) (p:Pattern) (h:NF k) (hn:k≠noC):NF ⟨5,[k],m,p⟩
theorem NF.no:NF noC:=.not SO .yes (by decide)
variable {c:AA}
theorem NF.kids (h:NF c):∀ x∈c.Kids,NF x:=by
 cases h with
 | yes=>intro x a; cases a
 | not k h _=>intro x a; rw [List.mem_singleton.1 a]; exact h
 | conn kd b _ _ h _ _=>exact h
 | ex k m p h _=>intro x a; rw [List.mem_singleton.1 a]; exact h
def flat (kd:Int) (l:List AA):List AA:=l.flatMap fun c=>if c.Kind=kd then c.Kids else [c]
noncomputable def rW (ab ne:AA):List AA->List AA->Option (List AA)
 | out,[]=>some out
 | out,x::l=>if eC x ab=true then none else rW ab ne (if (!eC x ne&&!out.any fun y=>eC y x)=true then out++[x] else out) l
noncomputable def rR (kd:Int):AA:=if kd=4 then SO else noC
noncomputable def rU (kd:Int):AA:=if kd=4 then noC else SO
def tY (kd:Int) (ne:AA) (out:List AA):AA:=if out.length=0 then ne else if out.length=1 then AB out 0 else ⟨kd,out,⟨[],[]⟩,⟨⟨[],[]⟩,[],0,[]⟩⟩
noncomputable def conn (kd:Int) (l:List AA):AA:=match rW (rR kd) (rU kd) [] (flat kd l) with | some out=>tY kd (rU kd) out | none=>rR kd
end Go.Sf.Sc
namespace Go.Sf.Sc
open Go Go.Sf
end Go.Sf.Sc
namespace Go.Sf.Sc
open Go Go.Sf
noncomputable def uD (k:Int) (ks:List AA) (m:Morphism) (p:Pattern):AA:=
 if k=2 then (if (AB ks 0).Kind=2 then AB (AB ks 0).Kids 0 else ⟨2,ks,⟨[],[]⟩,⟨⟨[],[]⟩,[],0,[]⟩⟩) else
 if k=3∨k=4 then conn k ks else
 if k=5 then (if eC (AB ks 0) noC=true then noC else ⟨5,ks,m,p⟩) else SO
mutual
noncomputable def Zf:AA->AA
 | ⟨k,kids,m,p⟩=>uD k (eb kids) m p
noncomputable def eb:List AA->List AA
 | []=>[]
 | c::l=>Zf c::eb l
end
structure uP (kd:Int) (out:List AA):Prop where
 nf:∀ x∈out,NF x
 ne:∀ x∈out,x.Kind≠kd∧x≠SO∧x≠noC
 nd:out.Nodup
end Go.Sf.Sc
namespace Go.Sf.Sc
open Go Go.Sf
end Go.Sf.Sc
namespace Go.Sf.Sc
open Go Go.Sf
structure uF (c:AA):Prop where
 nf:∀ x∈c.Kids.map Zf,NF x
 len:c.Kids.length<=1000
 flat:∀ kd,(flat kd (c.Kids.map Zf)).length<=1000
end Go.Sf.Sc
namespace Go.Sf.Sc
open Go Go.Sf
variable {c:AA}
theorem XG (h:LO c=0):bh c=true∧(QZ c).1<=12∧(QZ c).2<=3:=by
 unfold LO at h;split at h
 ·cases h
 ·rename_i a;split at h
  ·cases h
  ·rename_i b;exact ⟨by simpa using a,by omega,by omega⟩
end Go.Sf.Sc
