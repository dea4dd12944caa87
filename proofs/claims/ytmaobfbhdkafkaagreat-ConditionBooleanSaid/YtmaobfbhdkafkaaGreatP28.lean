/- Plain lemmas: what the functions of the program and of the reference compute. -/
import Derived.Test.YtmaobfbhdkafkaaGreatP25
set_option maxRecDepth 100000
namespace Go.Sf.Sc
open Go Go.Sf
def LJ:AA:=⟨1,[],⟨[],[]⟩,⟨⟨[],[]⟩,[],0,[]⟩⟩
def noC:AA:=⟨2,[LJ],⟨[],[]⟩,⟨⟨[],[]⟩,[],0,[]⟩⟩
theorem U0:Kd=some LJ:=rfl
inductive NF:AA->Prop
 | yes:NF LJ
 | not (k:AA) (h:NF k) (h2:k.Kind≠2):NF ⟨2,[k],⟨[],[]⟩,⟨⟨[],[]⟩,[],0,[]⟩⟩
 | conn (kd:Int) (ks:List AA) (hk:kd=3∨kd=4) (h2:2<=ks.length) (h:∀ x∈ks,NF x) (hx:∀ x∈ks,x.Kind≠kd∧x≠LJ∧x≠noC) (hd:ks.Nodup):NF ⟨kd,ks,⟨[],[]⟩,⟨⟨[],[]⟩,[],0,[]⟩⟩
 | ex (k:AA) (m:Morphism) (p:Pattern) (h:NF k) (hn:k≠noC):NF ⟨5,[k],m,p⟩
theorem NF.no:NF noC:=.not LJ .yes (by decide)
theorem NF.kids {c:AA} (h:NF c):∀ x∈c.Kids,NF x:=by
 cases h with
 | yes=>intro x hx; cases hx
 | not k h _=>intro x hx; rw [List.mem_singleton.1 hx]; exact h
 | conn kd ks _ _ h _ _=>exact h
 | ex k m p h _=>intro x hx; rw [List.mem_singleton.1 hx]; exact h
def flat (kd:Int) (l:List AA):List AA:=l.flatMap fun c=>if c.Kind=kd then c.Kids else [c]
noncomputable def np (ab ne:AA):List AA->List AA->Option (List AA)
 | out,[]=>some out
 | out,x::l=>if bO x ab=true then none else np ab ne (if (!bO x ne&&!out.any fun y=>bO y x)=true then out++[x] else out) l
noncomputable def nh (kd:Int):AA:=if kd=4 then LJ else noC
noncomputable def nk (kd:Int):AA:=if kd=4 then noC else LJ
def pk (kd:Int) (ne:AA) (out:List AA):AA:=if out.length=0 then ne else if out.length=1 then AB out 0 else ⟨kd,out,⟨[],[]⟩,⟨⟨[],[]⟩,[],0,[]⟩⟩
noncomputable def conn (kd:Int) (l:List AA):AA:=match np (nh kd) (nk kd) [] (flat kd l) with | some out=>pk kd (nk kd) out | none=>nh kd
end Go.Sf.Sc
namespace Go.Sf.Sc
open Go Go.Sf
end Go.Sf.Sc
namespace Go.Sf.Sc
open Go Go.Sf
noncomputable def p7 (k:Int) (ks:List AA) (m:Morphism) (p:Pattern):AA:=
 if k=2 then (if (AB ks 0).Kind=2 then AB (AB ks 0).Kids 0 else ⟨2,ks,⟨[],[]⟩,⟨⟨[],[]⟩,[],0,[]⟩⟩) else
 if k=3∨k=4 then conn k ks else
 if k=5 then (if bO (AB ks 0) noC=true then noC else ⟨5,ks,m,p⟩) else LJ
mutual
noncomputable def XT:AA->AA
 | ⟨k,kids,m,p⟩=>p7 k (bg kids) m p
noncomputable def bg:List AA->List AA
 | []=>[]
 | c::l=>XT c::bg l
end
structure qC (kd:Int) (out:List AA):Prop where
 nf:∀ x∈out,NF x
 ne:∀ x∈out,x.Kind≠kd∧x≠LJ∧x≠noC
 nd:out.Nodup
theorem Se:cnt LJ=1:=by simp [cnt,HN,LJ]
end Go.Sf.Sc
namespace Go.Sf.Sc
open Go Go.Sf
end Go.Sf.Sc
namespace Go.Sf.Sc
open Go Go.Sf
structure p9 (c:AA):Prop where
 nf:∀ x∈c.Kids.map XT,NF x
 len:c.Kids.length<=1000
 flat:∀ kd,(flat kd (c.Kids.map XT)).length<=1000
end Go.Sf.Sc
namespace Go.Sf.Sc
open Go Go.Sf
theorem RN (kd:Int) {ks:List AA} (h:∀ k∈ks,C5 k):C5 ⟨kd,ks,⟨[],[]⟩,⟨⟨[],[]⟩,[],0,[]⟩⟩:=.mk _ ⟨Nat.zero_le _,Nat.zero_le _,Nat.zero_le _,Nat.zero_le _⟩ ⟨Nat.zero_le _,Nat.zero_le _⟩ h
theorem Sw:C5 LJ:=RN 1 (fun k hk=>by cases hk)
theorem aM {c:AA} (h:Ie c=0):VQ c=true∧(NP c).1<=12∧(NP c).2<=3:=by
 unfold Ie at h
 split at h
 ·cases h
 ·rename_i h1
  split at h
  ·cases h
  ·rename_i h2
   exact ⟨by simpa using h1,by omega,by omega⟩
theorem aL {c:AA} (h1:VQ c=true) (h2:(NP c).1<=12) (h3:(NP c).2<=3):Ie c=0:=by
 unfold Ie
 rw [if_neg (by simp [h1]),if_neg (by omega)]
end Go.Sf.Sc
