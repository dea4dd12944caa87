/- Plain lemmas: what the functions of the program and of the reference compute. -/
import Derived.Test.YtmaobfbhdkafkaaGreatP25
set_option maxRecDepth 100000
namespace Go.Sf.Sc
open Go Go.Sf
def IE:AA:=⟨1,[],⟨[],[]⟩,⟨⟨[],[]⟩,[],0,[]⟩⟩
def noC:AA:=⟨2,[IE],⟨[],[]⟩,⟨⟨[],[]⟩,[],0,[]⟩⟩
theorem Uz:Kf=some IE:=rfl
inductive NF:AA->Prop
 | yes:NF IE
 | not (k:AA) (h:NF k) (h2:k.Kind≠2):NF ⟨2,[k],⟨[],[]⟩,⟨⟨[],[]⟩,[],0,[]⟩⟩
 | conn (kd:Int) (ks:List AA) (hk:kd=3∨kd=4) (h2:2<=ks.length) (h:∀ x∈ks,NF x) (hx:∀ x∈ks,x.Kind≠kd∧x≠IE∧x≠noC) (hd:ks.Nodup):NF ⟨kd,ks,⟨[],[]⟩,⟨⟨[],[]⟩,[],0,[]⟩⟩
 | ex (k:AA) (m:Morphism) (p:Pattern) (h:NF k) (hn:k≠noC):NF ⟨5,[k],m,p⟩
theorem NF.no:NF noC:=.not IE .yes (by decide)
theorem NF.kids {c:AA} (h:NF c):∀ x∈c.Kids,NF x:=by
 cases h with
 | yes=>intro x hx; cases hx
 | not k h _=>intro x hx; rw [List.mem_singleton.1 hx]; exact h
 | conn kd ks _ _ h _ _=>exact h
 | ex k m p h _=>intro x hx; rw [List.mem_singleton.1 hx]; exact h
def flat (kd:Int) (l:List AA):List AA:=l.flatMap fun c=>if c.Kind=kd then c.Kids else [c]
noncomputable def nv (ab ne:AA):List AA->List AA->Option (List AA)
 | out,[]=>some out
 | out,x::l=>if bM x ab=true then none else nv ab ne (if (!bM x ne&&!out.any fun y=>bM y x)=true then out++[x] else out) l
noncomputable def nq (kd:Int):AA:=if kd=4 then IE else noC
noncomputable def nu (kd:Int):AA:=if kd=4 then noC else IE
def pz (kd:Int) (ne:AA) (out:List AA):AA:=if out.length=0 then ne else if out.length=1 then AB out 0 else ⟨kd,out,⟨[],[]⟩,⟨⟨[],[]⟩,[],0,[]⟩⟩
noncomputable def conn (kd:Int) (l:List AA):AA:=match nv (nq kd) (nu kd) [] (flat kd l) with | some out=>pz kd (nu kd) out | none=>nq kd
end Go.Sf.Sc
namespace Go.Sf.Sc
open Go Go.Sf
end Go.Sf.Sc
namespace Go.Sf.Sc
open Go Go.Sf
noncomputable def qF (k:Int) (ks:List AA) (m:Morphism) (p:Pattern):AA:=
 if k=2 then (if (AB ks 0).Kind=2 then AB (AB ks 0).Kids 0 else ⟨2,ks,⟨[],[]⟩,⟨⟨[],[]⟩,[],0,[]⟩⟩) else
 if k=3∨k=4 then conn k ks else
 if k=5 then (if bM (AB ks 0) noC=true then noC else ⟨5,ks,m,p⟩) else IE
mutual
noncomputable def XP:AA->AA
 | ⟨k,kids,m,p⟩=>qF k (bf kids) m p
noncomputable def bf:List AA->List AA
 | []=>[]
 | c::l=>XP c::bf l
end
structure qK (kd:Int) (out:List AA):Prop where
 nf:∀ x∈out,NF x
 ne:∀ x∈out,x.Kind≠kd∧x≠IE∧x≠noC
 nd:out.Nodup
theorem Sd:cnt IE=1:=by simp [cnt,H5,IE]
end Go.Sf.Sc
namespace Go.Sf.Sc
open Go Go.Sf
end Go.Sf.Sc
namespace Go.Sf.Sc
open Go Go.Sf
structure qH (c:AA):Prop where
 nf:∀ x∈c.Kids.map XP,NF x
 len:c.Kids.length<=1000
 flat:∀ kd,(flat kd (c.Kids.map XP)).length<=1000
end Go.Sf.Sc
namespace Go.Sf.Sc
open Go Go.Sf
theorem ZV (kd:Int) {ks:List AA} (h:∀ k∈ks,DF k):DF ⟨kd,ks,⟨[],[]⟩,⟨⟨[],[]⟩,[],0,[]⟩⟩:=.mk _ ⟨Nat.zero_le _,Nat.zero_le _,Nat.zero_le _,Nat.zero_le _⟩ ⟨Nat.zero_le _,Nat.zero_le _⟩ h
theorem Q9:DF IE:=ZV 1 (fun k hk=>by cases hk)
theorem aL {c:AA} (h1:ZG c=true) (h2:(Pj c).1<=12) (h3:(Pj c).2<=3):KT c=0:=by
 unfold KT
 rw [if_neg (by simp [h1]),if_neg (by omega)]
end Go.Sf.Sc
