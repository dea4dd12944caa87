/- Contracts of functions of Go's library that give texts. No program. -/
import Derived.Test.YtlbmpkmkmkgniaaGreatDoorSfSort
import Derived.Lib.ItoaNum
import Derived.Lib.Join
namespace Go.Sf
open Go.RowKit (Below)
theorem R4 {w:World} {F:Nat->Nat->Prop} {b:Nat}:∀ (xs:List ByteArray) (o:Nat),HU w F 1 (xs.map TV.str) b o->∀ (j:Nat) x,xs[j]?=some x->w.cell? ⟨b,o+j,none⟩=some (.string x)
 | [],_,_,j,x,hj=>by simp at hj
 | z::zs,o,h,0,x,hj=>by
  simp only [List.map_cons,HU,Iq] at h
  obtain ⟨⟨v,h1,_,_,rfl⟩,_⟩:=h
  simp at hj
  subst hj
  simpa using h1
 | z::zs,o,h,j+1,x,hj=>by
  simp only [List.map_cons,HU] at h
  have:=R4 zs (o+1) h.2.2 j x (by simpa using hj)
  rw [show o+(j+1)=o+1+j from by omega]
  exact this
theorem Zl {w:World} {F:Nat->Nat->Prop} {xs:List ByteArray} {v:Value} (h:A1 w F (.list 1 (xs.map TV.str)) v) :
  (xs=[]∧∃ a cap,v=.slice a 0 cap)∨∃ b off cap,v=.slice (some ⟨b,off,none⟩) xs.length cap∧xs.length<=cap∧b<w.heap.size∧∀ (j:Nat) x,xs[j]?=some x->w.cell? ⟨b,off+j,none⟩=some (.string x):=by
 simp only [A1,List.length_map] at h
 obtain ⟨a,cap,rfl,h1,h2,h3⟩:=h
 cases a with
 | none=>
  have hz:xs=[]:=by simpa using h2 rfl
  subst hz
  exact .inl ⟨rfl,none,cap,rfl⟩
 | some ad=>
  obtain ⟨h4,h5⟩:=h3 ad rfl
  obtain ⟨b,off,sp⟩:=ad
  simp only at h4
  by_cases hz:xs=[]
  ·subst hz
   exact .inl ⟨rfl,_,cap,rfl⟩
  have h4:sp=none:=h4.resolve_left (fun e=>hz (by simpa using e))
  subst h4
  have hc:=R4 xs off h5
  refine .inr ⟨b,off,cap,rfl,h1,?_,hc⟩
  cases xs with
  | nil=>exact absurd rfl hz
  | cons x l=>
   have:=hc 0 x rfl
   unfold World.cell? at this
   by_cases hb:b<w.heap.size
   ·exact hb
   ·rw [Array.getElem?_eq_none (by simpa using hb)] at this
    simp at this
theorem cA {P:Program} {f:FuncId} (hc:F1 P f=true) {n:Int} {s:ByteArray} (hs:s.size<=H5) (hrow:∀ w:World,Calls P f #[.int .i64 n] w fun e w'=>e=.returned (.string s)∧w'=w):AR P f [.int .i64 n] (.sh (.str s)):=by
 refine AR.of0 (fun hw=>⟨hc,fun F0 w vs hrep=>?_⟩) rfl
 have hvs:vs=#[.int .i64 n]:=by
  simp only [AQ] at hrep
  obtain ⟨v,r,h1,h2,rfl⟩:=hrep
  simp only [A1] at h2
  subst h2
  rw [←Array.toArray_toList (xs:=vs),h1]
 subst hvs
 refine ⟨hs,?_⟩
 refine (hrow w).mono ?_
 rintro _ _ ⟨rfl,rfl⟩
 exact ⟨_,rfl,Below.refl _ _,by simp [Ix,A1]⟩
theorem cE {P:Program} {f:FuncId} (hc:F1 P f=true) {xs:List ByteArray} {sep out:ByteArray} (hs:out.size<=H5)
  (hnil:∀ (a:Option Addr) (c:Nat) (w:World),xs=[]->Calls P f #[.slice a 0 c,.string sep] w fun e w'=>e=.returned (.string out)∧w'=w)
  (hrow:∀ (b o c:Nat) (w:World),(∀ (j:Nat) x,xs[j]?=some x->w.cell? ⟨b,o+j,none⟩=some (.string x))->b<w.heap.size->xs.length<=c->Calls P f #[.slice (some ⟨b,o,none⟩) xs.length c,.string sep] w fun e w'=>e=.returned (.string out)∧Below w.heap.size w w') :
  AR P f [.list 1 (xs.map TV.str),.str sep] (.sh (.str out)):=by
 refine AR.of0 (fun hw=>⟨hc,fun F0 w vs hrep=>?_⟩) rfl
 obtain ⟨v,v',rfl,h1,h2⟩:=Oy hrep
 simp only [A1] at h2
 subst h2
 refine ⟨hs,?_⟩
 rcases Zl h1 with ⟨rfl,a0,cap,rfl⟩ | ⟨b,off,cap,rfl,h3,h4,h5⟩
 ·refine (hnil a0 cap w rfl).mono ?_
  rintro _ _ ⟨rfl,rfl⟩
  exact ⟨_,rfl,Below.refl _ _,by simp [Ix,A1]⟩
 ·refine (hrow b off cap w h5 h4 h3).mono ?_
  rintro _ _ ⟨rfl,hb⟩
  exact ⟨_,rfl,hb,by simp [Ix,A1]⟩
def Rh (i:Nat):List UInt8:=if i<10 then [UInt8.ofNat (48+i)] else [UInt8.ofNat (48+i / 10),UInt8.ofNat (48+i % 10)]
theorem ZP (i:Nat) (h:i<100):Go.Lib.decDigits i=Rh i:=by
 unfold Rh
 by_cases h1:i<10
 ·rw [Go.Lib.decDigits,dif_pos h1,if_pos h1]
 ·rw [Go.Lib.decDigits,dif_neg h1,if_neg h1,Go.Lib.decDigits,dif_pos (show i / 10<10 by omega)]; rfl
def Wi (i:Nat):ByteArray:=⟨(Rh i).toArray⟩
theorem Wj (i:Nat):(Wi i).size<=2:=by
 show (Rh i).toArray.size<=2
 unfold Rh
 split <;> simp
def IR (xs:List ByteArray) (sep:ByteArray):ByteArray:=⟨(Go.Lib.join (xs.map (·.data.toList)) sep.data.toList).toArray⟩
end Go.Sf
