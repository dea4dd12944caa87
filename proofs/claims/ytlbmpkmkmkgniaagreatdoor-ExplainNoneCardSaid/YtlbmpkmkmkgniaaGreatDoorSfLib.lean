/- In-place library functions on a list of numbers: from the contracts over memory to the contracts of the pure language. -/
import Derived.Test.YtlbmpkmkmkgniaaGreatDoorSfStep
import Derived.Test.YtlbmpkmkmkgniaaGreatDoorSfDraw
import Derived.Sort.Row
import Derived.Sort.Grow
import Derived.WalkSmall
import Derived.Lib.RowBridge
import Derived.Lib.Bytealg
namespace Go.Sf
open Go.RowKit (Below)
open Go.Sort
abbrev EW:Int->Value:=Value.int .i64
theorem YF {w:World} {g:Nat} {cur:Array Value} {e:TypeId} {fr:Nat × Nat} (d:Array Int) (h:w.heap[g]?=some (.cells cur e fr)):(putRow EW w g 0 d).heap[g]?=some (.cells (putCells EW 0 d cur) e fr):=by
 unfold putRow mapBlock
 simp only [Array.getElem?_modify,if_true,h,Option.map_some]
 rfl
theorem R0 {w:World} {g k:Nat} (d:Array Int) (h:k≠g):(putRow EW w g 0 d).heap[k]?=w.heap[k]?:=by
 unfold putRow mapBlock
 simp only [Array.getElem?_modify]
 rw [if_neg (fun e=>h e.symm)]
theorem QH {w:World} {g:Nat} (d:Array Int):(putRow EW w g 0 d).heap.size=w.heap.size:=by
 unfold putRow mapBlock
 simp
theorem TX (d:Array Int) (cur:Array Value):(putCells EW 0 d cur).size=cur.size:=by simp [putCells]
theorem TY (d:Array Int) (cur:Array Value) (h:d.size<=cur.size) (m:Nat) (hm:m<=d.size):(putCells EW 0 d cur).toList.take m=(d.toList.take m).map EW:=by
 apply List.ext_getElem?
 intro i
 rw [List.getElem?_take,List.getElem?_map,List.getElem?_take]
 split
 ·rename_i hi
  have h1:i<cur.size:=by omega
  have h2:i<d.size:=by omega
  rw [Array.getElem?_toList,Array.getElem?_toList]
  simp only [putCells,Array.getElem?_mapIdx,Array.getElem?_eq_getElem h1,Option.map_some,Array.getElem?_eq_getElem h2]
  rw [if_pos ⟨Nat.zero_le _,by omega⟩]
  simp [getElem!_pos,h2]
 ·rfl
theorem SB {w:World} {v:Value} {n:Nat} {xs:List Value} {z:Option (Nat × Nat)} (h:Jr w 1 v n xs z) :
  (v=.slice none 0 0∧n=0∧z=none∧xs=[])∨∃ g cap cur e,v=.slice (some ⟨g,0,none⟩) n cap∧w.heap[g]?=some (.cells cur e (0,0))∧n<=cap∧cap<=maxLen∧cur.size=cap∧cur.toList.take n=xs∧z=some (g,0):=by
 obtain ⟨z0,⟨h1,h2⟩,rfl⟩:=h
 rcases h2 with ⟨rfl,rfl,rfl⟩ | ⟨g,cap,cur,e,h3,h4,h5,h6,h7,h8,rfl⟩
 ·exact .inl ⟨rfl,rfl,rfl,List.eq_nil_of_length_eq_zero (by simpa using h1)⟩
 ·exact .inr ⟨g,cap,cur,e,h3,h4,h5,h6,by simpa using h7,by simpa using h8,rfl⟩
theorem S6 {w:World} {g n:Nat} {cur:Array Value} {e:TypeId} {zs:List Int} (h:w.heap[g]?=some (.cells cur e (0,0))) (ht:cur.toList.take zs.length=zs.map EW):Holds EW w g 0 zs.toArray:=by
 intro j hj
 simp only [List.size_toArray] at hj
 have hc:cur[j]?=some (EW (zs[j]'hj)):=by
  have:=congrArg (fun l=>l[j]?) ht
  simp only [List.getElem?_take,if_pos hj,List.getElem?_map,List.getElem?_eq_getElem hj,Option.map_some] at this
  rw [Array.getElem?_toList] at this
  exact this
 refine ⟨?_,?_⟩
 ·simp only [World.cell?,h,Nat.zero_add,hc]
  simp [getElem!_pos,hj]
 ·simp [World.frozen?,h]
theorem VE {w:World} {g cap m:Nat} {cur:Array Value} {e:TypeId} {d:Array Int} (hb:w.heap[g]?=some (.cells cur e (0,0))) (hc:cur.size=cap) (hx:cap<=maxLen) (hd:d.size<=cap) (hm:m<=d.size) (q:Nat) (os:Array Obj) :
  Jr (grow (putRow EW (Sort.ahead w q) g 0 d) os) 1 (.slice (some ⟨g,0,none⟩) m cap) m ((d.toList.take m).map EW) (some (g,0))∧N6 (some (g,0)) w (grow (putRow EW (Sort.ahead w q) g 0 d) os):=by
 have hlt:g<w.heap.size:=(Array.getElem?_eq_some_iff.1 hb).1
 have hsz:(putRow EW (Sort.ahead w q) g 0 d).heap.size=w.heap.size:=QH d
 have hg:(grow (putRow EW (Sort.ahead w q) g 0 d) os).heap[g]?=some (.cells (putCells EW 0 d cur) e (0,0)):=by
  simp only [grow]
  rw [Array.getElem?_append_left (by rw [hsz]; exact hlt)]
  exact YF d hb
 refine ⟨⟨some (g,m*1),⟨by simp [List.length_take]; omega,.inr ⟨g,cap,_,e,rfl,hg,by omega,hx,by rw [TX,hc]; simp,?_,rfl⟩⟩,rfl⟩,rfl,rfl,rfl,?_,fun k hk hne=>?_⟩
 ·rw [Nat.mul_one]
  exact TY d cur (by omega) m hm
 ·simp only [grow,Array.size_append]
  rw [hsz]; omega
 ·have hkg:k≠g:=fun e=>hne 0 (by rw [e])
  simp only [grow]
  rw [Array.getElem?_append_left (by rw [hsz]; exact hk)]
  exact R0 d hkg
theorem Yw {w:World} {g cap m:Nat} {cur:Array Value} {e:TypeId} {d:Array Int} (hb:w.heap[g]?=some (.cells cur e (0,0))) (hc:cur.size=cap) (hx:cap<=maxLen) (hd:d.size<=cap) (hm:m<=d.size) (q:Nat) :
  Jr (putRow EW (Sort.ahead w q) g 0 d) 1 (.slice (some ⟨g,0,none⟩) m cap) m ((d.toList.take m).map EW) (some (g,0))∧N6 (some (g,0)) w (putRow EW (Sort.ahead w q) g 0 d):=by
 have:=VE hb hc hx hd hm q #[]
 rwa [grow_empty] at this
theorem QA (z:Option (Nat × Nat)) (w:World):N6 z w w:=⟨rfl,rfl,rfl,Nat.le_refl _,fun _ _ _=>rfl⟩
theorem WJ {zs zs':List Int} (h:(TV.list 1 (zs.map (TV.int .i64))).WF) (hl:zs'.length<=zs.length) (hm:∀ x∈zs',x∈zs):(TV.list 1 (zs'.map (TV.int .i64))).WF:=by
 simp only [TV.WF,List.length_map] at h ⊢
 refine ⟨by omega,?_⟩
 rw [CJ] at h ⊢
 intro t ht
 obtain ⟨x,hx,rfl⟩:=List.mem_map.1 ht
 exact h.2 _ (List.mem_map.2 ⟨x,hm x hx,rfl⟩)
theorem Xz {P:Program} {f:FuncId} (hc:F1 P f=true) {zs zs':List Int} (hl:zs'.length=zs.length) (hm:∀ x∈zs',x∈zs)
  (hnil:∀ (w:World),zs=[]->Calls P f #[.slice none 0 0] w fun e w'=>e=.returned (.tuple #[])∧w'=w)
  (hrow:∀ (g cap:Nat) (w:World),zs.length<=cap->cap<=maxLen->g<w.heap.size->Holds EW w g 0 zs.toArray->Calls P f #[.slice (some ⟨g,0,none⟩) zs.length cap] w fun e w'=>e=.returned (.tuple #[])∧∃ n os,w'=grow (putRow EW (Sort.ahead w n) g 0 zs'.toArray) os) :
  AR P f [.list 1 (zs.map (TV.int .i64))] (.turn zs'):=by
 refine ⟨zs,rfl,hc,hl,fun h=>WJ h (by omega) hm,fun w v z hx=>?_⟩
 rcases SB hx with ⟨rfl,h1,rfl,h2⟩ | ⟨g,cap,cur,e,rfl,h1,h2,h3,h4,h5,rfl⟩
 ·have hz:zs=[]:=List.eq_nil_of_length_eq_zero h1
  have hz':zs'=[]:=List.eq_nil_of_length_eq_zero (by rw [hl,h1])
  refine (hnil w hz).mono ?_
  rintro _ _ ⟨rfl,rfl⟩
  subst hz hz'
  exact ⟨rfl,hx,QA _ _⟩
 ·have hlt:g<w.heap.size:=(Array.getElem?_eq_some_iff.1 h1).1
  refine (hrow g cap w h2 h3 hlt (S6 (n:=zs.length) h1 h5)).mono ?_
  rintro _ _ ⟨rfl,n,os,rfl⟩
  have:=VE (d:=zs'.toArray) (m:=zs.length) h1 h4 h3 (by simp [hl]; exact h2) (by simp [hl]) n os
  have ht:List.take zs.length zs'=zs':=List.take_of_length_le (by omega)
  simp only [ht] at this
  exact ⟨rfl,this.1,this.2⟩
theorem eD {P:Program} {f:FuncId} (hc:F1 P f=true) {zs zs':List Int} {rest:List Int} (hl:zs'.length+rest.length=zs.length) (hm:∀ x∈zs',x∈zs)
  (hnil:∀ (w:World),zs=[]->Calls P f #[.slice none 0 0] w fun e w'=>e=.returned (.slice none 0 0)∧w'=w)
  (hrow:∀ (g cap:Nat) (w:World),zs.length<=cap->cap<=maxLen->g<w.heap.size->Holds EW w g 0 zs.toArray->Calls P f #[.slice (some ⟨g,0,none⟩) zs.length cap] w fun e w'=>e=.returned (.slice (some ⟨g,0,none⟩) zs'.length cap)∧∃ n,w'=putRow EW (Sort.ahead w n) g 0 (zs'++rest).toArray) :
  AR P f [.list 1 (zs.map (TV.int .i64))] (.cut zs'):=by
 refine ⟨zs,rfl,hc,fun h=>WJ h (by omega) hm,fun w v z hx=>?_⟩
 rcases SB hx with ⟨rfl,h1,rfl,h2⟩ | ⟨g,cap,cur,e,rfl,h1,h2,h3,h4,h5,rfl⟩
 ·have hz:zs=[]:=List.eq_nil_of_length_eq_zero h1
  have hz':zs'=[]:=List.eq_nil_of_length_eq_zero (by omega)
  refine (hnil w hz).mono ?_
  rintro _ _ ⟨rfl,rfl⟩
  subst hz hz'
  exact ⟨_,rfl,hx,QA _ _⟩
 ·have hlt:g<w.heap.size:=(Array.getElem?_eq_some_iff.1 h1).1
  refine (hrow g cap w h2 h3 hlt (S6 (n:=zs.length) h1 h5)).mono ?_
  rintro _ _ ⟨rfl,n,rfl⟩
  have:=Yw (d:=(zs'++rest).toArray) (m:=zs'.length) h1 h4 h3 (by simp; omega) (by simp) n
  have ht:List.take zs'.length (zs'++rest)=zs':=by simp
  simp only [ht] at this
  exact ⟨_,rfl,this.1,this.2⟩
theorem R3 {w:World} {F:Nat->Nat->Prop} {b:Nat}:∀ (zs:List Int) (o:Nat),HU w F 1 (zs.map (TV.int .i64)) b o->∀ j,j<zs.length->w.cell? ⟨b,o+j,none⟩=some (.int .i64 (zs.getD j 0))
 | [],_,_,j,hj=>by simp at hj
 | z::zs,o,h,0,_=>by
  simp only [List.map_cons,HU,Iq] at h
  obtain ⟨⟨v,h1,_,_,rfl⟩,_⟩:=h
  simpa using h1
 | z::zs,o,h,j+1,hj=>by
  simp only [List.map_cons,HU] at h
  have:=R3 zs (o+1) h.2.2 j (by simpa using hj)
  rw [show o+(j+1)=o+1+j from by omega]
  simpa using this
theorem Up {w:World} {F:Nat->Nat->Prop} {zs:List Int} {v:Value} (h:A1 w F (.list 1 (zs.map (TV.int .i64))) v) :
  (zs=[]∧∃ a cap,v=.slice a 0 cap)∨∃ b off cap,v=.slice (some ⟨b,off,none⟩) zs.length cap∧zs.length<=cap∧∀ j,j<zs.length->w.cell? ⟨b,off+j,none⟩=some (.int .i64 (zs.getD j 0)):=by
 simp only [A1,List.length_map] at h
 obtain ⟨a,cap,rfl,h1,h2,h3⟩:=h
 cases a with
 | none=>
  have hz:zs=[]:=by simpa using h2 rfl
  subst hz
  exact .inl ⟨rfl,none,cap,rfl⟩
 | some ad=>
  obtain ⟨h4,h5⟩:=h3 ad rfl
  obtain ⟨b,off,sp⟩:=ad
  simp only at h4
  by_cases hz:zs=[]
  ·subst hz
   exact .inl ⟨rfl,_,cap,rfl⟩
  have h4:sp=none:=h4.resolve_left (fun e=>hz (by simpa using e))
  subst h4
  exact .inr ⟨b,off,cap,rfl,h1,R3 zs off h5⟩
theorem Oy {w:World} {F:Nat->Nat->Prop} {t u:TV} {vs:Array Value} (h:AQ w F [t,u] vs.toList):∃ v v',vs=#[v,v']∧A1 w F t v∧A1 w F u v':=by
 simp only [AQ] at h
 obtain ⟨v,r,h1,h2,v',r',rfl,h4,rfl⟩:=h
 refine ⟨v,v',?_,h2,h4⟩
 rw [←Array.toArray_toList (xs:=vs),h1]
theorem eM {P:Program} {f:FuncId} (hc:F1 P f=true) {s:ByteArray} {c n:Int} (hn:-1<=n∧n<=s.size) (hrow:∀ w:World,Calls P f #[.string s,.int .u8 c] w fun e w'=>e=.returned (.int .i64 n)∧w'=w):AR P f [.str s,.int .u8 c] (.sh (.int .i64 n)):=by
 refine AR.of0 (fun hw=>⟨hc,fun F0 w vs hrep=>?_⟩) rfl
 obtain ⟨v,v',rfl,h1,h2⟩:=Oy hrep
 simp only [A1] at h1 h2
 subst h1 h2
 have hs:s.size<=H5:=hw.1
 refine ⟨?_,?_⟩
 ·simp only [CH.WF,TV.WF,IntKind.min,IntKind.max,IntKind.signed,IntKind.bits]
  unfold H5 at hs
  refine ⟨?_,?_⟩ <;> simp <;> omega
 ·refine (hrow w).mono ?_
  rintro _ _ ⟨rfl,rfl⟩
  exact ⟨_,rfl,Below.refl _ _,by simp [Ix,A1]⟩
theorem VL {l:List Int} {x:Int} (h:x∈Go.Lib.compact l):x∈l:=by
 unfold Go.Lib.compact Go.Lib.compactUpTo at h
 obtain ⟨i,hi,rfl⟩:=List.mem_map.1 h
 have:=(List.mem_filter.1 hi).1
 simp only [List.mem_range] at this
 simp [getElem!_pos,this]
theorem Vt:∀ (l:List UInt8) (c:UInt8),Go.Lib.indexByte l c<=l.length
 | [],c=>by simp [Go.Lib.indexByte]
 | b::l,c=>by
  have:=Vt l c
  simp only [Go.Lib.indexByte,List.length_cons]
  split
  ·omega
  ·split <;> omega
theorem eK (s:ByteArray) (c:UInt8):Go.Lib.indexByte s.data.toList c<=s.size:=by
 have:=Vt s.data.toList c
 simpa using this
theorem b8 {P:Program} {f:FuncId} (hc:F1 P f=true) {n:Nat} (hn:n<=B9) {e:TypeId} {z:Array Value} (hz:z.size=1)
  (h0:∀ w:World,n=0->Calls P f #[.slice none 0 0,.int .i64 n] w fun r w'=>r=.returned (.slice none 0 0)∧w'=w)
  (h1:∀ w:World,0<n->Calls P f #[.slice none 0 0,.int .i64 n] w fun r w'=>r=.returned (.slice (some ⟨w.heap.size,0,none⟩) 0 (grownCap w (0+n) 0 e))∧w'=w.drew.alloc (.cells (([]:List Value).toArray++Builtin.zeroCells z (0+n - 0)++Builtin.zeroCells z (grownCap w (0+n) 0 e - (0+n))) e)) :
  AR P f [.nil,.int .i64 n] (.own (.list 1 [])):=by
 refine AR.of0 (fun hw=>⟨hc,fun F0 w vs hrep=>?_⟩) rfl
 obtain ⟨v,v',rfl,k1,k2⟩:=Oy hrep
 simp only [A1] at k1 k2
 subst k1 k2
 refine ⟨by simp [CH.WF,TV.WF,TV.WFs],?_⟩
 rcases Nat.eq_zero_or_pos n with hz0 | hpos
 ·refine (h0 w hz0).mono ?_
  rintro _ _ ⟨rfl,rfl⟩
  exact ⟨_,rfl,Below.refl _ _,none,⟨[],⟨by simp,.inl ⟨rfl,rfl,rfl⟩⟩,rfl,by simp,by simp⟩,by simp⟩
 ·refine (h1 w hpos).mono ?_
  rintro _ _ ⟨rfl,rfl⟩
  have hge:=grownCap_ge w (0+n) 0 e
  have hcm:grownCap w (0+n) 0 e<=maxLen:=grownCap_le_maxLen w (0+n) 0 e (by unfold B9 at hn; unfold maxLen; omega)
  refine ⟨_,rfl,⟨rfl,rfl,rfl,by simp,fun k hk=>Below.heap_alloc w.drew _ k hk⟩,some (w.heap.size,0*1),⟨[],⟨by simp,.inr ⟨w.heap.size,_,_,e,rfl,heap_alloc_new w.drew _,Nat.zero_le _,hcm,?_,by simp,rfl⟩⟩,rfl,by simp,by simp⟩,?_⟩
  ·simp only [Array.size_append,List.size_toArray,List.length_nil,size_zeroCells,hz]
   omega
  ·intro b lo hb
   simp only [zzY,Prod.mk.injEq] at hb
   rw [←hb.1]
   exact ⟨Nat.le_refl _,by simp⟩
end Go.Sf
