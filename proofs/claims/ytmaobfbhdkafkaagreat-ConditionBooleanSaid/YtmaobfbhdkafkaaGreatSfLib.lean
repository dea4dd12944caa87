/- In-place library functions on a list of numbers: from the contracts over memory to the contracts of the pure language. -/
import Derived.Test.YtmaobfbhdkafkaaGreatSfStep
import Derived.Test.YtmaobfbhdkafkaaGreatSfDraw
import Derived.Sort.Row
import Derived.Sort.Grow
import Derived.WalkSmall
import Derived.Lib.RowBridge
import Derived.Lib.Bytealg
namespace Go.Sf
open Go.RowKit (Below)
open Go.Sort
abbrev EF:Int->Value:=Value.int .i64
theorem Yg {w:World} {g:Nat} {cur:Array Value} {e:TypeId} {fr:Nat × Nat} (d:Array Int) (h:w.heap[g]?=some (.cells cur e fr)):(putRow EF w g 0 d).heap[g]?=some (.cells (putCells EF 0 d cur) e fr):=by
 unfold putRow mapBlock
 simp only [Array.getElem?_modify,if_true,h,Option.map_some]
 rfl
theorem SN {w:World} {g k:Nat} (d:Array Int) (h:k≠g):(putRow EF w g 0 d).heap[k]?=w.heap[k]?:=by
 unfold putRow mapBlock
 simp only [Array.getElem?_modify]
 rw [if_neg (fun e=>h e.symm)]
theorem RF {w:World} {g:Nat} (d:Array Int):(putRow EF w g 0 d).heap.size=w.heap.size:=by
 unfold putRow mapBlock
 simp
theorem Tl (d:Array Int) (cur:Array Value):(putCells EF 0 d cur).size=cur.size:=by simp [putCells]
theorem Tm (d:Array Int) (cur:Array Value) (h:d.size<=cur.size) (m:Nat) (hm:m<=d.size):(putCells EF 0 d cur).toList.take m=(d.toList.take m).map EF:=by
 apply List.ext_getElem?
 intro i
 rw [List.getElem?_take,List.getElem?_map,List.getElem?_take]
 split
 ·rename_i hi
  have h1:i<cur.size:=by omega
  have h2:i<d.size:=by omega
  rw [Array.getElem?_toList,Array.getElem?_toList]
  simp only [putCells,Array.getElem?_mapIdx,Array.getElem?_eq_getElem h1,Option.map_some,Array.getElem?_eq_getElem h2]
  rw [if_pos ⟨Nat.zero_le _,by omega⟩]
  simp [getElem!_pos,h2]
 ·rfl
theorem SY {w:World} {v:Value} {n:Nat} {xs:List Value} {z:Option (Nat × Nat)} (h:KE w 1 v n xs z) :
  (v=.slice none 0 0∧n=0∧z=none∧xs=[])∨∃ g cap cur e,v=.slice (some ⟨g,0,none⟩) n cap∧w.heap[g]?=some (.cells cur e (0,0))∧n<=cap∧cap<=maxLen∧cur.size=cap∧cur.toList.take n=xs∧z=some (g,0):=by
 obtain ⟨z0,⟨h1,h2⟩,rfl⟩:=h
 rcases h2 with ⟨rfl,rfl,rfl⟩ | ⟨g,cap,cur,e,h3,h4,h5,h6,h7,h8,rfl⟩
 ·exact .inl ⟨rfl,rfl,rfl,List.eq_nil_of_length_eq_zero (by simpa using h1)⟩
 ·exact .inr ⟨g,cap,cur,e,h3,h4,h5,h6,by simpa using h7,by simpa using h8,rfl⟩
theorem TJ {w:World} {g n:Nat} {cur:Array Value} {e:TypeId} {zs:List Int} (h:w.heap[g]?=some (.cells cur e (0,0))) (ht:cur.toList.take zs.length=zs.map EF):Holds EF w g 0 zs.toArray:=by
 intro j hj
 simp only [List.size_toArray] at hj
 have hc:cur[j]?=some (EF (zs[j]'hj)):=by
  have:=congrArg (fun l=>l[j]?) ht
  simp only [List.getElem?_take,if_pos hj,List.getElem?_map,List.getElem?_eq_getElem hj,Option.map_some] at this
  rw [Array.getElem?_toList] at this
  exact this
 refine ⟨?_,?_⟩
 ·simp only [World.cell?,h,Nat.zero_add,hc]
  simp [getElem!_pos,hj]
 ·simp [World.frozen?,h]
theorem VX {w:World} {g cap m:Nat} {cur:Array Value} {e:TypeId} {d:Array Int} (hb:w.heap[g]?=some (.cells cur e (0,0))) (hc:cur.size=cap) (hx:cap<=maxLen) (hd:d.size<=cap) (hm:m<=d.size) (q:Nat) (os:Array Obj) :
  KE (grow (putRow EF (Sort.ahead w q) g 0 d) os) 1 (.slice (some ⟨g,0,none⟩) m cap) m ((d.toList.take m).map EF) (some (g,0))∧OY (some (g,0)) w (grow (putRow EF (Sort.ahead w q) g 0 d) os):=by
 have hlt:g<w.heap.size:=(Array.getElem?_eq_some_iff.1 hb).1
 have hsz:(putRow EF (Sort.ahead w q) g 0 d).heap.size=w.heap.size:=RF d
 have hg:(grow (putRow EF (Sort.ahead w q) g 0 d) os).heap[g]?=some (.cells (putCells EF 0 d cur) e (0,0)):=by
  simp only [grow]
  rw [Array.getElem?_append_left (by rw [hsz]; exact hlt)]
  exact Yg d hb
 refine ⟨⟨some (g,m*1),⟨by simp [List.length_take]; omega,.inr ⟨g,cap,_,e,rfl,hg,by omega,hx,by rw [Tl,hc]; simp,?_,rfl⟩⟩,rfl⟩,rfl,rfl,rfl,?_,fun k hk hne=>?_⟩
 ·rw [Nat.mul_one]
  exact Tm d cur (by omega) m hm
 ·simp only [grow,Array.size_append]
  rw [hsz]; omega
 ·have hkg:k≠g:=fun e=>hne 0 (by rw [e])
  simp only [grow]
  rw [Array.getElem?_append_left (by rw [hsz]; exact hk)]
  exact SN d hkg
theorem ZP {w:World} {g cap m:Nat} {cur:Array Value} {e:TypeId} {d:Array Int} (hb:w.heap[g]?=some (.cells cur e (0,0))) (hc:cur.size=cap) (hx:cap<=maxLen) (hd:d.size<=cap) (hm:m<=d.size) (q:Nat) :
  KE (putRow EF (Sort.ahead w q) g 0 d) 1 (.slice (some ⟨g,0,none⟩) m cap) m ((d.toList.take m).map EF) (some (g,0))∧OY (some (g,0)) w (putRow EF (Sort.ahead w q) g 0 d):=by
 have:=VX hb hc hx hd hm q #[]
 rwa [grow_empty] at this
theorem Q9 (z:Option (Nat × Nat)) (w:World):OY z w w:=⟨rfl,rfl,rfl,Nat.le_refl _,fun _ _ _=>rfl⟩
theorem Wi {zs zs':List Int} (h:(TV.list 1 (zs.map (TV.int .i64))).WF) (hl:zs'.length<=zs.length) (hm:∀ x∈zs',x∈zs):(TV.list 1 (zs'.map (TV.int .i64))).WF:=by
 simp only [TV.WF,List.length_map] at h ⊢
 refine ⟨by omega,?_⟩
 rw [B4] at h ⊢
 intro t ht
 obtain ⟨x,hx,rfl⟩:=List.mem_map.1 ht
 exact h.2 _ (List.mem_map.2 ⟨x,hm x hx,rfl⟩)
theorem YT {P:Program} {f:FuncId} (hc:HM P f=true) {zs zs':List Int} (hl:zs'.length=zs.length) (hm:∀ x∈zs',x∈zs)
  (hnil:∀ (w:World),zs=[]->Calls P f #[.slice none 0 0] w fun e w'=>e=.returned (.tuple #[])∧w'=w)
  (hrow:∀ (g cap:Nat) (w:World),zs.length<=cap->cap<=maxLen->g<w.heap.size->Holds EF w g 0 zs.toArray->Calls P f #[.slice (some ⟨g,0,none⟩) zs.length cap] w fun e w'=>e=.returned (.tuple #[])∧∃ n os,w'=grow (putRow EF (Sort.ahead w n) g 0 zs'.toArray) os) :
  AS P f [.list 1 (zs.map (TV.int .i64))] (.turn zs'):=by
 refine ⟨zs,rfl,hc,hl,fun h=>Wi h (by omega) hm,fun w v z hx=>?_⟩
 rcases SY hx with ⟨rfl,h1,rfl,h2⟩ | ⟨g,cap,cur,e,rfl,h1,h2,h3,h4,h5,rfl⟩
 ·have hz:zs=[]:=List.eq_nil_of_length_eq_zero h1
  have hz':zs'=[]:=List.eq_nil_of_length_eq_zero (by rw [hl,h1])
  refine (hnil w hz).mono ?_
  rintro _ _ ⟨rfl,rfl⟩
  subst hz hz'
  exact ⟨rfl,hx,Q9 _ _⟩
 ·have hlt:g<w.heap.size:=(Array.getElem?_eq_some_iff.1 h1).1
  refine (hrow g cap w h2 h3 hlt (TJ (n:=zs.length) h1 h5)).mono ?_
  rintro _ _ ⟨rfl,n,os,rfl⟩
  have:=VX (d:=zs'.toArray) (m:=zs.length) h1 h4 h3 (by simp [hl]; exact h2) (by simp [hl]) n os
  have ht:List.take zs.length zs'=zs':=List.take_of_length_le (by omega)
  simp only [ht] at this
  exact ⟨rfl,this.1,this.2⟩
theorem ey {P:Program} {f:FuncId} (hc:HM P f=true) {zs zs':List Int} {rest:List Int} (hl:zs'.length+rest.length=zs.length) (hm:∀ x∈zs',x∈zs)
  (hnil:∀ (w:World),zs=[]->Calls P f #[.slice none 0 0] w fun e w'=>e=.returned (.slice none 0 0)∧w'=w)
  (hrow:∀ (g cap:Nat) (w:World),zs.length<=cap->cap<=maxLen->g<w.heap.size->Holds EF w g 0 zs.toArray->Calls P f #[.slice (some ⟨g,0,none⟩) zs.length cap] w fun e w'=>e=.returned (.slice (some ⟨g,0,none⟩) zs'.length cap)∧∃ n,w'=putRow EF (Sort.ahead w n) g 0 (zs'++rest).toArray) :
  AS P f [.list 1 (zs.map (TV.int .i64))] (.cut zs'):=by
 refine ⟨zs,rfl,hc,fun h=>Wi h (by omega) hm,fun w v z hx=>?_⟩
 rcases SY hx with ⟨rfl,h1,rfl,h2⟩ | ⟨g,cap,cur,e,rfl,h1,h2,h3,h4,h5,rfl⟩
 ·have hz:zs=[]:=List.eq_nil_of_length_eq_zero h1
  have hz':zs'=[]:=List.eq_nil_of_length_eq_zero (by omega)
  refine (hnil w hz).mono ?_
  rintro _ _ ⟨rfl,rfl⟩
  subst hz hz'
  exact ⟨_,rfl,hx,Q9 _ _⟩
 ·have hlt:g<w.heap.size:=(Array.getElem?_eq_some_iff.1 h1).1
  refine (hrow g cap w h2 h3 hlt (TJ (n:=zs.length) h1 h5)).mono ?_
  rintro _ _ ⟨rfl,n,rfl⟩
  have:=ZP (d:=(zs'++rest).toArray) (m:=zs'.length) h1 h4 h3 (by simp; omega) (by simp) n
  have ht:List.take zs'.length (zs'++rest)=zs':=by simp
  simp only [ht] at this
  exact ⟨_,rfl,this.1,this.2⟩
theorem SR {w:World} {F:Nat->Nat->Prop} {b:Nat}:∀ (zs:List Int) (o:Nat),IJ w F 1 (zs.map (TV.int .i64)) b o->∀ j,j<zs.length->w.cell? ⟨b,o+j,none⟩=some (.int .i64 (zs.getD j 0))
 | [],_,_,j,hj=>by simp at hj
 | z::zs,o,h,0,_=>by
  simp only [List.map_cons,IJ,JK] at h
  obtain ⟨⟨v,h1,_,_,rfl⟩,_⟩:=h
  simpa using h1
 | z::zs,o,h,j+1,hj=>by
  simp only [List.map_cons,IJ] at h
  have:=SR zs (o+1) h.2.2 j (by simpa using hj)
  rw [show o+(j+1)=o+1+j from by omega]
  simpa using this
theorem U7 {w:World} {F:Nat->Nat->Prop} {zs:List Int} {v:Value} (h:A1 w F (.list 1 (zs.map (TV.int .i64))) v) :
  (zs=[]∧∃ a cap,v=.slice a 0 cap)∨∃ b off cap,v=.slice (some ⟨b,off,none⟩) zs.length cap∧zs.length<=cap∧∀ j,j<zs.length->w.cell? ⟨b,off+j,none⟩=some (.int .i64 (zs.getD j 0)):=by
 simp only [A1,List.length_map] at h
 obtain ⟨a,cap,rfl,h1,h2,h3⟩:=h
 cases a with
 | none=>
  have hz:zs=[]:=by simpa using h2 rfl
  subst hz
  exact .inl ⟨rfl,none,cap,rfl⟩
 | some ad=>
  obtain ⟨h4,h5⟩:=h3 ad rfl
  obtain ⟨b,off,sp⟩:=ad
  simp only at h4
  by_cases hz:zs=[]
  ·subst hz
   exact .inl ⟨rfl,_,cap,rfl⟩
  have h4:sp=none:=h4.resolve_left (fun e=>hz (by simpa using e))
  subst h4
  exact .inr ⟨b,off,cap,rfl,h1,SR zs off h5⟩
theorem VN {w:World} {F:Nat->Nat->Prop} {t u:TV} {vs:Array Value} (h:AM w F [t,u] vs.toList):∃ v v',vs=#[v,v']∧A1 w F t v∧A1 w F u v':=by
 simp only [AM] at h
 obtain ⟨v,r,h1,h2,v',r',rfl,h4,rfl⟩:=h
 refine ⟨v,v',?_,h2,h4⟩
 rw [←Array.toArray_toList (xs:=vs),h1]
theorem fE {P:Program} {f:FuncId} (hc:HM P f=true) {s:ByteArray} {c n:Int} (hn:-1<=n∧n<=s.size) (hrow:∀ w:World,Calls P f #[.string s,.int .u8 c] w fun e w'=>e=.returned (.int .i64 n)∧w'=w):AS P f [.str s,.int .u8 c] (.sh (.int .i64 n)):=by
 refine AS.of0 (fun hw=>⟨hc,fun F0 w vs hrep=>?_⟩) rfl
 obtain ⟨v,v',rfl,h1,h2⟩:=VN hrep
 simp only [A1] at h1 h2
 subst h1 h2
 have hs:s.size<=J4:=hw.1
 refine ⟨?_,?_⟩
 ·simp only [B5.WF,TV.WF,IntKind.min,IntKind.max,IntKind.signed,IntKind.bits]
  unfold J4 at hs
  refine ⟨?_,?_⟩ <;> simp <;> omega
 ·refine (hrow w).mono ?_
  rintro _ _ ⟨rfl,rfl⟩
  exact ⟨_,rfl,Below.refl _ _,by simp [Kr,A1]⟩
theorem Vc {l:List Int} {x:Int} (h:x∈Go.Lib.compact l):x∈l:=by
 unfold Go.Lib.compact Go.Lib.compactUpTo at h
 obtain ⟨i,hi,rfl⟩:=List.mem_map.1 h
 have:=(List.mem_filter.1 hi).1
 simp only [List.mem_range] at this
 simp [getElem!_pos,this]
theorem WB:∀ (l:List UInt8) (c:UInt8),Go.Lib.indexByte l c<=l.length
 | [],c=>by simp [Go.Lib.indexByte]
 | b::l,c=>by
  have:=WB l c
  simp only [Go.Lib.indexByte,List.length_cons]
  split
  ·omega
  ·split <;> omega
theorem fD (s:ByteArray) (c:UInt8):Go.Lib.indexByte s.data.toList c<=s.size:=by
 have:=WB s.data.toList c
 simpa using this
end Go.Sf
