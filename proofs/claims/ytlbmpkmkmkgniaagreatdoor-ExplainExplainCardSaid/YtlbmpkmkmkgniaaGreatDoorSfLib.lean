/- In-place library functions on a list of numbers: from the contracts over memory to the contracts of the pure language. -/
import Derived.Test.YtlbmpkmkmkgniaaGreatDoorSfStep
import Derived.Test.YtlbmpkmkmkgniaaGreatDoorSfDraw
import Derived.Sort.Row
import Derived.Sort.Grow
import Derived.WalkSmall
import Derived.Lib.RowBridge
import Derived.Lib.Bytealg
set_option linter.all false
namespace Go.Sf
open Go.RowKit (Below)
open Go.Sort
abbrev FL:Int->Value:=Value.int .i64
variable {w:World} {g:Nat} {cur:Array Value} {e:TypeId}
theorem ah {a:Nat × Nat} (d:Array Int) (h:w.heap[g]?=some (.cells cur e a)):(putRow FL w g 0 d).heap[g]?=some (.cells (putCells FL 0 d cur) e a):=by
 unfold putRow mapBlock;simp only [Array.getElem?_modify,if_true,h,Option.map_some];rfl
theorem UA {g k:Nat} (d:Array Int) (h:k≠g):(putRow FL w g 0 d).heap[k]?=w.heap[k]?:=by
 unfold putRow mapBlock;simp only [Array.getElem?_modify];rw [ci (fun e=>h e.symm)]
theorem Sr (d:Array Int):(putRow FL w g 0 d).heap.size=w.heap.size:=by
 unfold putRow mapBlock;simp
theorem Vc (d:Array Int) (cur:Array Value):(putCells FL 0 d cur).size=cur.size:=by simp [putCells]
theorem Vd (d:Array Int) (cur:Array Value) (h:d.size<=cur.size) (m:Nat) (c:m<=d.size):(putCells FL 0 d cur).toList.take m=(d.toList.take m).map FL:=by
 apply List.ext_getElem?;intro i;rw [List.getElem?_take,List.getElem?_map,List.getElem?_take];split
 ·rename_i hi;have b:i<cur.size:=by omega
  have a:i<d.size:=by omega
  rw [Array.getElem?_toList,Array.getElem?_toList];simp only [putCells,Array.getElem?_mapIdx,Array.getElem?_eq_getElem b,Option.map_some,Array.getElem?_eq_getElem a];rw [ca ⟨Nat.zero_le _,by omega⟩];simp [getElem!_pos,a]
 ·rfl
variable {v:Value} {n:Nat}
theorem UN {xs:List Value} {z:Option (Nat × Nat)} (h:K4 w 1 v n xs z) :
  (v=.slice none 0 0∧n=0∧z=none∧xs=[])∨∃ g cap cur e,v=.slice (some ⟨g,0,none⟩) n cap∧w.heap[g]?=some (.cells cur e (0,0))∧n<=cap∧cap<=maxLen∧cur.size=cap∧cur.toList.take n=xs∧z=some (g,0):=by
 obtain ⟨p,⟨a,b⟩,rfl⟩:=h;rcases b with ⟨rfl,rfl,rfl⟩ | ⟨g,cap,cur,e,c,i,j,k,l,o,rfl⟩
 ·exact .inl ⟨rfl,rfl,rfl,List.eq_nil_of_length_eq_zero (by simpa using a)⟩
 ·exact .inr ⟨g,cap,cur,e,c,i,j,k,by simpa using l,by simpa using o,rfl⟩
variable {zs:IO}
theorem U7 {g n:Nat} (h:w.heap[g]?=some (.cells cur e (0,0))) (b:cur.toList.take zs.length=zs.map FL):Holds FL w g 0 zs.toArray:=by
 intro j a;simp only [List.size_toArray] at a;have c:cur[j]?=some (FL (zs[j]'a)):=by
  have:=congrArg (fun l=>l[j]?) b;simp only [List.getElem?_take,ca a,List.getElem?_map,List.getElem?_eq_getElem a,Option.map_some] at this;rw [Array.getElem?_toList] at this;exact this
 refine ⟨?_,?_⟩
 ·simp only [World.cell?,h,Nat.zero_add,c];simp [getElem!_pos,a]
 ·simp [World.frozen?,h]
variable {cap m:Nat} {d:Array Int}
theorem Xb (i:w.heap[g]?=some (.cells cur e (0,0))) (j:cur.size=cap) (l:cap<=maxLen) (s:d.size<=cap) (o:m<=d.size) (q:Nat) (os:Array Obj) :
  K4 (grow (putRow FL (Sort.ahead w q) g 0 d) os) 1 (.slice (some ⟨g,0,none⟩) m cap) m ((d.toList.take m).map FL) (some (g,0))∧Po (some (g,0)) w (grow (putRow FL (Sort.ahead w q) g 0 d) os):=by
 have c:g<w.heap.size:=(Array.getElem?_eq_some_iff.1 i).1;have a:(putRow FL (Sort.ahead w q) g 0 d).heap.size=w.heap.size:=Sr d;have r:(grow (putRow FL (Sort.ahead w q) g 0 d) os).heap[g]?=some (.cells (putCells FL 0 d cur) e (0,0)):=by
  simp only [grow];rw [Array.getElem?_append_left (by rw [a]; exact c)];exact ah d i
 refine ⟨⟨some (g,m*1),⟨by simp [d1]; omega,.inr ⟨g,cap,_,e,rfl,r,by omega,l,by rw [Vc,j]; simp,?_,rfl⟩⟩,rfl⟩,rfl,rfl,rfl,?_,fun k p b=>?_⟩
 ·rw [Nat.mul_one];exact Vd d cur (by omega) m o
 ·simp only [grow,Array.size_append];rw [a]; omega
 ·have h:k≠g:=fun e=>b 0 (by rw [e]);simp only [grow];rw [Array.getElem?_append_left (by rw [a]; exact p)];exact UA d h
theorem bl (a:w.heap[g]?=some (.cells cur e (0,0))) (b:cur.size=cap) (c:cap<=maxLen) (h:d.size<=cap) (i:m<=d.size) (q:Nat) :
  K4 (putRow FL (Sort.ahead w q) g 0 d) 1 (.slice (some ⟨g,0,none⟩) m cap) m ((d.toList.take m).map FL) (some (g,0))∧Po (some (g,0)) w (putRow FL (Sort.ahead w q) g 0 d):=by
 have:=Xb a b c h i q #[]
 rwa [grow_empty] at this
theorem Sh (z:Option (Nat × Nat)) (w:World):Po z w w:=⟨rfl,rfl,rfl,dD _,fun _ _ _=>rfl⟩
variable {zs':IO}
theorem Ym (h:(TV.list 1 (zs.map (TV.int .i64))).WF) (i:zs'.length<=zs.length) (a:∀ x∈zs',x∈zs):(TV.list 1 (zs'.map (TV.int .i64))).WF:=by
 simp only [TV.WF,d3] at h ⊢;refine ⟨by omega,?_⟩;rw [CW] at h ⊢;intro t b;obtain ⟨x,c,rfl⟩:=List.mem_map.1 b;exact h.2 _ (List.mem_map.2 ⟨x,a x c,rfl⟩)
variable {P:Program} {f:FuncId}
theorem aP (r:GY P f=true) (i:zs'.length=zs.length) (s:∀ x∈zs',x∈zs)
  (b:∀ (w:World),zs=[]->Calls P f #[.slice none 0 0] w fun e w'=>e=.returned (.tuple #[])∧w'=w)
  (c:∀ (g cap:Nat) (w:World),zs.length<=cap->cap<=maxLen->g<w.heap.size->Holds FL w g 0 zs.toArray->Calls P f #[.slice (some ⟨g,0,none⟩) zs.length cap] w fun e w'=>e=.returned (.tuple #[])∧∃ n os,w'=grow (putRow FL (Sort.ahead w n) g 0 zs'.toArray) os) :
  AU P f [.list 1 (zs.map (TV.int .i64))] (.turn zs'):=by
 refine ⟨zs,rfl,r,i,fun h=>Ym h (by omega) s,fun w v z o=>?_⟩;rcases UN o with ⟨rfl,a,rfl,l⟩ | ⟨g,cap,cur,e,rfl,a,l,q,u,y,rfl⟩
 ·have p:zs=[]:=List.eq_nil_of_length_eq_zero a;have j:zs'=[]:=List.eq_nil_of_length_eq_zero (by rw [i,a]);refine (b w p).mono ?_;rintro _ _ ⟨rfl,rfl⟩;subst p j;exact ⟨rfl,o,Sh _ _⟩
 ·have k:g<w.heap.size:=(Array.getElem?_eq_some_iff.1 a).1;refine (c g cap w l q k (U7 (n:=zs.length) a y)).mono ?_;rintro _ _ ⟨rfl,n,os,rfl⟩;have:=Xb (d:=zs'.toArray) (m:=zs.length) a u q (by simp [i]; exact l) (by simp [i]) n os;have t:List.take zs.length zs'=zs':=List.take_of_length_le (by omega);simp only [t] at this;exact ⟨rfl,this.1,this.2⟩
theorem ic (q:GY P f=true) {rest:IO} (y:zs'.length+rest.length=zs.length) (r:∀ x∈zs',x∈zs)
  (a:∀ (w:World),zs=[]->Calls P f #[.slice none 0 0] w fun e w'=>e=.returned (.slice none 0 0)∧w'=w)
  (b:∀ (g cap:Nat) (w:World),zs.length<=cap->cap<=maxLen->g<w.heap.size->Holds FL w g 0 zs.toArray->Calls P f #[.slice (some ⟨g,0,none⟩) zs.length cap] w fun e w'=>e=.returned (.slice (some ⟨g,0,none⟩) zs'.length cap)∧∃ n,w'=putRow FL (Sort.ahead w n) g 0 (zs'++rest).toArray) :
  AU P f [.list 1 (zs.map (TV.int .i64))] (.cut zs'):=by
 refine ⟨zs,rfl,q,fun h=>Ym h (by omega) r,fun w v z k=>?_⟩;rcases UN k with ⟨rfl,c,rfl,o⟩ | ⟨g,cap,cur,e,rfl,c,o,p,t,u,rfl⟩
 ·have l:zs=[]:=List.eq_nil_of_length_eq_zero c;have i:zs'=[]:=List.eq_nil_of_length_eq_zero (by omega);refine (a w l).mono ?_;rintro _ _ ⟨rfl,rfl⟩;subst l i;exact ⟨_,rfl,k,Sh _ _⟩
 ·have j:g<w.heap.size:=(Array.getElem?_eq_some_iff.1 c).1;refine (b g cap w o p j (U7 (n:=zs.length) c u)).mono ?_;rintro _ _ ⟨rfl,n,rfl⟩;have:=bl (d:=(zs'++rest).toArray) (m:=zs'.length) c t p (by simp; omega) (by simp) n;have s:List.take zs'.length (zs'++rest)=zs':=by simp
  simp only [s] at this;exact ⟨_,rfl,this.1,this.2⟩
variable {F:Nat->Nat->Prop}
theorem UD {b:Nat}:∀ (zs:IO) (o:Nat),IN w F 1 (zs.map (TV.int .i64)) b o->∀ j,j<zs.length->w.cell? ⟨b,o+j,none⟩=some (.int .i64 (zs.getD j 0))
 | [],_,_,j,a=>by simp at a
 | z::zs,o,h,0,_=>by
  simp only [List.map_cons,IN,Jn] at h;obtain ⟨⟨v,c,_,_,rfl⟩,_⟩:=h;simpa using c
 | z::zs,o,h,j+1,a=>by
  simp only [List.map_cons,IN] at h;have:=UD zs (o+1) h.2.2 j (by simpa using a);rw [show o+(j+1)=o+1+j from by omega];simpa using this
theorem W9 (h:A7 w F (.list 1 (zs.map (TV.int .i64))) v) :
  (zs=[]∧∃ a cap,v=.slice a 0 cap)∨∃ b c cap,v=.slice (some ⟨b,c,none⟩) zs.length cap∧zs.length<=cap∧∀ j,j<zs.length->w.cell? ⟨b,c+j,none⟩=some (.int .i64 (zs.getD j 0)):=by
 simp only [A7,d3] at h;obtain ⟨a,cap,rfl,o,p,q⟩:=h;cases a with
 | none=>
  have i:zs=[]:=by simpa using p rfl
  subst i;exact .inl ⟨rfl,none,cap,rfl⟩
 | some l=>
  obtain ⟨k,r⟩:=q l rfl;obtain ⟨b,c,s⟩:=l;simp only at k;by_cases i:zs=[]
  ·subst i;exact .inl ⟨rfl,_,cap,rfl⟩
  have k:s=none:=k.resolve_left (fun e=>i (by simpa using e));subst k;exact .inr ⟨b,c,cap,rfl,o,UD zs c r⟩
theorem Qv {t u:TV} {vs:Array Value} (h:AS w F [t,u] vs.toList):∃ v a,vs=#[v,a]∧A7 w F t v∧A7 w F u a:=by
 simp only [AS] at h;obtain ⟨v,r,b,c,a,j,rfl,i,rfl⟩:=h;refine ⟨v,a,?_,c,i⟩;rw [←Array.toArray_toList (xs:=vs),b]
theorem ip (j:GY P f=true) {s:ByteArray} {c n:Int} (o:-1<=n∧n<=s.size) (a:∀ w:World,Calls P f #[.string s,.int .u8 c] w fun e w'=>e=.returned (.int .i64 n)∧w'=w):AU P f [.str s,.int .u8 c] (.sh (.int .i64 n)):=by
 refine AU.of0 (fun k=>⟨j,fun F0 w vs b=>?_⟩) rfl;obtain ⟨v,p,rfl,h,i⟩:=Qv b;simp only [A7] at h i;subst h i;have l:s.size<=I0:=k.1;refine ⟨?_,?_⟩
 ·simp only [CS.WF,TV.WF,IntKind.min,IntKind.max,IntKind.signed,IntKind.bits];unfold I0 at l;refine ⟨?_,?_⟩ <;> simp <;> omega
 ·refine (a w).mono ?_;rintro _ _ ⟨rfl,rfl⟩;exact ⟨_,rfl,Below.refl _ _,by simp [Jt,A7]⟩
theorem Si {l:IO} {x:Int} (h:x∈Go.Lib.compact l):x∈l:=by
 unfold Go.Lib.compact Go.Lib.compactUpTo at h;obtain ⟨i,hi,rfl⟩:=List.mem_map.1 h;have:=(List.mem_filter.1 hi).1;simp only [List.mem_range] at this;simp [getElem!_pos,this]
theorem YI:∀ (l:List UInt8) (c:UInt8),Go.Lib.indexByte l c<=l.length
 | [],c=>by simp [Go.Lib.indexByte]
 | b::l,c=>by
  have:=YI l c;simp only [Go.Lib.indexByte,d2];split
  ·omega
  ·split <;> omega
theorem io (s:ByteArray) (c:UInt8):Go.Lib.indexByte s.data.toList c<=s.size:=by
 have:=YI s.data.toList c;simpa using this
theorem fW (p:GY P f=true) (q:n<=BM) {z:Array Value} (s:z.size=1)
  (t:∀ w:World,n=0->Calls P f #[.slice none 0 0,.int .i64 n] w fun r w'=>r=.returned (.slice none 0 0)∧w'=w)
  (u:∀ w:World,0<n->Calls P f #[.slice none 0 0,.int .i64 n] w fun r w'=>r=.returned (.slice (some ⟨w.heap.size,0,none⟩) 0 (grownCap w (0+n) 0 e))∧w'=w.drew.alloc (.cells (([]:List Value).toArray++Builtin.zeroCells z (0+n - 0)++Builtin.zeroCells z (grownCap w (0+n) 0 e - (0+n))) e)) :
  AU P f [.nil,.int .i64 n] (.own (.list 1 [])):=by
 refine AU.of0 (fun A=>⟨p,fun F0 w vs a=>?_⟩) rfl;obtain ⟨v,B,rfl,l,o⟩:=Qv a;simp only [A7] at l o;subst l o;refine ⟨by simp [CS.WF,TV.WF,TV.WFs],?_⟩;rcases Nat.eq_zero_or_pos n with i | c
 ·refine (t w i).mono ?_;rintro _ _ ⟨rfl,rfl⟩;exact ⟨_,rfl,Below.refl _ _,none,⟨[],⟨by simp,.inl ⟨rfl,rfl,rfl⟩⟩,rfl,by simp,by simp⟩,by simp⟩
 ·refine (u w c).mono ?_;rintro _ _ ⟨rfl,rfl⟩;have y:=grownCap_ge w (0+n) 0 e;have h:grownCap w (0+n) 0 e<=maxLen:=grownCap_le_maxLen w (0+n) 0 e (by unfold BM at q; unfold maxLen; omega);refine ⟨_,rfl,⟨rfl,rfl,rfl,by simp,fun k x=>Below.heap_alloc w.drew _ k x⟩,some (w.heap.size,0*1),⟨[],⟨by simp,.inr ⟨w.heap.size,_,_,e,rfl,heap_alloc_new w.drew _,Nat.zero_le _,h,?_,by simp,rfl⟩⟩,rfl,by simp,by simp⟩,?_⟩
  ·simp only [Array.size_append,List.size_toArray,List.length_nil,size_zeroCells,s];omega
  ·intro b lo j;simp only [zzY,Prod.mk.injEq] at j;rw [←j.1];exact ⟨dD _,by simp⟩
end Go.Sf
