/- In-place library functions on a list of numbers: from the contracts over memory to the contracts of the pure language. -/
import Derived.Test.YtlbmpkmkmkgniaaGreatDoorSfStep
import Derived.Test.YtlbmpkmkmkgniaaGreatDoorSfDraw
import Derived.Sort.Row
import Derived.Sort.Grow
import Derived.WalkSmall
import Derived.Lib.RowBridge
import Derived.Lib.Bytealg
set_option linter.all false
namespace Go.Sf
open Go.RowKit (Below)
open Go.Sort
abbrev FL:Int->Value:=Value.int .i64
variable {w:World} {g:Nat} {cur:Array Value} {e:TypeId}
theorem ai {a:Nat × Nat} (d:Array Int) (h:w.heap[g]?=some (.cells cur e a)):(putRow FL w g 0 d).heap[g]?=some (.cells (putCells FL 0 d cur) e a):=by
 unfold putRow mapBlock;simp only [Array.getElem?_modify,if_true,h,Option.map_some];rfl
theorem UB {g k:Nat} (d:Array Int) (h:k≠g):(putRow FL w g 0 d).heap[k]?=w.heap[k]?:=by
 unfold putRow mapBlock;simp only [Array.getElem?_modify];rw [d2 (fun e=>h e.symm)]
theorem Ss (d:Array Int):(putRow FL w g 0 d).heap.size=w.heap.size:=by
 unfold putRow mapBlock;simp
theorem Vd (d:Array Int) (cur:Array Value):(putCells FL 0 d cur).size=cur.size:=by simp [putCells]
theorem Ve (d:Array Int) (cur:Array Value) (h:d.size<=cur.size) (m:Nat) (c:m<=d.size):(putCells FL 0 d cur).toList.take m=(d.toList.take m).map FL:=by
 apply List.ext_getElem?;intro i;rw [List.getElem?_take,List.getElem?_map,List.getElem?_take];split
 ·rename_i hi;have b:i<cur.size:=by omega
  have a:i<d.size:=by omega
  rw [Array.getElem?_toList,Array.getElem?_toList];simp only [putCells,Array.getElem?_mapIdx,Array.getElem?_eq_getElem b,Option.map_some,Array.getElem?_eq_getElem a];rw [d1 ⟨Nat.zero_le _,by omega⟩];simp [getElem!_pos,a]
 ·rfl
variable {v:Value} {n:Nat}
theorem UO {xs:List Value} {z:Option (Nat × Nat)} (h:K5 w 1 v n xs z) :
  (v=.slice none 0 0∧n=0∧z=none∧xs=[])∨∃ g cap cur e,v=.slice (some ⟨g,0,none⟩) n cap∧w.heap[g]?=some (.cells cur e (0,0))∧n<=cap∧cap<=maxLen∧cur.size=cap∧cur.toList.take n=xs∧z=some (g,0):=by
 obtain ⟨o,⟨a,b⟩,rfl⟩:=h;rcases b with ⟨rfl,rfl,rfl⟩ | ⟨g,cap,cur,e,c,i,j,k,l,m,rfl⟩
 ·exact .inl ⟨rfl,rfl,rfl,List.eq_nil_of_length_eq_zero (by simpa using a)⟩
 ·exact .inr ⟨g,cap,cur,e,c,i,j,k,by simpa using l,by simpa using m,rfl⟩
theorem U9 {g n:Nat} {zs:Ne} (h:w.heap[g]?=some (.cells cur e (0,0))) (b:cur.toList.take zs.length=zs.map FL):Holds FL w g 0 zs.toArray:=by
 intro j a;simp only [List.size_toArray] at a;have c:cur[j]?=some (FL (zs[j]'a)):=by
  have:=congrArg (fun l=>l[j]?) b;simp only [List.getElem?_take,d1 a,List.getElem?_map,List.getElem?_eq_getElem a,Option.map_some] at this;rw [Array.getElem?_toList] at this;exact this
 refine ⟨?_,?_⟩
 ·simp only [World.cell?,h,Nat.zero_add,c];simp [getElem!_pos,a]
 ·simp [World.frozen?,h]
variable {d:Array Int}
theorem Xc {g cap m:Nat} (i:w.heap[g]?=some (.cells cur e (0,0))) (j:cur.size=cap) (l:cap<=maxLen) (s:d.size<=cap) (o:m<=d.size) (q:Nat) (os:Array Obj) :
  K5 (grow (putRow FL (Sort.ahead w q) g 0 d) os) 1 (.slice (some ⟨g,0,none⟩) m cap) m ((d.toList.take m).map FL) (some (g,0))∧Pp (some (g,0)) w (grow (putRow FL (Sort.ahead w q) g 0 d) os):=by
 have c:g<w.heap.size:=(Array.getElem?_eq_some_iff.1 i).1;have a:(putRow FL (Sort.ahead w q) g 0 d).heap.size=w.heap.size:=Ss d;have r:(grow (putRow FL (Sort.ahead w q) g 0 d) os).heap[g]?=some (.cells (putCells FL 0 d cur) e (0,0)):=by
  simp only [grow];rw [Array.getElem?_append_left (by rw [a]; exact c)];exact ai d i
 refine ⟨⟨some (g,m*1),⟨by simp [d5]; omega,.inr ⟨g,cap,_,e,rfl,r,by omega,l,by rw [Vd,j]; simp,?_,rfl⟩⟩,rfl⟩,rfl,rfl,rfl,?_,fun k p b=>?_⟩
 ·rw [Nat.mul_one];exact Ve d cur (by omega) m o
 ·simp only [grow,Array.size_append];rw [a]; omega
 ·have h:k≠g:=fun e=>b 0 (by rw [e]);simp only [grow];rw [Array.getElem?_append_left (by rw [a]; exact p)];exact UB d h
theorem bm {g cap m:Nat} (a:w.heap[g]?=some (.cells cur e (0,0))) (b:cur.size=cap) (c:cap<=maxLen) (h:d.size<=cap) (i:m<=d.size) (q:Nat) :
  K5 (putRow FL (Sort.ahead w q) g 0 d) 1 (.slice (some ⟨g,0,none⟩) m cap) m ((d.toList.take m).map FL) (some (g,0))∧Pp (some (g,0)) w (putRow FL (Sort.ahead w q) g 0 d):=by
 have:=Xc a b c h i q #[]
 rwa [grow_empty] at this
theorem Si (z:Option (Nat × Nat)) (w:World):Pp z w w:=⟨rfl,rfl,rfl,d3 _,fun _ _ _=>rfl⟩
theorem Yn {zs a:Ne} (h:(TV.list 1 (zs.map (TV.int .i64))).WF) (j:a.length<=zs.length) (b:∀ x∈a,x∈zs):(TV.list 1 (a.map (TV.int .i64))).WF:=by
 simp only [TV.WF,d7] at h ⊢;refine ⟨by omega,?_⟩;rw [CW] at h ⊢;intro t c;obtain ⟨x,i,rfl⟩:=List.mem_map.1 c;exact h.2 _ (List.mem_map.2 ⟨x,b x i,rfl⟩)
variable {P:Program} {f:FuncId}
theorem aQ (s:GY P f=true) {zs a:Ne} (j:a.length=zs.length) (t:∀ x∈a,x∈zs)
  (c:∀ (w:World),zs=[]->Calls P f #[.slice none 0 0] w fun e w'=>e=.returned (.tuple #[])∧w'=w)
  (i:∀ (g cap:Nat) (w:World),zs.length<=cap->cap<=maxLen->g<w.heap.size->Holds FL w g 0 zs.toArray->Calls P f #[.slice (some ⟨g,0,none⟩) zs.length cap] w fun e w'=>e=.returned (.tuple #[])∧∃ n os,w'=grow (putRow FL (Sort.ahead w n) g 0 a.toArray) os) :
  AU P f [.list 1 (zs.map (TV.int .i64))] (.turn a):=by
 refine ⟨zs,rfl,s,j,fun h=>Yn h (by omega) t,fun w v z p=>?_⟩;rcases UO p with ⟨rfl,b,rfl,o⟩ | ⟨g,cap,cur,e,rfl,b,o,r,y,A,rfl⟩
 ·have q:zs=[]:=List.eq_nil_of_length_eq_zero b;have k:a=[]:=List.eq_nil_of_length_eq_zero (by rw [j,b]);refine (c w q).mono ?_;rintro _ _ ⟨rfl,rfl⟩;subst q k;exact ⟨rfl,p,Si _ _⟩
 ·have l:g<w.heap.size:=(Array.getElem?_eq_some_iff.1 b).1;refine (i g cap w o r l (U9 (n:=zs.length) b A)).mono ?_;rintro _ _ ⟨rfl,n,os,rfl⟩;have:=Xc (d:=a.toArray) (m:=zs.length) b y r (by simp [j]; exact o) (by simp [j]) n os;have u:List.take zs.length a=a:=List.take_of_length_le (by omega);simp only [u] at this;exact ⟨rfl,this.1,this.2⟩
theorem ig (r:GY P f=true) {zs a:Ne} {rest:Ne} (A:a.length+rest.length=zs.length) (s:∀ x∈a,x∈zs)
  (b:∀ (w:World),zs=[]->Calls P f #[.slice none 0 0] w fun e w'=>e=.returned (.slice none 0 0)∧w'=w)
  (c:∀ (g cap:Nat) (w:World),zs.length<=cap->cap<=maxLen->g<w.heap.size->Holds FL w g 0 zs.toArray->Calls P f #[.slice (some ⟨g,0,none⟩) zs.length cap] w fun e w'=>e=.returned (.slice (some ⟨g,0,none⟩) a.length cap)∧∃ n,w'=putRow FL (Sort.ahead w n) g 0 (a++rest).toArray) :
  AU P f [.list 1 (zs.map (TV.int .i64))] (.cut a):=by
 refine ⟨zs,rfl,r,fun h=>Yn h (by omega) s,fun w v z l=>?_⟩;rcases UO l with ⟨rfl,i,rfl,p⟩ | ⟨g,cap,cur,e,rfl,i,p,q,u,y,rfl⟩
 ·have o:zs=[]:=List.eq_nil_of_length_eq_zero i;have j:a=[]:=List.eq_nil_of_length_eq_zero (by omega);refine (b w o).mono ?_;rintro _ _ ⟨rfl,rfl⟩;subst o j;exact ⟨_,rfl,l,Si _ _⟩
 ·have k:g<w.heap.size:=(Array.getElem?_eq_some_iff.1 i).1;refine (c g cap w p q k (U9 (n:=zs.length) i y)).mono ?_;rintro _ _ ⟨rfl,n,rfl⟩;have:=bm (d:=(a++rest).toArray) (m:=a.length) i u q (by simp; omega) (by simp) n;have t:List.take a.length (a++rest)=a:=by simp
  simp only [t] at this;exact ⟨_,rfl,this.1,this.2⟩
variable {F:Nat->Nat->Prop}
theorem UE {b:Nat}:∀ (zs:Ne) (o:Nat),IN w F 1 (zs.map (TV.int .i64)) b o->∀ j,j<zs.length->w.cell? ⟨b,o+j,none⟩=some (.int .i64 (zs.getD j 0))
 | [],_,_,j,a=>by simp at a
 | z::zs,o,h,0,_=>by
  simp only [List.map_cons,IN,Jo] at h;obtain ⟨⟨v,c,_,_,rfl⟩,_⟩:=h;simpa using c
 | z::zs,o,h,j+1,a=>by
  simp only [List.map_cons,IN] at h;have:=UE zs (o+1) h.2.2 j (by simpa using a);rw [show o+(j+1)=o+1+j from by omega];simpa using this
theorem XA {zs:Ne} (h:A7 w F (.list 1 (zs.map (TV.int .i64))) v) :
  (zs=[]∧∃ a cap,v=.slice a 0 cap)∨∃ b c cap,v=.slice (some ⟨b,c,none⟩) zs.length cap∧zs.length<=cap∧∀ j,j<zs.length->w.cell? ⟨b,c+j,none⟩=some (.int .i64 (zs.getD j 0)):=by
 simp only [A7,d7] at h;obtain ⟨a,cap,rfl,m,o,p⟩:=h;cases a with
 | none=>
  have i:zs=[]:=by simpa using o rfl
  subst i;exact .inl ⟨rfl,none,cap,rfl⟩
 | some l=>
  obtain ⟨k,q⟩:=p l rfl;obtain ⟨b,c,r⟩:=l;simp only at k;by_cases i:zs=[]
  ·subst i;exact .inl ⟨rfl,_,cap,rfl⟩
  have k:r=none:=k.resolve_left (fun e=>i (by simpa using e));subst k;exact .inr ⟨b,c,cap,rfl,m,UE zs c q⟩
theorem Qw {t u:TV} {vs:Array Value} (h:AS w F [t,u] vs.toList):∃ v a,vs=#[v,a]∧A7 w F t v∧A7 w F u a:=by
 simp only [AS] at h;obtain ⟨v,r,b,c,a,j,rfl,i,rfl⟩:=h;refine ⟨v,a,?_,c,i⟩;rw [←Array.toArray_toList (xs:=vs),b]
theorem iq (j:GY P f=true) {s:ByteArray} {c n:Int} (m:-1<=n∧n<=s.size) (a:∀ w:World,Calls P f #[.string s,.int .u8 c] w fun e w'=>e=.returned (.int .i64 n)∧w'=w):AU P f [.str s,.int .u8 c] (.sh (.int .i64 n)):=by
 refine AU.of0 (fun k=>⟨j,fun F0 w vs b=>?_⟩) rfl;obtain ⟨v,o,rfl,h,i⟩:=Qw b;simp only [A7] at h i;subst h i;have l:s.size<=I0:=k.1;refine ⟨?_,?_⟩
 ·simp only [CS.WF,TV.WF,IntKind.min,IntKind.max,IntKind.signed,IntKind.bits];unfold I0 at l;refine ⟨?_,?_⟩ <;> simp <;> omega
 ·refine (a w).mono ?_;rintro _ _ ⟨rfl,rfl⟩;exact ⟨_,rfl,Below.refl _ _,by simp [Ju,A7]⟩
theorem Sj {l:Ne} {x:Int} (h:x∈Go.Lib.compact l):x∈l:=by
 unfold Go.Lib.compact Go.Lib.compactUpTo at h;obtain ⟨i,hi,rfl⟩:=List.mem_map.1 h;have:=(List.mem_filter.1 hi).1;simp only [List.mem_range] at this;simp [getElem!_pos,this]
theorem YJ:∀ (l:List UInt8) (c:UInt8),Go.Lib.indexByte l c<=l.length
 | [],c=>by simp [Go.Lib.indexByte]
 | b::l,c=>by
  have:=YJ l c;simp only [Go.Lib.indexByte,d6];split
  ·omega
  ·split <;> omega
theorem ip (s:ByteArray) (c:UInt8):Go.Lib.indexByte s.data.toList c<=s.size:=by
 have:=YJ s.data.toList c;simpa using this
theorem fX (o:GY P f=true) (p:n<=BM) {z:Array Value} (q:z.size=1)
  (s:∀ w:World,n=0->Calls P f #[.slice none 0 0,.int .i64 n] w fun r w'=>r=.returned (.slice none 0 0)∧w'=w)
  (t:∀ w:World,0<n->Calls P f #[.slice none 0 0,.int .i64 n] w fun r w'=>r=.returned (.slice (some ⟨w.heap.size,0,none⟩) 0 (grownCap w (0+n) 0 e))∧w'=w.drew.alloc (.cells (([]:List Value).toArray++Builtin.zeroCells z (0+n - 0)++Builtin.zeroCells z (grownCap w (0+n) 0 e - (0+n))) e)) :
  AU P f [.nil,.int .i64 n] (.own (.list 1 [])):=by
 refine AU.of0 (fun y=>⟨o,fun F0 w vs a=>?_⟩) rfl;obtain ⟨v,A,rfl,l,m⟩:=Qw a;simp only [A7] at l m;subst l m;refine ⟨by simp [CS.WF,TV.WF,TV.WFs],?_⟩;rcases Nat.eq_zero_or_pos n with i | c
 ·refine (s w i).mono ?_;rintro _ _ ⟨rfl,rfl⟩;exact ⟨_,rfl,Below.refl _ _,none,⟨[],⟨by simp,.inl ⟨rfl,rfl,rfl⟩⟩,rfl,by simp,by simp⟩,by simp⟩
 ·refine (t w c).mono ?_;rintro _ _ ⟨rfl,rfl⟩;have x:=grownCap_ge w (0+n) 0 e;have h:grownCap w (0+n) 0 e<=maxLen:=grownCap_le_maxLen w (0+n) 0 e (by unfold BM at p; unfold maxLen; omega);refine ⟨_,rfl,⟨rfl,rfl,rfl,by simp,fun k u=>Below.heap_alloc w.drew _ k u⟩,some (w.heap.size,0*1),⟨[],⟨by simp,.inr ⟨w.heap.size,_,_,e,rfl,heap_alloc_new w.drew _,Nat.zero_le _,h,?_,by simp,rfl⟩⟩,rfl,by simp,by simp⟩,?_⟩
  ·simp only [Array.size_append,List.size_toArray,List.length_nil,size_zeroCells,q];omega
  ·intro b lo j;simp only [zzY,Prod.mk.injEq] at j;rw [←j.1];exact ⟨d3 _,by simp⟩
end Go.Sf
