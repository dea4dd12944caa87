/- In-place library functions on a list of numbers: from the contracts over memory to the contracts of the pure language. -/
import Derived.Test.YtlbmpkmkmkgniaaGreatDoorSfStep
import Derived.Test.YtlbmpkmkmkgniaaGreatDoorSfDraw
import Derived.Sort.Row
import Derived.Sort.Grow
import Derived.WalkSmall
import Derived.Lib.RowBridge
import Derived.Lib.Bytealg
set_option linter.all false
namespace Go.Sf
open Go.RowKit (Below)
open Go.Sort
abbrev FI:Int->Value:=Value.int .i64
theorem aq {w:World} {g:Nat} {a:Array Value} {e:TypeId} {b:Nat × Nat} (d:Array Int) (h:w.heap[g]?=some (.cells a e b)):(putRow FI w g 0 d).heap[g]?=some (.cells (putCells FI 0 d a) e b):=by
 unfold putRow mapBlock;simp only [Array.getElem?_modify,if_true,h,Option.map_some];rfl
theorem UK {w:World} {g k:Nat} (d:Array Int) (h:k≠g):(putRow FI w g 0 d).heap[k]?=w.heap[k]?:=by
 unfold putRow mapBlock;simp only [Array.getElem?_modify];rw [d2 (fun e=>h e.symm)]
theorem SU {w:World} {g:Nat} (d:Array Int):(putRow FI w g 0 d).heap.size=w.heap.size:=by
 unfold putRow mapBlock;simp
theorem Vq (d:Array Int) (a:Array Value):(putCells FI 0 d a).size=a.size:=by simp [putCells]
theorem Vr (d:Array Int) (a:Array Value) (h:d.size<=a.size) (m:Nat) (e:m<=d.size):(putCells FI 0 d a).toList.take m=(d.toList.take m).map FI:=by
 apply List.ext_getElem?;intro i;rw [List.getElem?_take,List.getElem?_map,List.getElem?_take];split
 ·rename_i hi;have c:i<a.size:=by omega
  have b:i<d.size:=by omega
  rw [Array.getElem?_toList,Array.getElem?_toList];simp only [putCells,Array.getElem?_mapIdx,Array.getElem?_eq_getElem c,Option.map_some,Array.getElem?_eq_getElem b];rw [d1 ⟨Nat.zero_le _,by omega⟩];simp [getElem!_pos,b]
 ·rfl
theorem UY {w:World} {v:Value} {n:Nat} {xs:List Value} {z:Option (Nat × Nat)} (h:K5 w 1 v n xs z) :
  (v=.slice none 0 0∧n=0∧z=none∧xs=[])∨∃ g cap a e,v=.slice (some ⟨g,0,none⟩) n cap∧w.heap[g]?=some (.cells a e (0,0))∧n<=cap∧cap<=maxLen∧a.size=cap∧a.toList.take n=xs∧z=some (g,0):=by
 obtain ⟨m,⟨b,c⟩,rfl⟩:=h;rcases c with ⟨rfl,rfl,rfl⟩ | ⟨g,cap,a,e,d,f,i,j,k,l,rfl⟩
 ·exact .inl ⟨rfl,rfl,rfl,List.eq_nil_of_length_eq_zero (by simpa using b)⟩
 ·exact .inr ⟨g,cap,a,e,d,f,i,j,by simpa using k,by simpa using l,rfl⟩
theorem VM {w:World} {g n:Nat} {a:Array Value} {e:TypeId} {zs:Ne} (h:w.heap[g]?=some (.cells a e (0,0))) (c:a.toList.take zs.length=zs.map FI):Holds FI w g 0 zs.toArray:=by
 intro j b;simp only [List.size_toArray] at b;have d:a[j]?=some (FI (zs[j]'b)):=by
  have:=congrArg (fun l=>l[j]?) c;simp only [List.getElem?_take,d1 b,List.getElem?_map,List.getElem?_eq_getElem b,Option.map_some] at this;rw [Array.getElem?_toList] at this;exact this
 refine ⟨?_,?_⟩
 ·simp only [World.cell?,h,Nat.zero_add,d];simp [getElem!_pos,b]
 ·simp [World.frozen?,h]
theorem Xd {w:World} {g cap m:Nat} {a:Array Value} {e:TypeId} {d:Array Int} (i:w.heap[g]?=some (.cells a e (0,0))) (j:a.size=cap) (l:cap<=maxLen) (r:d.size<=cap) (n:m<=d.size) (q:Nat) (os:Array Obj) :
  K5 (grow (putRow FI (Sort.ahead w q) g 0 d) os) 1 (.slice (some ⟨g,0,none⟩) m cap) m ((d.toList.take m).map FI) (some (g,0))∧P0 (some (g,0)) w (grow (putRow FI (Sort.ahead w q) g 0 d) os):=by
 have f:g<w.heap.size:=(Array.getElem?_eq_some_iff.1 i).1;have b:(putRow FI (Sort.ahead w q) g 0 d).heap.size=w.heap.size:=SU d;have p:(grow (putRow FI (Sort.ahead w q) g 0 d) os).heap[g]?=some (.cells (putCells FI 0 d a) e (0,0)):=by
  simp only [grow];rw [Array.getElem?_append_left (by rw [b]; exact f)];exact aq d i
 refine ⟨⟨some (g,m*1),⟨by simp [d5]; omega,.inr ⟨g,cap,_,e,rfl,p,by omega,l,by rw [Vq,j]; simp,?_,rfl⟩⟩,rfl⟩,rfl,rfl,rfl,?_,fun k o c=>?_⟩
 ·rw [Nat.mul_one];exact Vr d a (by omega) m n
 ·simp only [grow,Array.size_append];rw [b]; omega
 ·have h:k≠g:=fun e=>c 0 (by rw [e]);simp only [grow];rw [Array.getElem?_append_left (by rw [b]; exact o)];exact UK d h
theorem bu {w:World} {g cap m:Nat} {a:Array Value} {e:TypeId} {d:Array Int} (b:w.heap[g]?=some (.cells a e (0,0))) (c:a.size=cap) (f:cap<=maxLen) (h:d.size<=cap) (i:m<=d.size) (q:Nat) :
  K5 (putRow FI (Sort.ahead w q) g 0 d) 1 (.slice (some ⟨g,0,none⟩) m cap) m ((d.toList.take m).map FI) (some (g,0))∧P0 (some (g,0)) w (putRow FI (Sort.ahead w q) g 0 d):=by
 have:=Xd b c f h i q #[]
 rwa [grow_empty] at this
theorem SN (z:Option (Nat × Nat)) (w:World):P0 z w w:=⟨rfl,rfl,rfl,d3 _,fun _ _ _=>rfl⟩
theorem Yq {zs a:Ne} (h:(TV.list 1 (zs.map (TV.int .i64))).WF) (e:a.length<=zs.length) (b:∀ x∈a,x∈zs):(TV.list 1 (a.map (TV.int .i64))).WF:=by
 simp only [TV.WF,d7] at h ⊢;refine ⟨by omega,?_⟩;rw [CU] at h ⊢;intro t c;obtain ⟨x,d,rfl⟩:=List.mem_map.1 c;exact h.2 _ (List.mem_map.2 ⟨x,b x d,rfl⟩)
theorem aW {P:Program} {f:FuncId} (s:GV P f=true) {zs a:Ne} (j:a.length=zs.length) (t:∀ x∈a,x∈zs)
  (c:∀ (w:World),zs=[]->Calls P f #[.slice none 0 0] w fun e w'=>e=.returned (.tuple #[])∧w'=w)
  (i:∀ (g cap:Nat) (w:World),zs.length<=cap->cap<=maxLen->g<w.heap.size->Holds FI w g 0 zs.toArray->Calls P f #[.slice (some ⟨g,0,none⟩) zs.length cap] w fun e w'=>e=.returned (.tuple #[])∧∃ n os,w'=grow (putRow FI (Sort.ahead w n) g 0 a.toArray) os) :
  AT P f [.list 1 (zs.map (TV.int .i64))] (.turn a):=by
 refine ⟨zs,rfl,s,j,fun h=>Yq h (by omega) t,fun w v z p=>?_⟩;rcases UY p with ⟨rfl,b,rfl,o⟩ | ⟨g,cap,y,e,rfl,b,o,r,A,B,rfl⟩
 ·have q:zs=[]:=List.eq_nil_of_length_eq_zero b;have k:a=[]:=List.eq_nil_of_length_eq_zero (by rw [j,b]);refine (c w q).mono ?_;rintro _ _ ⟨rfl,rfl⟩;subst q k;exact ⟨rfl,p,SN _ _⟩
 ·have l:g<w.heap.size:=(Array.getElem?_eq_some_iff.1 b).1;refine (i g cap w o r l (VM (n:=zs.length) b B)).mono ?_;rintro _ _ ⟨rfl,n,os,rfl⟩;have:=Xd (d:=a.toArray) (m:=zs.length) b A r (by simp [j]; exact o) (by simp [j]) n os;have u:List.take zs.length a=a:=List.take_of_length_le (by omega);simp only [u] at this;exact ⟨rfl,this.1,this.2⟩
theorem iq {P:Program} {f:FuncId} (r:GV P f=true) {zs a:Ne} {rest:Ne} (B:a.length+rest.length=zs.length) (s:∀ x∈a,x∈zs)
  (b:∀ (w:World),zs=[]->Calls P f #[.slice none 0 0] w fun e w'=>e=.returned (.slice none 0 0)∧w'=w)
  (c:∀ (g cap:Nat) (w:World),zs.length<=cap->cap<=maxLen->g<w.heap.size->Holds FI w g 0 zs.toArray->Calls P f #[.slice (some ⟨g,0,none⟩) zs.length cap] w fun e w'=>e=.returned (.slice (some ⟨g,0,none⟩) a.length cap)∧∃ n,w'=putRow FI (Sort.ahead w n) g 0 (a++rest).toArray) :
  AT P f [.list 1 (zs.map (TV.int .i64))] (.cut a):=by
 refine ⟨zs,rfl,r,fun h=>Yq h (by omega) s,fun w v z l=>?_⟩;rcases UY l with ⟨rfl,i,rfl,p⟩ | ⟨g,cap,u,e,rfl,i,p,q,y,A,rfl⟩
 ·have o:zs=[]:=List.eq_nil_of_length_eq_zero i;have j:a=[]:=List.eq_nil_of_length_eq_zero (by omega);refine (b w o).mono ?_;rintro _ _ ⟨rfl,rfl⟩;subst o j;exact ⟨_,rfl,l,SN _ _⟩
 ·have k:g<w.heap.size:=(Array.getElem?_eq_some_iff.1 i).1;refine (c g cap w p q k (VM (n:=zs.length) i A)).mono ?_;rintro _ _ ⟨rfl,n,rfl⟩;have:=bu (d:=(a++rest).toArray) (m:=a.length) i y q (by simp; omega) (by simp) n;have t:List.take a.length (a++rest)=a:=by simp
  simp only [t] at this;exact ⟨_,rfl,this.1,this.2⟩
theorem UO {w:World} {F:Nat->Nat->Prop} {b:Nat}:∀ (zs:Ne) (o:Nat),IN w F 1 (zs.map (TV.int .i64)) b o->∀ j,j<zs.length->w.cell? ⟨b,o+j,none⟩=some (.int .i64 (zs.getD j 0))
 | [],_,_,j,a=>by simp at a
 | z::zs,o,h,0,_=>by
  simp only [List.map_cons,IN,Jr] at h;obtain ⟨⟨v,c,_,_,rfl⟩,_⟩:=h;simpa using c
 | z::zs,o,h,j+1,a=>by
  simp only [List.map_cons,IN] at h;have:=UO zs (o+1) h.2.2 j (by simpa using a);rw [show o+(j+1)=o+1+j from by omega];simpa using this
theorem XG {w:World} {F:Nat->Nat->Prop} {zs:Ne} {v:Value} (h:A7 w F (.list 1 (zs.map (TV.int .i64))) v) :
  (zs=[]∧∃ a cap,v=.slice a 0 cap)∨∃ b c cap,v=.slice (some ⟨b,c,none⟩) zs.length cap∧zs.length<=cap∧∀ j,j<zs.length->w.cell? ⟨b,c+j,none⟩=some (.int .i64 (zs.getD j 0)):=by
 simp only [A7,d7] at h;obtain ⟨a,cap,rfl,i,k,l⟩:=h;cases a with
 | none=>
  have d:zs=[]:=by simpa using k rfl
  subst d;exact .inl ⟨rfl,none,cap,rfl⟩
 | some g=>
  obtain ⟨f,m⟩:=l g rfl;obtain ⟨b,c,n⟩:=g;simp only at f;by_cases d:zs=[]
  ·subst d;exact .inl ⟨rfl,_,cap,rfl⟩
  have f:n=none:=f.resolve_left (fun e=>d (by simpa using e));subst f;exact .inr ⟨b,c,cap,rfl,i,UO zs c m⟩
theorem Q2 {w:World} {F:Nat->Nat->Prop} {t u:TV} {vs:Array Value} (h:AS w F [t,u] vs.toList):∃ v a,vs=#[v,a]∧A7 w F t v∧A7 w F u a:=by
 simp only [AS] at h;obtain ⟨v,r,b,c,a,e,rfl,d,rfl⟩:=h;refine ⟨v,a,?_,c,d⟩;rw [←Array.toArray_toList (xs:=vs),b]
theorem i7 {P:Program} {f:FuncId} (h:GV P f=true) {s:ByteArray} {c n:Int} (k:-1<=n∧n<=s.size) (a:∀ w:World,Calls P f #[.string s,.int .u8 c] w fun e w'=>e=.returned (.int .i64 n)∧w'=w):AT P f [.str s,.int .u8 c] (.sh (.int .i64 n)):=by
 refine AT.of0 (fun i=>⟨h,fun F0 w vs b=>?_⟩) rfl;obtain ⟨v,l,rfl,d,g⟩:=Q2 b;simp only [A7] at d g;subst d g;have j:s.size<=I3:=i.1;refine ⟨?_,?_⟩
 ·simp only [CS.WF,TV.WF,IntKind.min,IntKind.max,IntKind.signed,IntKind.bits];unfold I3 at j;refine ⟨?_,?_⟩ <;> simp <;> omega
 ·refine (a w).mono ?_;rintro _ _ ⟨rfl,rfl⟩;exact ⟨_,rfl,Below.refl _ _,by simp [Jx,A7]⟩
theorem SO {l:Ne} {x:Int} (h:x∈Go.Lib.compact l):x∈l:=by
 unfold Go.Lib.compact Go.Lib.compactUpTo at h;obtain ⟨i,hi,rfl⟩:=List.mem_map.1 h;have:=(List.mem_filter.1 hi).1;simp only [List.mem_range] at this;simp [getElem!_pos,this]
theorem YK:∀ (l:List UInt8) (c:UInt8),Go.Lib.indexByte l c<=l.length
 | [],c=>by simp [Go.Lib.indexByte]
 | b::l,c=>by
  have:=YK l c;simp only [Go.Lib.indexByte,d6];split
  ·omega
  ·split <;> omega
theorem iz (s:ByteArray) (c:UInt8):Go.Lib.indexByte s.data.toList c<=s.size:=by
 have:=YK s.data.toList c;simpa using this
theorem fe {P:Program} {f:FuncId} (l:GV P f=true) {n:Nat} (m:n<=BN) {e:TypeId} {z:Array Value} (o:z.size=1)
  (p:∀ w:World,n=0->Calls P f #[.slice none 0 0,.int .i64 n] w fun r w'=>r=.returned (.slice none 0 0)∧w'=w)
  (q:∀ w:World,0<n->Calls P f #[.slice none 0 0,.int .i64 n] w fun r w'=>r=.returned (.slice (some ⟨w.heap.size,0,none⟩) 0 (grownCap w (0+n) 0 e))∧w'=w.drew.alloc (.cells (([]:List Value).toArray++Builtin.zeroCells z (0+n - 0)++Builtin.zeroCells z (grownCap w (0+n) 0 e - (0+n))) e)) :
  AT P f [.nil,.int .i64 n] (.own (.list 1 [])):=by
 refine AT.of0 (fun u=>⟨l,fun F0 w vs a=>?_⟩) rfl;obtain ⟨v,x,rfl,i,j⟩:=Q2 a;simp only [A7] at i j;subst i j;refine ⟨by simp [CS.WF,TV.WF,TV.WFs],?_⟩;rcases Nat.eq_zero_or_pos n with g | c
 ·refine (p w g).mono ?_;rintro _ _ ⟨rfl,rfl⟩;exact ⟨_,rfl,Below.refl _ _,none,⟨[],⟨by simp,.inl ⟨rfl,rfl,rfl⟩⟩,rfl,by simp,by simp⟩,by simp⟩
 ·refine (q w c).mono ?_;rintro _ _ ⟨rfl,rfl⟩;have t:=grownCap_ge w (0+n) 0 e;have d:grownCap w (0+n) 0 e<=maxLen:=grownCap_le_maxLen w (0+n) 0 e (by unfold BN at m; unfold maxLen; omega);refine ⟨_,rfl,⟨rfl,rfl,rfl,by simp,fun k s=>Below.heap_alloc w.drew _ k s⟩,some (w.heap.size,0*1),⟨[],⟨by simp,.inr ⟨w.heap.size,_,_,e,rfl,heap_alloc_new w.drew _,Nat.zero_le _,d,?_,by simp,rfl⟩⟩,rfl,by simp,by simp⟩,?_⟩
  ·simp only [Array.size_append,List.size_toArray,List.length_nil,size_zeroCells,o];omega
  ·intro b lo h;simp only [zzY,Prod.mk.injEq] at h;rw [←h.1];exact ⟨d3 _,by simp⟩
end Go.Sf
