/- In-place library functions on a list of numbers: from the contracts over memory to the contracts of the pure language. -/
import Derived.Test.YtagcclhejecceaaGreatSfStep
import Derived.Test.YtagcclhejecceaaGreatSfK
import Derived.Sort.Row
import Derived.Sort.Grow
import Derived.WalkSmall
import Derived.Lib.RowBridge
import Derived.Lib.Bytealg
set_option linter.all false
namespace Go.Sf
open Go.RowKit (Below)
open Go.Sort
abbrev Do:Int->Value:=Value.int .i64
variable{w:World}{g:Nat}{cur:Array Value}{e:TypeId}
theorem fa{fr:Nat×Nat}(d:Array Int)(h:w.heap[g]?=some (.cells cur e fr)):(putRow Do w g 0 d).heap[g]?=some (.cells (putCells Do 0 d cur) e fr):=by
 unfold putRow mapBlock;simp[Array.getElem?_modify,h];rfl
theorem WQ{g k:Nat}(d:Array Int)(h:k≠g):(putRow Do w g 0 d).heap[k]?=w.heap[k]?:=by
 unfold putRow mapBlock
 grind
theorem Un(d:Array Int):(putRow Do w g 0 d).heap.size=w.heap.size:=by
 unfold putRow mapBlock;simp
theorem YG(d:Array Int)(cur:Array Value):(putCells Do 0 d cur).size=cur.size:=by simp[putCells]
theorem YH(d:Array Int)(cur:Array Value)(h:d.size<=cur.size)(m:Nat)(c:m<=d.size):(putCells Do 0 d cur).toList.take m=(d.toList.take m).map Do:=by
 apply List.ext_getElem?;intro i;rw[List.getElem?_take,List.getElem?_map,List.getElem?_take];split
 .rename_i hi;have a:i<cur.size:=by omega
  have b:i<d.size:=by omega
  rw [Array.getElem?_toList,Array.getElem?_toList];simp[putCells,Array.getElem?_mapIdx,Array.getElem?_eq_getElem a,Array.getElem?_eq_getElem b]
  grind
 .rfl
variable{v:Value}{n:Nat}
theorem We{xs:List Value}{z:Option (Nat×Nat)}(h:I6 w 1 v n xs z):
  (v=.slice none 0 0/\n=0/\z=none/\xs=[])\/∃g cap cur e,v=.slice (some ⟨g,0,none⟩) n cap/\w.heap[g]?=some (.cells cur e (0,0))/\n<=cap/\cap<=maxLen/\cur.size=cap/\cur.toList.take n=xs/\z=some (g,0):=by
 obtain ⟨p,⟨a,b⟩,rfl⟩:=h;rcases b with⟨rfl,rfl,rfl⟩|⟨g,cap,cur,e,c,i,j,k,m,o,rfl⟩
 .exact .inl ⟨rfl,rfl,rfl,List.eq_nil_of_length_eq_zero (by simpa using a)⟩
 .exact .inr ⟨g,cap,cur,e,c,i,j,k,by simpa using m,by simpa using o,rfl⟩
theorem Xh{g n:Nat}{zs:Fp}(h:w.heap[g]?=some (.cells cur e (0,0)))(b:cur.toList.take zs.length=zs.map Do):Holds Do w g 0 zs.toArray:=by
 intro j a;simp at a;have c:cur[j]?=some (Do (zs[j]'a)):=by
  have:=congrArg (fun l=>l[j]?) b
  grind
 refine ⟨?_,?_⟩
 .simp[World.cell?,h,c];simp[getElem!_pos,a]
 .simp[World.frozen?,h]
variable{d:Array Int}
theorem aR{g cap m:Nat}(i:w.heap[g]?=some (.cells cur e (0,0)))(j:cur.size=cap)(o:cap<=maxLen)(hd:d.size<=cap)(p:m<=d.size)(q:Nat)(os:Array Obj):
  I6 (grow (putRow Do (Sort.ahead w q) g 0 d) os) 1 (.slice (some ⟨g,0,none⟩) m cap) m ((d.toList.take m).map Do) (some (g,0))/\PT (some (g,0)) w (grow (putRow Do (Sort.ahead w q) g 0 d) os):=by
 have c:g<w.heap.size:=(Array.getElem?_eq_some_iff.1 i).1;have a:(putRow Do (Sort.ahead w q) g 0 d).heap.size=w.heap.size:=Un d;have s:(grow (putRow Do (Sort.ahead w q) g 0 d) os).heap[g]?=some (.cells (putCells Do 0 d cur) e (0,0)):=by
  simp [grow];rw[Array.getElem?_append_left (by rw[a];exact c)];exact fa d i
 refine ⟨⟨some (g,m*1),⟨by simp[bq];omega,.inr ⟨g,cap,_,e,rfl,s,by omega,o,by rw[YG,j];simp,?_,rfl⟩⟩,rfl⟩,rfl,rfl,rfl,?_,fun k r b=>?_⟩
 .rw[Nat.mul_one];exact YH d cur (by omega) m p
 .simp only[grow,Array.size_append];rw[a];omega
 .have h:k≠g:=fun e=>b 0 (by rw[e]);simp[grow];rw[Array.getElem?_append_left (by rw[a];exact r)];exact WQ d h
theorem gq{g cap m:Nat}(a:w.heap[g]?=some (.cells cur e (0,0)))(b:cur.size=cap)(c:cap<=maxLen)(hd:d.size<=cap)(h:m<=d.size)(q:Nat):
  I6 (putRow Do (Sort.ahead w q) g 0 d) 1 (.slice (some ⟨g,0,none⟩) m cap) m ((d.toList.take m).map Do) (some (g,0))/\PT (some (g,0)) w (putRow Do (Sort.ahead w q) g 0 d):=by
 have:=aR a b c hd h q #[]
 rwa [grow_empty]at this
theorem Ud(z:Option (Nat×Nat))(w:World):PT z w w:=⟨rfl,rfl,rfl,az _,fun _ _ _=>rfl⟩
theorem XA{zs a:Fp}(h:(TV.list 1 (zs.map (TV.int .i64))).WF)(b:a.length<=zs.length)(c:∀x∈a,x∈zs):(TV.list 1 (a.map (TV.int .i64))).WF:=by grind[TV.WF,c7,Bj]
variable{P:Program}{f:FuncId}
theorem fH(u:DO P f=true){zs a:Fp}(c:a.length=zs.length)(p:∀x∈a,x∈zs)
  (h:∀(w:World),zs=[]->Calls P f #[.slice none 0 0] w fun e w'=>e=.returned (.tuple #[])/\w'=w)
  (i:∀(g cap:Nat)(w:World),zs.length<=cap->cap<=maxLen->g<w.heap.size->Holds Do w g 0 zs.toArray->Calls P f #[.slice (some ⟨g,0,none⟩) zs.length cap] w fun e w'=>e=.returned (.tuple #[])/\∃n os,w'=grow (putRow Do (Sort.ahead w n) g 0 a.toArray) os):
  AR P f [.list 1 (zs.map (TV.int .i64))] (.turn a []):=by
 refine ⟨zs,[],rfl,u,rfl,fun _ w v vs z q _ r hv _ _ _=>?_⟩;cases vs with
 |cons=>cases hv
 |nil=>
 rcases We r with⟨rfl,b,rfl,o⟩|⟨g,cap,cur,e,rfl,b,o,t,A,B,rfl⟩
 .have s:zs=[]:=List.eq_nil_of_length_eq_zero b;have j:a=[]:=List.eq_nil_of_length_eq_zero (by rw[c,b]);refine(h w s).mono ?_;rintro _ _ ⟨rfl,rfl⟩;subst s j;exact⟨⟨c,XA q (by omega) p,trivial⟩,⟨_,rfl,#[],rfl,rfl⟩,r,Ud _ _⟩
 .have k:g<w.heap.size:=(Array.getElem?_eq_some_iff.1 b).1;refine(i g cap w o t k (Xh (n:=zs.length) b B)).mono ?_;rintro _ _ ⟨rfl,n,os,rfl⟩;have:=aR (d:=a.toArray) (m:=zs.length) b A t (by simp[c];exact o) (by simp[c]) n os;have y:List.take zs.length a=a:=List.take_of_length_le (by omega);simp[y]at this;exact⟨⟨c,XA q (by omega) p,trivial⟩,⟨_,rfl,#[],rfl,rfl⟩,this.1,this.2⟩
theorem oS(s:DO P f=true){zs a:Fp}{rest:Fp}(B:a.length+rest.length=zs.length)(t:∀x∈a,x∈zs)
  (b:∀(w:World),zs=[]->Calls P f #[.slice none 0 0] w fun e w'=>e=.returned (.slice none 0 0)/\w'=w)
  (c:∀(g cap:Nat)(w:World),zs.length<=cap->cap<=maxLen->g<w.heap.size->Holds Do w g 0 zs.toArray->Calls P f #[.slice (some ⟨g,0,none⟩) zs.length cap] w fun e w'=>e=.returned (.slice (some ⟨g,0,none⟩) a.length cap)/\∃n,w'=putRow Do (Sort.ahead w n) g 0 (a++rest).toArray):
  AR P f [.list 1 (zs.map (TV.int .i64))] (.cut a):=by
 refine ⟨zs,rfl,s,fun h=>XA h (by omega) t,fun w v z o=>?_⟩;rcases We o with⟨rfl,i,rfl,q⟩|⟨g,cap,cur,e,rfl,i,q,r,y,A,rfl⟩
 .have p:zs=[]:=List.eq_nil_of_length_eq_zero i;have j:a=[]:=List.eq_nil_of_length_eq_zero (by omega);refine(b w p).mono ?_;rintro _ _ ⟨rfl,rfl⟩;subst p j;exact⟨_,rfl,o,Ud _ _⟩
 .have k:g<w.heap.size:=(Array.getElem?_eq_some_iff.1 i).1;refine(c g cap w q r k (Xh (n:=zs.length) i A)).mono ?_;rintro _ _ ⟨rfl,n,rfl⟩;have:=gq (d:=(a++rest).toArray) (m:=a.length) i y r (by simp;omega) (by simp) n;have u:List.take a.length (a++rest)=a:=by simp
  simp [u]at this;exact⟨_,rfl,this.1,this.2⟩
variable{F:Nat->Nat->Prop}
theorem WW{b:Nat}:∀(zs:Fp)(o:Nat),Hs w F 1 (zs.map (TV.int .i64)) b o->∀j,j<zs.length->w.cell? ⟨b,o+j,none⟩=some (.int .i64 (zs.getD j 0))
 |[],_,_,j,a=>by simp at a|z::zs,o,h,0,_=>by
  grind [Hs,Hr]
 |z::zs,o,h,j+1,a=>by
  simp [Hs]at h;have:=WW zs (o+1) h.2.2 j (by simpa using a)
  grind
theorem VM{zs:Fp}(h:Ah w F (.list 1 (zs.map (TV.int .i64))) v):
  (zs=[]/\∃a cap,v=.slice a 0 cap)\/∃b c cap,v=.slice (some ⟨b,c,none⟩) zs.length cap/\zs.length<=cap/\∀j,j<zs.length->w.cell? ⟨b,c+j,none⟩=some (.int .i64 (zs.getD j 0)):=by
 simp [Ah]at h;obtain⟨a,cap,rfl,o,p,q⟩:=h;cases a with
 |none=>
  have i:zs=[]:=by simpa using p rfl
  subst i;exact .inl ⟨rfl,none,cap,rfl⟩
 |some m=>
  obtain ⟨k,r⟩:=q m rfl;obtain⟨b,c,s⟩:=m;simp only at k;by_cases i:zs=[]
  .subst i;exact .inl ⟨rfl,_,cap,rfl⟩
  have k:s=none:=k.resolve_left (fun e=>i (by simpa using e));subst k;exact .inr ⟨b,c,cap,rfl,o,WW zs c r⟩
theorem Rs{t u:TV}{vs:Array Value}(h:AQ w F [t,u] vs.toList):∃v a,vs=#[v,a]/\Ah w F t v/\Ah w F u a:=by
 simp [AQ]at h
 grind
variable{x:Int}
theorem gD(s:DO P f=true){zs:Fp}(z:zs.length<=Aj)(A:zs.Pairwise (·<=·))
  (i:∀(a:Option Addr)(c:Nat)(w:World),zs=[]->Calls P f #[.slice a 0 c,.int .i64 x] w fun e w'=>e=.returned (.tuple #[.int .i64 0,.bool false])/\w'=w)
  (k:∀(b h c:Nat)(w:World),(∀j,j<zs.length->w.cell? ⟨b,h+j,none⟩=some (.int .i64 (zs.getD j 0)))->Calls P f #[.slice (some ⟨b,h,none⟩) zs.length c,.int .i64 x] w fun e w'=>e=.returned (.tuple #[.int .i64 ((zs.take zs.length).countP (·<x):Nat),.bool ((zs.take zs.length).contains x)])/\∃q,w'=w.drewN q):
  AR P f [.list 1 (zs.map (TV.int .i64)),.int .i64 x] (.tp [.int .i64 (zs.countP (·<x):Nat),.bool (zs.contains x)]):=by
 refine AR.of0 (fun B=>⟨s,fun F0 w vs m _=>?_⟩) rfl;obtain⟨v,C,rfl,t,r⟩:=Rs m;simp[Ah]at r;subst r;have o:(Am.tp [.int .i64 (zs.countP (·<x):Nat),.bool (zs.contains x)]).WF:=by
  have:=List.countP_le_length (p:=fun y=>decide (y<x)) (l:=zs);simp[Am.WF,TV.tn,TV.WF,IntKind.min,IntKind.max,IntKind.signed,IntKind.bits]
  grind [Aj]
 refine ⟨o,?_⟩;rcases VM t with⟨rfl,a0,cap,rfl⟩|⟨b,h,cap,rfl,D,u⟩
 .refine(i a0 cap w rfl).mono ?_;rintro _ _ ⟨rfl,rfl⟩;refine⟨_,rfl,Below.refl _ _,?_⟩;simp only[Ht];exact⟨_,rfl,by simp[AQ,Ah]⟩
 .refine(k b h cap w u).mono ?_;rintro _ _ ⟨rfl,q,rfl⟩;refine⟨_,rfl,Go.below_drewN (Below.refl _ _) q,?_⟩;simp only[Ht];exact⟨_,rfl,by simp[AQ,Ah]⟩
theorem oc(j:DO P f=true){s:ByteArray}{c n:Int}(m:-1<=n/\n<=s.size)(a:∀w:World,Calls P f #[.string s,.int .u8 c] w fun e w'=>e=.returned (.int .i64 n)/\w'=w):AR P f [.str s,.int .u8 c] (.sh (.int .i64 n)):=by
 refine AR.of0 (fun k=>⟨j,fun F0 w vs b _=>?_⟩) rfl;obtain⟨v,p,rfl,h,i⟩:=Rs b;simp[Ah]at h i;subst h i;have o:s.size<=Im:=k.1;refine⟨?_,?_⟩
 .simp[Am.WF,TV.WF,IntKind.min,IntKind.max,IntKind.signed,IntKind.bits]
  grind [Im]
 .refine(a w).mono ?_;rintro _ _ ⟨rfl,rfl⟩;exact⟨_,rfl,Below.refl _ _,by simp[Ht,Ah]⟩
variable{l:Fp}
theorem aW(h:x∈Go.Lib.compact l):x∈l:=by
 unfold Go.Lib.compact Go.Lib.compactUpTo at h
 grind
theorem bX:∀(l:List UInt8)(c:UInt8),Go.Lib.indexByte l c<=l.length
 |[],c=>by simp[Go.Lib.indexByte]|b::l,c=>by
  have:=bX l c;simp[Go.Lib.indexByte,cE]
  grind
theorem ob(s:ByteArray)(c:UInt8):Go.Lib.indexByte s.data.toList c<=s.size:=by
 have:=bX s.data.toList c;simpa using this
theorem mA(p:DO P f=true)(q:n<=Aj){z:Array Value}(s:z.size=1)
  (t:∀w:World,n=0->Calls P f #[.slice none 0 0,.int .i64 n] w fun r w'=>r=.returned (.slice none 0 0)/\w'=w)
  (u:∀w:World,0<n->Calls P f #[.slice none 0 0,.int .i64 n] w fun r w'=>r=.returned (.slice (some ⟨w.heap.size,0,none⟩) 0 (grownCap w (0+n) 0 e))/\w'=w.drew.alloc (.cells (([]:List Value).toArray++Builtin.zeroCells z (0+n-0)++Builtin.zeroCells z (grownCap w (0+n) 0 e-(0+n))) e)):
  AR P f [.nil,.int .i64 n] (.own (.list 1 [])):=by
 refine AR.of0 (fun B=>⟨p,fun F0 w vs a _=>?_⟩) rfl;obtain⟨v,C,rfl,m,o⟩:=Rs a;simp[Ah]at m o;subst m o;refine⟨by simp[Am.WF,TV.WF,TV.tn],?_⟩;rcases Nat.eq_zero_or_pos n with i|c
 .refine(t w i).mono ?_;rintro _ _ ⟨rfl,rfl⟩;exact⟨_,rfl,Below.refl _ _,none,⟨[],⟨by simp,.inl ⟨rfl,rfl,rfl⟩⟩,rfl,by simp,by simp⟩,by simp⟩
 .refine(u w c).mono ?_;rintro _ _ ⟨rfl,rfl⟩;have A:=grownCap_ge w (0+n) 0 e;have h:grownCap w (0+n) 0 e<=maxLen:=grownCap_le_maxLen w (0+n) 0 e (by unfold Aj at q;unfold maxLen;omega);refine⟨_,rfl,⟨rfl,rfl,rfl,by simp,fun k y=>Below.heap_alloc w.drew _ k y⟩,some (w.heap.size,0*1),⟨[],⟨by simp,.inr ⟨w.heap.size,_,_,e,rfl,heap_alloc_new w.drew _,Nat.zero_le _,h,?_,by simp,rfl⟩⟩,rfl,by simp,by simp⟩,?_⟩
  .simp only[Array.size_append,List.size_toArray,List.length_nil,size_zeroCells,s];omega
  .intro b lo j;simp at j;rw[<-j.1];exact⟨az _,by simp⟩
end Go.Sf
namespace Go.Sf
def ins(x:Int):Fp->Fp
 |[]=>[x]|y::l=>if x<=y then x::y::l else y::ins x l
def P5:Fp->Fp
 |[]=>[]|x::l=>ins x (P5 l)
theorem VA(x:Int):∀l:Fp,(ins x l).Perm (x::l)
 |[]=>List.Perm.refl _|y::l=>by
  unfold ins;split
  .exact List.Perm.refl _
  .exact((VA x l).cons y).trans (List.Perm.swap x y l)
theorem O3:∀l:Fp,(P5 l).Perm l
 |[]=>List.Perm.refl _|x::l=>(VA x (P5 l)).trans ((O3 l).cons x)
theorem V2(x:Int):∀l:Fp,l.Pairwise (·<=·)->(ins x l).Pairwise (·<=·)
 |[],_=>List.pairwise_singleton _ _|y::l,h=>by
  obtain ⟨i,b⟩:=List.pairwise_cons.1 h;unfold ins;split
  .grind[List.pairwise_cons,Int.le_trans]
  .rename_i a;refine List.pairwise_cons.2 ⟨fun z c=>?_,V2 x l b⟩
   grind [VA]
theorem Pe:∀l:Fp,(P5 l).Pairwise (·<=·)
 |[]=>List.Pairwise.nil|x::l=>V2 x _ (Pe l)
theorem Si(l:Fp):(l.mergeSort fun x y=>decide (x<=y)).Pairwise (·<=·):=by grind[List.pairwise_mergeSort]
theorem iW(l:Fp):(l.mergeSort fun x y=>decide (x<=y))=P5 l:=by grind[List.Perm.eq_of_pairwise,Int.le_antisymm,Si,Pe,List.mergeSort_perm,O3]
def yM:Fp->Bool
 |[]=>false|x::l=>l.contains x||yM l
theorem U2:∀l:Fp,yM l=false↔l.Nodup
 |[]=>by simp[yM]|x::l=>by
  rw [yM,Bool.or_eq_false_iff,U2 l,List.nodup_cons];simp
variable{l:Fp}
theorem Rw(a:l.Pairwise (·<=·)):(Go.Lib.compact l).length=l.length↔l.Nodup:=by
 have e:(Go.Lib.compact l).length=l.length↔∀j,j<l.length->Go.Lib.keeps l.toArray j=true:=by
  unfold Go.Lib.compact Go.Lib.compactUpTo
  grind [c7,List.length_filter_eq_length_iff,List.range,List.length_range]
 have g:∀j(b:j<l.length),l.toArray[j]! =l[j]:=by
  grind
 have q:=List.pairwise_iff_getElem.1 a;rw[e];constructor
 .intro h;refine List.pairwise_iff_getElem.2 (fun i j o p c k=>?_);have m:=h (i+1) (by omega);simp[Go.Lib.keeps,wq,Nat.add_sub_cancel]at m
  grind
 .intro h j b;simp[Go.Lib.keeps,wq]
  grind [List.pairwise_iff_getElem]
theorem kU(l:Fp):decide ((Go.Lib.compact (l.mergeSort fun x y=>decide (x<=y))).length<l.length)=yM l:=by
 have a:=Rw (Si l);have b:=(List.mergeSort_perm l (fun x y=>decide (x<=y))).nodup_iff;have c:=U2 l;have h:=Go.Lib.compact_length_le (l.mergeSort fun x y=>decide (x<=y))
 grind [List.length_mergeSort,yM]
end Go.Sf
