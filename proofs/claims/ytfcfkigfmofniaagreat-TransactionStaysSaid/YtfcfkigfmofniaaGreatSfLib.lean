/- In-place library functions on a list of numbers: from the contracts over memory to the contracts of the pure language. -/
import Derived.Test.YtfcfkigfmofniaaGreatSfStep
import Derived.Test.YtfcfkigfmofniaaGreatSfK
import Derived.Sort.Row
import Derived.Sort.Grow
import Derived.WalkSmall
import Derived.Lib.RowBridge
import Derived.Lib.Bytealg
set_option linter.all false
namespace Go.Sf
open Go.RowKit (Below)
open Go.Sort
abbrev Dl:Int->Value:=Value.int .i64
variable{w:World}{g:Nat}{cur:Array Value}{e:TypeId}
theorem ib{fr:Nat×Nat}(d:Array Int)(h:w.heap[g]?=some (.cells cur e fr)):(putRow Dl w g 0 d).heap[g]?=some (.cells (putCells Dl 0 d cur) e fr):=by
 unfold putRow mapBlock;simp[Array.getElem?_modify,h];rfl
theorem Wv{g k:Nat}(d:Array Int)(h:k≠g):(putRow Dl w g 0 d).heap[k]?=w.heap[k]?:=by
 unfold putRow mapBlock
 grind
theorem VG(d:Array Int):(putRow Dl w g 0 d).heap.size=w.heap.size:=by
 unfold putRow mapBlock;simp
theorem Y1(d:Array Int)(cur:Array Value):(putCells Dl 0 d cur).size=cur.size:=by simp[putCells]
theorem Y2(d:Array Int)(cur:Array Value)(h:d.size<=cur.size)(m:Nat)(c:m<=d.size):(putCells Dl 0 d cur).toList.take m=(d.toList.take m).map Dl:=by
 apply List.ext_getElem?;intro i;rw[List.getElem?_take,List.getElem?_map,List.getElem?_take];split
 .rename_i hi;have a:i<cur.size:=by omega
  have b:i<d.size:=by omega
  rw [Array.getElem?_toList,Array.getElem?_toList];simp[putCells,Array.getElem?_mapIdx,Array.getElem?_eq_getElem a,Array.getElem?_eq_getElem b]
  grind
 .rfl
variable{v:Value}{n:Nat}
theorem XG{xs:List Value}{z:Option (Nat×Nat)}(h:JY w 1 v n xs z):
  (v=.slice none 0 0/\n=0/\z=none/\xs=[])\/∃g cap cur e,v=.slice (some ⟨g,0,none⟩) n cap/\w.heap[g]?=some (.cells cur e (0,0))/\n<=cap/\cap<=maxLen/\cur.size=cap/\cur.toList.take n=xs/\z=some (g,0):=by
 obtain ⟨p,⟨a,b⟩,rfl⟩:=h;rcases b with⟨rfl,rfl,rfl⟩|⟨g,cap,cur,e,c,i,j,k,m,o,rfl⟩
 .exact .inl ⟨rfl,rfl,rfl,List.eq_nil_of_length_eq_zero (by simpa using a)⟩
 .exact .inr ⟨g,cap,cur,e,c,i,j,k,by simpa using m,by simpa using o,rfl⟩
theorem YK{g n:Nat}{zs:Fp}(h:w.heap[g]?=some (.cells cur e (0,0)))(b:cur.toList.take zs.length=zs.map Dl):Holds Dl w g 0 zs.toArray:=by
 intro j a;simp at a;have c:cur[j]?=some (Dl (zs[j]'a)):=by
  have:=congrArg (fun l=>l[j]?) b
  grind
 refine ⟨?_,?_⟩
 .simp[World.cell?,h,c];simp[getElem!_pos,a]
 .simp[World.frozen?,h]
variable{d:Array Int}
theorem bd{g cap m:Nat}(i:w.heap[g]?=some (.cells cur e (0,0)))(j:cur.size=cap)(o:cap<=maxLen)(hd:d.size<=cap)(p:m<=d.size)(q:Nat)(os:Array Obj):
  JY (grow (putRow Dl (Sort.ahead w q) g 0 d) os) 1 (.slice (some ⟨g,0,none⟩) m cap) m ((d.toList.take m).map Dl) (some (g,0))/\QR (some (g,0)) w (grow (putRow Dl (Sort.ahead w q) g 0 d) os):=by
 have c:g<w.heap.size:=(Array.getElem?_eq_some_iff.1 i).1;have a:(putRow Dl (Sort.ahead w q) g 0 d).heap.size=w.heap.size:=VG d;have s:(grow (putRow Dl (Sort.ahead w q) g 0 d) os).heap[g]?=some (.cells (putCells Dl 0 d cur) e (0,0)):=by
  simp [grow];rw[Array.getElem?_append_left (by rw[a];exact c)];exact ib d i
 refine ⟨⟨some (g,m*1),⟨by simp[cE];omega,.inr ⟨g,cap,_,e,rfl,s,by omega,o,by rw[Y1,j];simp,?_,rfl⟩⟩,rfl⟩,rfl,rfl,rfl,?_,fun k r b=>?_⟩
 .rw[Nat.mul_one];exact Y2 d cur (by omega) m p
 .simp only[grow,Array.size_append];rw[a];omega
 .have h:k≠g:=fun e=>b 0 (by rw[e]);simp[grow];rw[Array.getElem?_append_left (by rw[a];exact r)];exact Wv d h
theorem j6{g cap m:Nat}(a:w.heap[g]?=some (.cells cur e (0,0)))(b:cur.size=cap)(c:cap<=maxLen)(hd:d.size<=cap)(h:m<=d.size)(q:Nat):
  JY (putRow Dl (Sort.ahead w q) g 0 d) 1 (.slice (some ⟨g,0,none⟩) m cap) m ((d.toList.take m).map Dl) (some (g,0))/\QR (some (g,0)) w (putRow Dl (Sort.ahead w q) g 0 d):=by
 have:=bd a b c hd h q #[]
 rwa [grow_empty]at this
theorem U9(z:Option (Nat×Nat))(w:World):QR z w w:=⟨rfl,rfl,rfl,b6 _,fun _ _ _=>rfl⟩
theorem Xo{zs a:Fp}(h:(TV.list 1 (zs.map (TV.int .i64))).WF)(b:a.length<=zs.length)(c:∀x∈a,x∈zs):(TV.list 1 (a.map (TV.int .i64))).WF:=by grind[TV.WF,c8,Bc]
variable{P:Program}{f:FuncId}
theorem iB(u:Di P f=true){zs a:Fp}(c:a.length=zs.length)(p:∀x∈a,x∈zs)
  (h:∀(w:World),zs=[]->Calls P f #[.slice none 0 0] w fun e w'=>e=.returned (.tuple #[])/\w'=w)
  (i:∀(g cap:Nat)(w:World),zs.length<=cap->cap<=maxLen->g<w.heap.size->Holds Dl w g 0 zs.toArray->Calls P f #[.slice (some ⟨g,0,none⟩) zs.length cap] w fun e w'=>e=.returned (.tuple #[])/\∃n os,w'=grow (putRow Dl (Sort.ahead w n) g 0 a.toArray) os):
  AX P f [.list 1 (zs.map (TV.int .i64))] (.turn a []):=by
 refine ⟨zs,[],rfl,u,rfl,fun _ w v vs z q _ r hv _ _ _=>?_⟩;cases vs with
 |cons=>cases hv
 |nil=>
 rcases XG r with⟨rfl,b,rfl,o⟩|⟨g,cap,cur,e,rfl,b,o,t,A,B,rfl⟩
 .have s:zs=[]:=List.eq_nil_of_length_eq_zero b;have j:a=[]:=List.eq_nil_of_length_eq_zero (by rw[c,b]);refine(h w s).mono ?_;rintro _ _ ⟨rfl,rfl⟩;subst s j;exact⟨⟨c,Xo q (by omega) p,trivial⟩,⟨_,rfl,#[],rfl,rfl⟩,r,U9 _ _⟩
 .have k:g<w.heap.size:=(Array.getElem?_eq_some_iff.1 b).1;refine(i g cap w o t k (YK (n:=zs.length) b B)).mono ?_;rintro _ _ ⟨rfl,n,os,rfl⟩;have:=bd (d:=a.toArray) (m:=zs.length) b A t (by simp[c];exact o) (by simp[c]) n os;have y:List.take zs.length a=a:=List.take_of_length_le (by omega);simp[y]at this;exact⟨⟨c,Xo q (by omega) p,trivial⟩,⟨_,rfl,#[],rfl,rfl⟩,this.1,this.2⟩
theorem qw(s:Di P f=true){zs a:Fp}{rest:Fp}(B:a.length+rest.length=zs.length)(t:∀x∈a,x∈zs)
  (b:∀(w:World),zs=[]->Calls P f #[.slice none 0 0] w fun e w'=>e=.returned (.slice none 0 0)/\w'=w)
  (c:∀(g cap:Nat)(w:World),zs.length<=cap->cap<=maxLen->g<w.heap.size->Holds Dl w g 0 zs.toArray->Calls P f #[.slice (some ⟨g,0,none⟩) zs.length cap] w fun e w'=>e=.returned (.slice (some ⟨g,0,none⟩) a.length cap)/\∃n,w'=putRow Dl (Sort.ahead w n) g 0 (a++rest).toArray):
  AX P f [.list 1 (zs.map (TV.int .i64))] (.cut a):=by
 refine ⟨zs,rfl,s,fun h=>Xo h (by omega) t,fun w v z o=>?_⟩;rcases XG o with⟨rfl,i,rfl,q⟩|⟨g,cap,cur,e,rfl,i,q,r,y,A,rfl⟩
 .have p:zs=[]:=List.eq_nil_of_length_eq_zero i;have j:a=[]:=List.eq_nil_of_length_eq_zero (by omega);refine(b w p).mono ?_;rintro _ _ ⟨rfl,rfl⟩;subst p j;exact⟨_,rfl,o,U9 _ _⟩
 .have k:g<w.heap.size:=(Array.getElem?_eq_some_iff.1 i).1;refine(c g cap w q r k (YK (n:=zs.length) i A)).mono ?_;rintro _ _ ⟨rfl,n,rfl⟩;have:=j6 (d:=(a++rest).toArray) (m:=a.length) i y r (by simp;omega) (by simp) n;have u:List.take a.length (a++rest)=a:=by simp
  simp [u]at this;exact⟨_,rfl,this.1,this.2⟩
variable{F:Nat->Nat->Prop}
theorem W4{b:Nat}:∀(zs:Fp)(o:Nat),Hw w F 1 (zs.map (TV.int .i64)) b o->∀j,j<zs.length->w.cell? ⟨b,o+j,none⟩=some (.int .i64 (zs.getD j 0))
 |[],_,_,j,a=>by simp at a|z::zs,o,h,0,_=>by
  grind [Hw,Hv]
 |z::zs,o,h,j+1,a=>by
  simp [Hw]at h;have:=W4 zs (o+1) h.2.2 j (by simpa using a)
  grind
theorem Vj{zs:Fp}(h:Af w F (.list 1 (zs.map (TV.int .i64))) v):
  (zs=[]/\∃a cap,v=.slice a 0 cap)\/∃b c cap,v=.slice (some ⟨b,c,none⟩) zs.length cap/\zs.length<=cap/\∀j,j<zs.length->w.cell? ⟨b,c+j,none⟩=some (.int .i64 (zs.getD j 0)):=by
 simp [Af]at h;obtain⟨a,cap,rfl,o,p,q⟩:=h;cases a with
 |none=>
  have i:zs=[]:=by simpa using p rfl
  subst i;exact .inl ⟨rfl,none,cap,rfl⟩
 |some m=>
  obtain ⟨k,r⟩:=q m rfl;obtain⟨b,c,s⟩:=m;simp only at k;by_cases i:zs=[]
  .subst i;exact .inl ⟨rfl,_,cap,rfl⟩
  have k:s=none:=k.resolve_left (fun e=>i (by simpa using e));subst k;exact .inr ⟨b,c,cap,rfl,o,W4 zs c r⟩
theorem Vt{t u:TV}{vs:Array Value}(h:AP w F [t,u] vs.toList):∃v a,vs=#[v,a]/\Af w F t v/\Af w F u a:=by
 simp [AP]at h
 grind
variable{x:Int}
theorem jQ(s:Di P f=true){zs:Fp}(z:zs.length<=AU)(A:zs.Pairwise (·<=·))
  (i:∀(a:Option Addr)(c:Nat)(w:World),zs=[]->Calls P f #[.slice a 0 c,.int .i64 x] w fun e w'=>e=.returned (.tuple #[.int .i64 0,.bool false])/\w'=w)
  (k:∀(b h c:Nat)(w:World),(∀j,j<zs.length->w.cell? ⟨b,h+j,none⟩=some (.int .i64 (zs.getD j 0)))->Calls P f #[.slice (some ⟨b,h,none⟩) zs.length c,.int .i64 x] w fun e w'=>e=.returned (.tuple #[.int .i64 ((zs.take zs.length).countP (·<x):Nat),.bool ((zs.take zs.length).contains x)])/\∃q,w'=w.drewN q):
  AX P f [.list 1 (zs.map (TV.int .i64)),.int .i64 x] (.tp [.int .i64 (zs.countP (·<x):Nat),.bool (zs.contains x)]):=by
 refine AX.of0 (fun B=>⟨s,fun F0 w vs m _=>?_⟩) rfl;obtain⟨v,C,rfl,t,r⟩:=Vt m;simp[Af]at r;subst r;have o:(Al.tp [.int .i64 (zs.countP (·<x):Nat),.bool (zs.contains x)]).WF:=by
  have:=List.countP_le_length (p:=fun y=>decide (y<x)) (l:=zs);simp[Al.WF,TV.tg,TV.WF,IntKind.min,IntKind.max,IntKind.signed,IntKind.bits]
  grind [AU]
 refine ⟨o,?_⟩;rcases Vj t with⟨rfl,a0,cap,rfl⟩|⟨b,h,cap,rfl,D,u⟩
 .refine(i a0 cap w rfl).mono ?_;rintro _ _ ⟨rfl,rfl⟩;refine⟨_,rfl,Below.refl _ _,?_⟩;simp only[Hx];exact⟨_,rfl,by simp[AP,Af]⟩
 .refine(k b h cap w u).mono ?_;rintro _ _ ⟨rfl,q,rfl⟩;refine⟨_,rfl,Go.below_drewN (Below.refl _ _) q,?_⟩;simp only[Hx];exact⟨_,rfl,by simp[AP,Af]⟩
theorem rJ(j:Di P f=true){s:ByteArray}{c n:Int}(m:-1<=n/\n<=s.size)(a:∀w:World,Calls P f #[.string s,.int .u8 c] w fun e w'=>e=.returned (.int .i64 n)/\w'=w):AX P f [.str s,.int .u8 c] (.sh (.int .i64 n)):=by
 refine AX.of0 (fun k=>⟨j,fun F0 w vs b _=>?_⟩) rfl;obtain⟨v,p,rfl,h,i⟩:=Vt b;simp[Af]at h i;subst h i;have o:s.size<=Ji:=k.1;refine⟨?_,?_⟩
 .simp[Al.WF,TV.WF,IntKind.min,IntKind.max,IntKind.signed,IntKind.bits]
  grind [Ji]
 .refine(a w).mono ?_;rintro _ _ ⟨rfl,rfl⟩;exact⟨_,rfl,Below.refl _ _,by simp[Hx,Af]⟩
variable{l:Fp}
theorem bi(h:x∈Go.Lib.compact l):x∈l:=by
 unfold Go.Lib.compact Go.Lib.compactUpTo at h
 grind
theorem cl:∀(l:List UInt8)(c:UInt8),Go.Lib.indexByte l c<=l.length
 |[],c=>by simp[Go.Lib.indexByte]|b::l,c=>by
  have:=cl l c;simp[Go.Lib.indexByte,c7]
  grind
theorem rH(s:ByteArray)(c:UInt8):Go.Lib.indexByte s.data.toList c<=s.size:=by
 have:=cl s.data.toList c;simpa using this
end Go.Sf
namespace Go.Sf
def ins(x:Int):Fp->Fp
 |[]=>[x]|y::l=>if x<=y then x::y::l else y::ins x l
def Q4:Fp->Fp
 |[]=>[]|x::l=>ins x (Q4 l)
theorem Vb(x:Int):∀l:Fp,(ins x l).Perm (x::l)
 |[]=>List.Perm.refl _|y::l=>by
  unfold ins;split
  .exact List.Perm.refl _
  .exact((Vb x l).cons y).trans (List.Perm.swap x y l)
theorem P7:∀l:Fp,(Q4 l).Perm l
 |[]=>List.Perm.refl _|x::l=>(Vb x (Q4 l)).trans ((P7 l).cons x)
theorem WV(x:Int):∀l:Fp,l.Pairwise (·<=·)->(ins x l).Pairwise (·<=·)
 |[],_=>List.pairwise_singleton _ _|y::l,h=>by
  obtain ⟨i,b⟩:=List.pairwise_cons.1 h;unfold ins;split
  .grind[List.pairwise_cons,Int.le_trans]
  .rename_i a;refine List.pairwise_cons.2 ⟨fun z c=>?_,WV x l b⟩
   grind [Vb]
theorem Qc:∀l:Fp,(Q4 l).Pairwise (·<=·)
 |[]=>List.Pairwise.nil|x::l=>WV x _ (Qc l)
theorem UD(l:Fp):(l.mergeSort fun x y=>decide (x<=y)).Pairwise (·<=·):=by grind[List.pairwise_mergeSort]
theorem ki(l:Fp):(l.mergeSort fun x y=>decide (x<=y))=Q4 l:=by grind[List.Perm.eq_of_pairwise,Int.le_antisymm,UD,Qc,List.mergeSort_perm,P7]
def Aav:Fp->Bool
 |[]=>false|x::l=>l.contains x||Aav l
theorem VX:∀l:Fp,Aav l=false↔l.Nodup
 |[]=>by simp[Aav]|x::l=>by
  rw [Aav,Bool.or_eq_false_iff,VX l,List.nodup_cons];simp
variable{l:Fp}
theorem TS(a:l.Pairwise (·<=·)):(Go.Lib.compact l).length=l.length↔l.Nodup:=by
 have e:(Go.Lib.compact l).length=l.length↔∀j,j<l.length->Go.Lib.keeps l.toArray j=true:=by
  unfold Go.Lib.compact Go.Lib.compactUpTo
  grind [c8,List.length_filter_eq_length_iff,List.range,List.length_range]
 have g:∀j(b:j<l.length),l.toArray[j]! =l[j]:=by
  grind
 have q:=List.pairwise_iff_getElem.1 a;rw[e];constructor
 .intro h;refine List.pairwise_iff_getElem.2 (fun i j o p c k=>?_);have m:=h (i+1) (by omega);simp[Go.Lib.keeps,yf,Nat.add_sub_cancel]at m
  grind
 .intro h j b;simp[Go.Lib.keeps,yf]
  grind [List.pairwise_iff_getElem]
theorem m9(l:Fp):decide ((Go.Lib.compact (l.mergeSort fun x y=>decide (x<=y))).length<l.length)=Aav l:=by
 have a:=TS (UD l);have b:=(List.mergeSort_perm l (fun x y=>decide (x<=y))).nodup_iff;have c:=VX l;have h:=Go.Lib.compact_length_le (l.mergeSort fun x y=>decide (x<=y))
 grind [List.length_mergeSort,Aav]
end Go.Sf
