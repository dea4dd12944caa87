/- In-place library functions on a list of numbers: from the contracts over memory to the contracts of the pure language. -/
import Derived.Test.YtfcfkigfmofniaaGreatSfStep
import Derived.Test.YtfcfkigfmofniaaGreatSfK
import Derived.Sort.Row
import Derived.Sort.Grow
import Derived.WalkSmall
import Derived.Lib.RowBridge
import Derived.Lib.Bytealg
set_option linter.all false
open Option renaming some->Y,none->W
open List renaming getElem?_take->u!,eq_nil_of_length_eq_zero->u?,pairwise_cons->v1,mergeSort_perm->v5,pairwise_iff_getElem->v6
open Array renaming getElem?_toList->v9,getElem?_eq_getElem->v_,getElem?_eq_some_iff->v!,getElem?_append_left->v?
namespace Go.Sf
open Go.RowKit (Below)
open Go.Sort
abbrev Do:Int->Value:=Value.int .i64
variable{w:World}{g:Nat}{cur:Array Value}{e:TypeId}
theorem i7{fr:Nat×Nat}(d:Array Int)(h:w.heap[g]?=Y (.cells cur e fr)):(putRow Do w g 0 d).heap[g]?=Y (.cells (putCells Do 0 d cur) e fr):=by
 unfold putRow mapBlock;simp[Array.getElem?_modify,h];rfl
theorem XA{g k:Nat}(d:Array Int)(h:k≠g):(putRow Do w g 0 d).heap[k]?=w.heap[k]?:=by
 unfold putRow mapBlock
 grind
theorem VQ(d:Array Int):(putRow Do w g 0 d).heap.size=w.heap.size:=by
 unfold putRow mapBlock;simp
theorem ZG(d:Array Int)(cur:Array Value):(putCells Do 0 d cur).size=cur.size:=by simp[putCells]
theorem ZH(d:Array Int)(cur:Array Value)(h:d.size<=cur.size)(m:Nat)(c:m<=d.size):(putCells Do 0 d cur).toList.take m=(d.toList.take m).map Do:=by
 apply List.ext_getElem?;intro i;rw[u!,List.getElem?_map,u!];split
 .rename_i hi;have a:i<cur.size:=U
  have b:i<d.size:=U
  rw [v9,v9];simp[putCells,Array.getElem?_mapIdx,v_ a,v_ b]
  grind
 .rfl
variable{v:Value}{n:Nat}
theorem XQ{xs:List Value}{z:Option (Nat×Nat)}(h:Jc w 1 v n xs z):
  (v=.slice W 0 0/\n=0/\z=W/\xs=[])\/∃g cap cur e,v=.slice (Y ⟨g,0,W⟩) n cap/\w.heap[g]?=Y (.cells cur e (0,0))/\n<=cap/\cap<=maxLen/\cur.size=cap/\cur.toList.take n=xs/\z=Y (g,0):=by
 obtain ⟨p,⟨a,b⟩,rfl⟩:=h;rcases b with⟨rfl,rfl,rfl⟩|⟨g,cap,cur,e,c,i,j,k,m,o,rfl⟩
 .exact .inl ⟨rfl,rfl,rfl,u? (by simpa using a)⟩
 .exact .inr ⟨g,cap,cur,e,c,i,j,k,by simpa using m,e!,rfl⟩
theorem YU{g n:Nat}{zs:Fp}(h:w.heap[g]?=Y (.cells cur e (0,0)))(b:cur.toList.take zs.length=zs.map Do):Holds Do w g 0 zs.toArray:=by
 intro j a;simp at a;have c:cur[j]?=Y (Do (zs[j]'a)):=by
  have:=congrArg (λl=>l[j]?) b
  grind
 refine ⟨?_,?_⟩
 .simp[World.cell?,h,c];simp[getElem!_pos,a]
 .simp[World.frozen?,h]
variable{d:Array Int}
theorem bz{g cap m:Nat}(i:w.heap[g]?=Y (.cells cur e (0,0)))(j:cur.size=cap)(o:cap<=maxLen)(hd:d.size<=cap)(p:m<=d.size)(q:Nat)(os:Array Obj):
  Jc (grow (putRow Do (Sort.ahead w q) g 0 d) os) 1 (.slice (Y ⟨g,0,W⟩) m cap) m ((d.toList.take m).map Do) (Y (g,0))/\QZ (Y (g,0)) w (grow (putRow Do (Sort.ahead w q) g 0 d) os):=by
 have c:g<w.heap.size:=(v!.1 i).1;have a:(putRow Do (Sort.ahead w q) g 0 d).heap.size=w.heap.size:=VQ d;have s:(grow (putRow Do (Sort.ahead w q) g 0 d) os).heap[g]?=Y (.cells (putCells Do 0 d cur) e (0,0)):=by
  simp [grow];rw[v? (by rw[a];exact c)];exact i7 d i
 refine ⟨⟨Y (g,m*1),⟨by simp[cE];omega,.inr ⟨g,cap,_,e,rfl,s,U,o,by rw[ZG,j];simp,?_,rfl⟩⟩,rfl⟩,rfl,rfl,rfl,?_,λk r b=>?_⟩
 .rw[Nat.mul_one];exact ZH d cur U m p
 .simp only[grow,Array.size_append];rw[a];omega
 .have h:k≠g:=λe=>b 0 (by rw[e]);simp[grow];rw[v? (by rw[a];exact r)];exact XA d h
theorem kL{g cap m:Nat}(a:w.heap[g]?=Y (.cells cur e (0,0)))(b:cur.size=cap)(c:cap<=maxLen)(hd:d.size<=cap)(h:m<=d.size)(q:Nat):
  Jc (putRow Do (Sort.ahead w q) g 0 d) 1 (.slice (Y ⟨g,0,W⟩) m cap) m ((d.toList.take m).map Do) (Y (g,0))/\QZ (Y (g,0)) w (putRow Do (Sort.ahead w q) g 0 d):=by
 have:=bz a b c hd h q #[]
 rwa [grow_empty]at this
theorem VJ(z:Option (Nat×Nat))(w:World):QZ z w w:=⟨rfl,rfl,rfl,b6 _,λ_ _ _=>rfl⟩
theorem Xy{zs a:Fp}(h:(TV.list 1 (zs.map (TV.int .i64))).WF)(b:a.length<=zs.length)(c:∀x∈a,x∈zs):(TV.list 1 (a.map (TV.int .i64))).WF:=by grind[TV.WF,c8,Bg]
variable{P:Program}{f:FuncId}
theorem iR(u:Dl P f=true){zs a:Fp}(c:a.length=zs.length)(p:∀x∈a,x∈zs)
  (h:∀(w:World),zs=[]->Calls P f #[.slice W 0 0] w λe w'=>e=.returned (.tuple #[])/\w'=w)
  (i:∀(g cap:Nat)(w:World),zs.length<=cap->cap<=maxLen->g<w.heap.size->Holds Do w g 0 zs.toArray->Calls P f #[.slice (Y ⟨g,0,W⟩) zs.length cap] w λe w'=>e=.returned (.tuple #[])/\∃n os,w'=grow (putRow Do (Sort.ahead w n) g 0 a.toArray) os):
  AX P f [.list 1 (zs.map (TV.int .i64))] (.turn a []):=by
 refine ⟨zs,[],rfl,u,rfl,λ_ w v vs z q _ r hv _ _ _=>?_⟩;cases vs with
 |cons=>cases hv
 |nil=>
 rcases XQ r with⟨rfl,b,rfl,o⟩|⟨g,cap,cur,e,rfl,b,o,t,A,B,rfl⟩
 .have s:zs=[]:=u? b;have j:a=[]:=u? (by rw[c,b]);refine(h w s).mono ?_;rintro _ _ ⟨rfl,rfl⟩;subst s j;exact⟨⟨c,Xy q U p,trivial⟩,⟨_,rfl,#[],rfl,rfl⟩,r,VJ _ _⟩
 .have k:g<w.heap.size:=(v!.1 b).1;refine(i g cap w o t k (YU (n:=zs.length) b B)).mono ?_;rintro _ _ ⟨rfl,n,os,rfl⟩;have:=bz (d:=a.toArray) (m:=zs.length) b A t (by simp[c];exact o) (by simp[c]) n os;have y:List.take zs.length a=a:=List.take_of_length_le U;simp[y]at this;exact⟨⟨c,Xy q U p,trivial⟩,⟨_,rfl,#[],rfl,rfl⟩,this.1,this.2⟩
theorem rJ(s:Dl P f=true){zs a:Fp}{rest:Fp}(B:a.length+rest.length=zs.length)(t:∀x∈a,x∈zs)
  (b:∀(w:World),zs=[]->Calls P f #[.slice W 0 0] w λe w'=>e=.returned (.slice W 0 0)/\w'=w)
  (c:∀(g cap:Nat)(w:World),zs.length<=cap->cap<=maxLen->g<w.heap.size->Holds Do w g 0 zs.toArray->Calls P f #[.slice (Y ⟨g,0,W⟩) zs.length cap] w λe w'=>e=.returned (.slice (Y ⟨g,0,W⟩) a.length cap)/\∃n,w'=putRow Do (Sort.ahead w n) g 0 (a++rest).toArray):
  AX P f [.list 1 (zs.map (TV.int .i64))] (.cut a):=by
 refine ⟨zs,rfl,s,λh=>Xy h U t,λw v z o=>?_⟩;rcases XQ o with⟨rfl,i,rfl,q⟩|⟨g,cap,cur,e,rfl,i,q,r,y,A,rfl⟩
 .have p:zs=[]:=u? i;have j:a=[]:=u? U;refine(b w p).mono ?_;rintro _ _ ⟨rfl,rfl⟩;subst p j;exact⟨_,rfl,o,VJ _ _⟩
 .have k:g<w.heap.size:=(v!.1 i).1;refine(c g cap w q r k (YU (n:=zs.length) i A)).mono ?_;rintro _ _ ⟨rfl,n,rfl⟩;have:=kL (d:=(a++rest).toArray) (m:=a.length) i y r an V n;have u:List.take a.length (a++rest)=a:=V
  simp [u]at this;exact⟨_,rfl,this.1,this.2⟩
variable{F:Nat->Nat->Prop}
theorem XF{b:Nat}:∀(zs:Fp)(o:Nat),H4 w F 1 (zs.map (TV.int .i64)) b o->∀j,j<zs.length->w.cell? ⟨b,o+j,W⟩=Y (.int .i64 (zs.getD j 0))
 |[],_,_,j,a=>by simp at a|z::zs,o,h,0,_=>by
  grind [H4,H0]
 |z::zs,o,h,j+1,a=>by
  simp [H4]at h;have:=XF zs (o+1) h.2.2 j (by simpa using a)
  grind
theorem Vt{zs:Fp}(h:Af w F (.list 1 (zs.map (TV.int .i64))) v):
  (zs=[]/\∃a cap,v=.slice a 0 cap)\/∃b c cap,v=.slice (Y ⟨b,c,W⟩) zs.length cap/\zs.length<=cap/\∀j,j<zs.length->w.cell? ⟨b,c+j,W⟩=Y (.int .i64 (zs.getD j 0)):=by
 simp [Af]at h;obtain⟨a,cap,rfl,o,p,q⟩:=h;cases a with
 |none=>
  have i:zs=[]:=by simpa using p rfl
  subst i;exact .inl ⟨rfl,W,cap,rfl⟩
 |some m=>
  obtain ⟨k,r⟩:=q m rfl;obtain⟨b,c,s⟩:=m;simp only at k;by_cases i:zs=[]
  .subst i;exact .inl ⟨rfl,_,cap,rfl⟩
  have k:s=W:=k.resolve_left (λe=>i h_);subst k;exact .inr ⟨b,c,cap,rfl,o,XF zs c r⟩
theorem V3{t u:TV}{vs:Array Value}(h:AP w F [t,u] vs.toList):∃v a,vs=#[v,a]/\Af w F t v/\Af w F u a:=by
 simp [AP]at h
 grind
variable{x:Int}
theorem jh(s:Dl P f=true){zs:Fp}(z:zs.length<=AU)(A:zs.Pairwise (·<=·))
  (i:∀(a:Option Addr)(c:Nat)(w:World),zs=[]->Calls P f #[.slice a 0 c,.int .i64 x] w λe w'=>e=.returned (.tuple #[.int .i64 0,.bool false])/\w'=w)
  (k:∀(b h c:Nat)(w:World),(∀j,j<zs.length->w.cell? ⟨b,h+j,W⟩=Y (.int .i64 (zs.getD j 0)))->Calls P f #[.slice (Y ⟨b,h,W⟩) zs.length c,.int .i64 x] w λe w'=>e=.returned (.tuple #[.int .i64 ((zs.take zs.length).countP (·<x):Nat),.bool ((zs.take zs.length).contains x)])/\∃q,w'=w.drewN q):
  AX P f [.list 1 (zs.map (TV.int .i64)),.int .i64 x] (.tp [.int .i64 (zs.countP (·<x):Nat),.bool (zs.contains x)]):=by
 refine AX.of0 (λB=>⟨s,λF0 w vs m _=>?_⟩) rfl;obtain⟨v,C,rfl,t,r⟩:=V3 m;simp[Af]at r;subst r;have o:(Al.tp [.int .i64 (zs.countP (·<x):Nat),.bool (zs.contains x)]).WF:=by
  have:=List.countP_le_length (p:=λy=>decide (y<x)) (l:=zs);simp[Al.WF,TV.tl,TV.WF,IntKind.min,IntKind.max,IntKind.signed,IntKind.bits]
  grind [AU]
 refine ⟨o,?_⟩;rcases Vt t with⟨rfl,a0,cap,rfl⟩|⟨b,h,cap,rfl,D,u⟩
 .refine(i a0 cap w rfl).mono ?_;rintro _ _ ⟨rfl,rfl⟩;refine⟨_,rfl,Below.refl _ _,?_⟩;simp only[H5];exact⟨_,rfl,by simp[AP,Af]⟩
 .refine(k b h cap w u).mono ?_;rintro _ _ ⟨rfl,q,rfl⟩;refine⟨_,rfl,Go.below_drewN (Below.refl _ _) q,?_⟩;simp only[H5];exact⟨_,rfl,by simp[AP,Af]⟩
theorem rZ(j:Dl P f=true){s:ByteArray}{c n:Int}(m:-1<=n/\n<=s.size)(a:∀w:World,Calls P f #[.string s,.int .u8 c] w λe w'=>e=.returned (.int .i64 n)/\w'=w):AX P f [.str s,.int .u8 c] (.sh (.int .i64 n)):=by
 refine AX.of0 (λk=>⟨j,λF0 w vs b _=>?_⟩) rfl;obtain⟨v,p,rfl,h,i⟩:=V3 b;simp[Af]at h i;subst h i;have o:s.size<=Jm:=k.1;refine⟨?_,?_⟩
 .simp[Al.WF,TV.WF,IntKind.min,IntKind.max,IntKind.signed,IntKind.bits]
  grind [Jm]
 .refine(a w).mono ?_;rintro _ _ ⟨rfl,rfl⟩;exact⟨_,rfl,Below.refl _ _,by simp[H5,Af]⟩
variable{l:Fp}
theorem cD(h:x∈Go.Lib.compact l):x∈l:=by
 unfold Go.Lib.compact Go.Lib.compactUpTo at h
 grind
theorem dF:∀(l:List UInt8)(c:UInt8),Go.Lib.indexByte l c<=l.length
 |[],c=>by simp[Go.Lib.indexByte]|b::l,c=>by
  have:=dF l c;simp[Go.Lib.indexByte,c7]
  grind
theorem rY(s:ByteArray)(c:UInt8):Go.Lib.indexByte s.data.toList c<=s.size:=by
 have:=dF s.data.toList c;simpa using this
end Go.Sf
namespace Go.Sf
def ins(x:Int):Fp->Fp
 |[]=>[x]|y::l=>if x<=y then x::y::l else y::ins x l
def RD:Fp->Fp
 |[]=>[]|x::l=>ins x (RD l)
theorem Vk(x:Int):∀l:Fp,(ins x l).Perm (x::l)
 |[]=>List.Perm.refl _|y::l=>by
  unfold ins;split
  .exact List.Perm.refl _
  .exact((Vk x l).cons y).trans (List.Perm.swap x y l)
theorem QD:∀l:Fp,(RD l).Perm l
 |[]=>List.Perm.refl _|x::l=>(Vk x (RD l)).trans ((QD l).cons x)
theorem Wg(x:Int):∀l:Fp,l.Pairwise (·<=·)->(ins x l).Pairwise (·<=·)
 |[],_=>List.pairwise_singleton _ _|y::l,h=>by
  obtain ⟨i,b⟩:=v1.1 h;unfold ins;split
  .grind[v1,Int.le_trans]
  .rename_i a;refine v1.2 ⟨λz c=>?_,Wg x l b⟩
   grind [Vk]
theorem Qm:∀l:Fp,(RD l).Pairwise (·<=·)
 |[]=>List.Pairwise.nil|x::l=>Wg x _ (Qm l)
theorem UI(l:Fp):(l.mergeSort λx y=>decide (x<=y)).Pairwise (·<=·):=by grind[List.pairwise_mergeSort]
theorem lD(l:Fp):(l.mergeSort λx y=>decide (x<=y))=RD l:=by grind[List.Perm.eq_of_pairwise,Int.le_antisymm,UI,Qm,v5,QD]
def AaK:Fp->Bool
 |[]=>false|x::l=>l.contains x||AaK l
theorem Vg:∀l:Fp,AaK l=false↔l.Nodup
 |[]=>by simp[AaK]|x::l=>by
  rw [AaK,Bool.or_eq_false_iff,Vg l,List.nodup_cons];simp
variable{l:Fp}
theorem TC(a:l.Pairwise (·<=·)):(Go.Lib.compact l).length=l.length↔l.Nodup:=by
 have e:(Go.Lib.compact l).length=l.length↔∀j,j<l.length->Go.Lib.keeps l.toArray j=true:=by
  unfold Go.Lib.compact Go.Lib.compactUpTo
  grind [c8,List.length_filter_eq_length_iff,List.range,List.length_range]
 have g:∀j(b:j<l.length),l.toArray[j]! =l[j]:=by
  grind
 have q:=v6.1 a;rw[e];constructor
 .intro h;refine v6.2 (λi j o p c k=>?_);have m:=h (i+1) U;simp[Go.Lib.keeps,yk,Nat.add_sub_cancel]at m
  grind
 .intro h j b;simp[Go.Lib.keeps,yk]
  grind [v6]
theorem nL(l:Fp):decide ((Go.Lib.compact (l.mergeSort λx y=>decide (x<=y))).length<l.length)=AaK l:=by
 have a:=TC (UI l);have b:=(v5 l (λx y=>decide (x<=y))).nodup_iff;have c:=Vg l;have h:=Go.Lib.compact_length_le (l.mergeSort λx y=>decide (x<=y))
 grind [List.length_mergeSort,AaK]
end Go.Sf
