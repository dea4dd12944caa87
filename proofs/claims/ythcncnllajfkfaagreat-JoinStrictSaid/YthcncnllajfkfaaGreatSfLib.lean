/- In-place library functions on a list of numbers: from the contracts over memory to the contracts of the pure language. -/
import Derived.Test.YthcncnllajfkfaaGreatSfStep
import Derived.Test.YthcncnllajfkfaaGreatSfK
import Derived.Sort.Row
import Derived.Sort.Grow
import Derived.WalkSmall
import Derived.Lib.RowBridge
import Derived.Lib.Bytealg
set_option linter.all false
open Option renaming some->Y,none->W
open List renaming getElem?_take->v1,eq_nil_of_length_eq_zero->v5,pairwise_cons->v6,mergeSort_perm->v_,pairwise_iff_getElem->v!
open Array renaming getElem?_toList->v?,getElem?_eq_getElem->w_,getElem?_eq_some_iff->w!,getElem?_append_left->w?,size_append->x_
namespace Go.Sf
open Go.RowKit (Below)
open Go.Sort
abbrev Eh:Int->Value:=Value.int .i64
variable{w:World}{g:Nat}{cur:Array Value}{e:TypeId}
theorem ol{fr:Nat×Nat}(d:Array Int)(h:w.heap[g]?=Y (.cells cur e fr)):(putRow Eh w g 0 d).heap[g]?=Y (.cells (putCells Eh 0 d cur) e fr):=by
 unfold putRow mapBlock;simp[Array.getElem?_modify,h];rfl
theorem Yu{g k:Nat}(d:Array Int)(h:k≠g):(putRow Eh w g 0 d).heap[k]?=w.heap[k]?:=by
 unfold putRow mapBlock
 grind
theorem Wj(d:Array Int):(putRow Eh w g 0 d).heap.size=w.heap.size:=by
 unfold putRow mapBlock;simp
theorem cU(d:Array Int)(cur:Array Value):(putCells Eh 0 d cur).size=cur.size:=by simp[putCells]
theorem cW(d:Array Int)(cur:Array Value)(h:d.size<=cur.size)(m:Nat)(c:m<=d.size):(putCells Eh 0 d cur).toList.take m=(d.toList.take m).map Eh:=by
 apply List.ext_getElem?;intro i;rw[v1,List.getElem?_map,v1];split
 .rename_i hi;have a:i<cur.size:=U
  have b:i<d.size:=U
  rw [v?,v?];simp[putCells,Array.getElem?_mapIdx,w_ a,w_ b]
  grind
 .rfl
variable{v:Value}{n:Nat}
theorem ZA{xs:List Value}{z:Option (Nat×Nat)}(h:LE w 1 v n xs z):
  (v=.slice W 0 0/\n=0/\z=W/\xs=[])\/∃g cap cur e,v=.slice (Y ⟨g,0,W⟩) n cap/\w.heap[g]?=Y (.cells cur e (0,0))/\n<=cap/\cap<=maxLen/\cur.size=cap/\cur.toList.take n=xs/\z=Y (g,0):=by
 obtain ⟨p,⟨a,b⟩,rfl⟩:=h;rcases b with⟨rfl,rfl,rfl⟩|⟨g,cap,cur,e,c,i,j,k,m,o,rfl⟩
 .exact .inl ⟨rfl,rfl,rfl,v5 (by simpa using a)⟩
 .exact .inr ⟨g,cap,cur,e,c,i,j,k,n?,h!,rfl⟩
theorem ay{g n:Nat}{zs:Fp}(h:w.heap[g]?=Y (.cells cur e (0,0)))(b:cur.toList.take zs.length=zs.map Eh):Holds Eh w g 0 zs.toArray:=by
 intro j a;simp at a;have c:cur[j]?=Y (Eh (zs[j]'a)):=by
  have:=congrArg (λl=>l[j]?) b
  grind
 refine ⟨?_,?_⟩
 .simp[World.cell?,h,c];simp[getElem!_pos,a]
 .simp[World.frozen?,h]
variable{d:Array Int}
theorem ig{g cap m:Nat}(hb:w.heap[g]?=Y (.cells cur e (0,0)))(i:cur.size=cap)(j:cap<=maxLen)(hd:d.size<=cap)(o:m<=d.size)(q:Nat)(os:Array Obj):
  LE (grow (putRow Eh (Sort.ahead w q) g 0 d) os) 1 (.slice (Y ⟨g,0,W⟩) m cap) m ((d.toList.take m).map Eh) (Y (g,0))/\R2 (Y (g,0)) w (grow (putRow Eh (Sort.ahead w q) g 0 d) os):=by
 have c:g<w.heap.size:=(w!.1 hb).1;have a:(putRow Eh (Sort.ahead w q) g 0 d).heap.size=w.heap.size:=Wj d;have r:(grow (putRow Eh (Sort.ahead w q) g 0 d) os).heap[g]?=Y (.cells (putCells Eh 0 d cur) e (0,0)):=by
  simp [grow];rw[w? (by rw[a];exact c)];exact ol d hb
 refine ⟨⟨Y (g,m*1),⟨by simp[bk];omega,.inr ⟨g,cap,_,e,rfl,r,U,j,by rw[cU,i];simp,?_,rfl⟩⟩,rfl⟩,rfl,rfl,rfl,?_,λk p b=>?_⟩
 .rw[Nat.mul_one];exact cW d cur U m o
 .simp only[grow,x_];rw[a];omega
 .have h:k≠g:=λe=>b 0 (by rw[e]);simp[grow];rw[w? (by rw[a];exact p)];exact Yu d h
theorem qF{g cap m:Nat}(hb:w.heap[g]?=Y (.cells cur e (0,0)))(a:cur.size=cap)(b:cap<=maxLen)(hd:d.size<=cap)(c:m<=d.size)(q:Nat):
  LE (putRow Eh (Sort.ahead w q) g 0 d) 1 (.slice (Y ⟨g,0,W⟩) m cap) m ((d.toList.take m).map Eh) (Y (g,0))/\R2 (Y (g,0)) w (putRow Eh (Sort.ahead w q) g 0 d):=by
 have:=ig hb a b hd c q #[]
 rwa [grow_empty]at this
theorem WX(z:Option (Nat×Nat))(w:World):R2 z w w:=⟨rfl,rfl,rfl,ae _,λ_ _ _=>rfl⟩
theorem Z9{zs a:Fp}(h:(TV.list 1 (zs.map (TV.int .i64))).WF)(b:a.length<=zs.length)(c:∀x∈a,x∈zs):(TV.list 1 (a.map (TV.int .i64))).WF:=by grind[TV.WF,c9,CG]
variable{P:Program}{f:FuncId}
theorem oH(u:EJ P f=true){zs a:Fp}(c:a.length=zs.length)(p:∀x∈a,x∈zs)
  (h:∀(w:World),zs=[]->Calls P f #[.slice W 0 0] w λe w'=>e=.returned (.tuple #[])/\w'=w)
  (i:∀(g cap:Nat)(w:World),zs.length<=cap->cap<=maxLen->g<w.heap.size->Holds Eh w g 0 zs.toArray->Calls P f #[.slice (Y ⟨g,0,W⟩) zs.length cap] w λe w'=>e=.returned (.tuple #[])/\∃n os,w'=grow (putRow Eh (Sort.ahead w n) g 0 a.toArray) os):
  AT P f [.list 1 (zs.map (TV.int .i64))] (.turn a []):=by
 refine ⟨zs,[],rfl,u,rfl,λ_ w v vs z q _ r hv _ _ _=>?_⟩;cases vs with
 |cons=>cases hv
 |nil=>
 rcases ZA r with⟨rfl,b,rfl,o⟩|⟨g,cap,cur,e,rfl,b,o,t,A,B,rfl⟩
 .have s:zs=[]:=v5 b;have j:a=[]:=v5 (by rw[c,b]);refine(h w s).mono ?_;rintro _ _ ⟨rfl,rfl⟩;subst s j;exact⟨⟨c,Z9 q U p,trivial⟩,⟨_,rfl,#[],rfl,rfl⟩,r,WX _ _⟩
 .have k:g<w.heap.size:=(w!.1 b).1;refine(i g cap w o t k (ay (n:=zs.length) b B)).mono ?_;rintro _ _ ⟨rfl,n,os,rfl⟩;have:=ig (d:=a.toArray) (m:=zs.length) b A t (by simp[c];exact o) (by simp[c]) n os;have y:List.take zs.length a=a:=List.take_of_length_le U;simp[y]at this;exact⟨⟨c,Z9 q U p,trivial⟩,⟨_,rfl,#[],rfl,rfl⟩,this.1,this.2⟩
theorem xU(s:EJ P f=true){zs a:Fp}{rest:Fp}(B:a.length+rest.length=zs.length)(t:∀x∈a,x∈zs)
  (b:∀(w:World),zs=[]->Calls P f #[.slice W 0 0] w λe w'=>e=.returned (.slice W 0 0)/\w'=w)
  (c:∀(g cap:Nat)(w:World),zs.length<=cap->cap<=maxLen->g<w.heap.size->Holds Eh w g 0 zs.toArray->Calls P f #[.slice (Y ⟨g,0,W⟩) zs.length cap] w λe w'=>e=.returned (.slice (Y ⟨g,0,W⟩) a.length cap)/\∃n,w'=putRow Eh (Sort.ahead w n) g 0 (a++rest).toArray):
  AT P f [.list 1 (zs.map (TV.int .i64))] (.cut a):=by
 refine ⟨zs,rfl,s,λh=>Z9 h U t,λw v z o=>?_⟩;rcases ZA o with⟨rfl,i,rfl,q⟩|⟨g,cap,cur,e,rfl,i,q,r,y,A,rfl⟩
 .have p:zs=[]:=v5 i;have j:a=[]:=v5 U;refine(b w p).mono ?_;rintro _ _ ⟨rfl,rfl⟩;subst p j;exact⟨_,rfl,o,WX _ _⟩
 .have k:g<w.heap.size:=(w!.1 i).1;refine(c g cap w q r k (ay (n:=zs.length) i A)).mono ?_;rintro _ _ ⟨rfl,n,rfl⟩;have:=qF (d:=(a++rest).toArray) (m:=a.length) i y r a_ V n;have u:List.take a.length (a++rest)=a:=V
  simp [u]at this;exact⟨_,rfl,this.1,this.2⟩
variable{F:Nat->Nat->Prop}
theorem Yy{b:Nat}:∀(zs:Fp)(o:Nat),Jb w F 1 (zs.map (TV.int .i64)) b o->∀j,j<zs.length->w.cell? ⟨b,o+j,W⟩=Y (.int .i64 (zs.getD j 0))
 |[],_,_,j,a=>by simp at a|z::zs,o,h,0,_=>by
  grind [Jb,Ja]
 |z::zs,o,h,j+1,a=>by
  simp [Jb]at h;have:=Yy zs (o+1) h.2.2 j (by simpa using a)
  grind
theorem XU{zs:Fp}(h:A2 w F (.list 1 (zs.map (TV.int .i64))) v):
  (zs=[]/\∃a cap,v=.slice a 0 cap)\/∃b c cap,v=.slice (Y ⟨b,c,W⟩) zs.length cap/\zs.length<=cap/\∀j,j<zs.length->w.cell? ⟨b,c+j,W⟩=Y (.int .i64 (zs.getD j 0)):=by
 simp [A2]at h;obtain⟨a,cap,rfl,o,p,q⟩:=h;cases a with
 |none=>
  have i:zs=[]:=by simpa using p rfl
  subst i;exact .inl ⟨rfl,W,cap,rfl⟩
 |some m=>
  obtain ⟨k,r⟩:=q m rfl;obtain⟨b,c,s⟩:=m;simp only at k;by_cases i:zs=[]
  .subst i;exact .inl ⟨rfl,_,cap,rfl⟩
  have k:s=W:=k.resolve_left (λe=>i d_);subst k;exact .inr ⟨b,c,cap,rfl,o,Yy zs c r⟩
theorem Ul{t u:TV}{vs:Array Value}(h:AQ w F [t,u] vs.toList):∃v a,vs=#[v,a]/\A2 w F t v/\A2 w F u a:=by
 simp [AQ]at h
 grind
variable{x:Int}
theorem pP(s:EJ P f=true){zs:Fp}(z:zs.length<=AY)(A:zs.Pairwise (·<=·))
  (i:∀(a:Option Addr)(c:Nat)(w:World),zs=[]->Calls P f #[.slice a 0 c,.int .i64 x] w λe w'=>e=.returned (.tuple #[.int .i64 0,.bool false])/\w'=w)
  (k:∀(b h c:Nat)(w:World),(∀j,j<zs.length->w.cell? ⟨b,h+j,W⟩=Y (.int .i64 (zs.getD j 0)))->Calls P f #[.slice (Y ⟨b,h,W⟩) zs.length c,.int .i64 x] w λe w'=>e=.returned (.tuple #[.int .i64 ((zs.take zs.length).countP (·<x):Nat),.bool ((zs.take zs.length).contains x)])/\∃q,w'=w.drewN q):
  AT P f [.list 1 (zs.map (TV.int .i64)),.int .i64 x] (.tp [.int .i64 (zs.countP (·<x):Nat),.bool (zs.contains x)]):=by
 refine AT.of0 (λB=>⟨s,λF0 w vs m _=>?_⟩) rfl;obtain⟨v,C,rfl,t,r⟩:=Ul m;simp[A2]at r;subst r;have o:(A9.tp [.int .i64 (zs.countP (·<x):Nat),.bool (zs.contains x)]).WF:=by
  have:=List.countP_le_length (p:=λy=>decide (y<x)) (l:=zs);simp[A9.WF,TV.p0,TV.WF,IntKind.min,IntKind.max,IntKind.signed,IntKind.bits]
  grind [AY]
 refine ⟨o,?_⟩;rcases XU t with⟨rfl,a0,cap,rfl⟩|⟨b,h,cap,rfl,D,u⟩
 .refine(i a0 cap w rfl).mono ?_;rintro _ _ ⟨rfl,rfl⟩;refine⟨_,rfl,Below.refl _ _,?_⟩;simp only[Jc];exact⟨_,rfl,by simp[AQ,A2]⟩
 .refine(k b h cap w u).mono ?_;rintro _ _ ⟨rfl,q,rfl⟩;refine⟨_,rfl,Go.below_drewN (Below.refl _ _) q,?_⟩;simp only[Jc];exact⟨_,rfl,by simp[AQ,A2]⟩
theorem xd(j:EJ P f=true){s:ByteArray}{c n:Int}(m:-1<=n/\n<=s.size)(a:∀w:World,Calls P f #[.string s,.int .u8 c] w λe w'=>e=.returned (.int .i64 n)/\w'=w):AT P f [.str s,.int .u8 c] (.sh (.int .i64 n)):=by
 refine AT.of0 (λk=>⟨j,λF0 w vs b _=>?_⟩) rfl;obtain⟨v,p,rfl,h,i⟩:=Ul b;simp[A2]at h i;subst h i;have o:s.size<=Kn:=k.1;refine⟨?_,?_⟩
 .simp[A9.WF,TV.WF,IntKind.min,IntKind.max,IntKind.signed,IntKind.bits]
  grind [Kn]
 .refine(a w).mono ?_;rintro _ _ ⟨rfl,rfl⟩;exact⟨_,rfl,Below.refl _ _,by simp[Jc,A2]⟩
variable{l:Fp}
theorem ir(h:x∈Go.Lib.compact l):x∈l:=by
 unfold Go.Lib.compact Go.Lib.compactUpTo at h
 grind
theorem jx:∀(l:List UInt8)(c:UInt8),Go.Lib.indexByte l c<=l.length
 |[],c=>by simp[Go.Lib.indexByte]|b::l,c=>by
  have:=jx l c;simp[Go.Lib.indexByte,cE]
  grind
theorem xc(s:ByteArray)(c:UInt8):Go.Lib.indexByte s.data.toList c<=s.size:=by
 have:=jx s.data.toList c;simpa using this
theorem uv(o:EJ P f=true)(p:n<=AY){z:Array Value}(q:z.size=1)
  (s:∀w:World,n=0->Calls P f #[.slice W 0 0,.int .i64 n] w λr w'=>r=.returned (.slice W 0 0)/\w'=w)
  (t:∀w:World,0<n->Calls P f #[.slice W 0 0,.int .i64 n] w λr w'=>r=.returned (.slice (Y ⟨w.heap.size,0,W⟩) 0 (grownCap w (0+n) 0 e))/\w'=w.drew.alloc (.cells (([]:List Value).toArray++Builtin.zeroCells z (0+n-0)++Builtin.zeroCells z (grownCap w (0+n) 0 e-(0+n))) e)):
  AT P f [.nil,.int .i64 n] (.own (.list 1 [])):=by
 refine AT.of0 (λA=>⟨o,λF0 w vs a _=>?_⟩) rfl;obtain⟨v,B,rfl,j,m⟩:=Ul a;simp[A2]at j m;subst j m;refine⟨by simp[A9.WF,TV.WF,TV.p0],?_⟩;rcases Nat.eq_zero_or_pos n with i|c
 .refine(s w i).mono ?_;rintro _ _ ⟨rfl,rfl⟩;exact⟨_,rfl,Below.refl _ _,W,⟨[],⟨V,.inl ⟨rfl,rfl,rfl⟩⟩,rfl,V,V⟩,V⟩
 .refine(t w c).mono ?_;rintro _ _ ⟨rfl,rfl⟩;have y:=grownCap_ge w (0+n) 0 e;have h:grownCap w (0+n) 0 e<=maxLen:=grownCap_le_maxLen w (0+n) 0 e (by unfold AY at p;unfold maxLen;omega);refine⟨_,rfl,⟨rfl,rfl,rfl,V,λk u=>Below.heap_alloc w.drew _ k u⟩,Y (w.heap.size,0*1),⟨[],⟨V,.inr ⟨w.heap.size,_,_,e,rfl,heap_alloc_new w.drew _,Nat.zero_le _,h,?_,V,rfl⟩⟩,rfl,V,V⟩,?_⟩
  .simp only[x_,List.size_toArray,List.length_nil,size_zeroCells,q];omega
  .intro b lo hb;simp at hb;rw[<-hb.1];exact⟨ae _,V⟩
end Go.Sf
namespace Go.Sf
def ins(x:Int):Fp->Fp
 |[]=>[x]|y::l=>if x<=y then x::y::l else y::ins x l
def So:Fp->Fp
 |[]=>[]|x::l=>ins x (So l)
theorem XD(x:Int):∀l:Fp,(ins x l).Perm (x::l)
 |[]=>List.Perm.refl _|y::l=>by
  unfold ins;split
  .exact List.Perm.refl _
  .exact((XD x l).cons y).trans (List.Perm.swap x y l)
theorem Ra:∀l:Fp,(So l).Perm l
 |[]=>List.Perm.refl _|x::l=>(XD x (So l)).trans ((Ra l).cons x)
theorem YP(x:Int):∀l:Fp,l.Pairwise (·<=·)->(ins x l).Pairwise (·<=·)
 |[],_=>List.pairwise_singleton _ _|y::l,h=>by
  obtain ⟨i,b⟩:=v6.1 h;unfold ins;split
  .grind[v6,Int.le_trans]
  .rename_i a;refine v6.2 ⟨λz c=>?_,YP x l b⟩
   grind [XD]
theorem SE:∀l:Fp,(So l).Pairwise (·<=·)
 |[]=>List.Pairwise.nil|x::l=>YP x _ (SE l)
theorem VS(l:Fp):(l.mergeSort λx y=>decide (x<=y)).Pairwise (·<=·):=by grind[List.pairwise_mergeSort]
theorem qz(l:Fp):(l.mergeSort λx y=>decide (x<=y))=So l:=by grind[List.Perm.eq_of_pairwise,Int.le_antisymm,VS,SE,v_,Ra]
def Abn:Fp->Bool
 |[]=>false|x::l=>l.contains x||Abn l
theorem W6:∀l:Fp,Abn l=false↔l.Nodup
 |[]=>by simp[Abn]|x::l=>by
  rw [Abn,Bool.or_eq_false_iff,W6 l,List.nodup_cons];simp
variable{l:Fp}
theorem Uq(a:l.Pairwise (·<=·)):(Go.Lib.compact l).length=l.length↔l.Nodup:=by
 have e:(Go.Lib.compact l).length=l.length↔∀j,j<l.length->Go.Lib.keeps l.toArray j=true:=by
  unfold Go.Lib.compact Go.Lib.compactUpTo
  grind [c9,List.length_filter_eq_length_iff,List.range,List.length_range]
 have g:∀j(b:j<l.length),l.toArray[j]! =l[j]:=by
  grind
 have q:=v!.1 a;rw[e];constructor
 .intro h;refine v!.2 (λi j o p c k=>?_);have m:=h (i+1) U;simp[Go.Lib.keeps,sA,Nat.add_sub_cancel]at m
  grind
 .intro h j b;simp[Go.Lib.keeps,sA]
  grind [v!]
theorem tR(l:Fp):decide ((Go.Lib.compact (l.mergeSort λx y=>decide (x<=y))).length<l.length)=Abn l:=by
 have a:=Uq (VS l);have b:=(v_ l (λx y=>decide (x<=y))).nodup_iff;have c:=W6 l;have h:=Go.Lib.compact_length_le (l.mergeSort λx y=>decide (x<=y))
 grind [List.length_mergeSort,Abn]
end Go.Sf
