/- In-place library functions on a list of numbers: from the contracts over memory to the contracts of the pure language. -/
import Derived.Test.YtpagkickoiafkaaGreatSfStep
import Derived.Test.YtpagkickoiafkaaGreatSfK
import Derived.Sort.Row
import Derived.Sort.Grow
import Derived.WalkSmall
import Derived.Lib.RowBridge
import Derived.Lib.Bytealg
set_option linter.all false
open Option renaming some->Y,none->W
open List renaming getElem?_take->v?,eq_nil_of_length_eq_zero->w_,pairwise_cons->w!,mergeSort_perm->w?,pairwise_iff_getElem->x_
open Array renaming getElem?_toList->x!,getElem?_eq_getElem->x?,getElem?_eq_some_iff->y_,getElem?_append_left->y!,size_append->y?
namespace Go.Sf
open Go.RowKit (Below)
open Go.Sort
abbrev Du:Int->Value:=Value.int .i64
variable{w:World}{g:Nat}{cur:Array Value}{e:TypeId}
theorem l7{fr:Nat×Nat}(d:Array Int)(h:w.heap[g]?=Y (.cells cur e fr)):(putRow Du w g 0 d).heap[g]?=Y (.cells (putCells Du 0 d cur) e fr):=by
 unfold putRow mapBlock;simp[Array.getElem?_modify,h];rfl
theorem X4{g k:Nat}(d:Array Int)(h:k≠g):(putRow Du w g 0 d).heap[k]?=w.heap[k]?:=by
 unfold putRow mapBlock
 grind
theorem WE(d:Array Int):(putRow Du w g 0 d).heap.size=w.heap.size:=by
 unfold putRow mapBlock;simp
theorem aY(d:Array Int)(cur:Array Value):(putCells Du 0 d cur).size=cur.size:=by simp[putCells]
theorem aZ(d:Array Int)(cur:Array Value)(h:d.size<=cur.size)(m:Nat)(c:m<=d.size):(putCells Du 0 d cur).toList.take m=(d.toList.take m).map Du:=by
 apply List.ext_getElem?;intro i;rw[v?,List.getElem?_map,v?];split
 .rename_i hi;have a:i<cur.size:=U
  have b:i<d.size:=U
  rw [x!,x!];simp[putCells,Array.getElem?_mapIdx,x? a,x? b]
  grind
 .rfl
variable{v:Value}{n:Nat}
theorem YM{xs:List Value}{z:Option (Nat×Nat)}(h:Js w 1 v n xs z):
  (v=.slice W 0 0/\n=0/\z=W/\xs=[])\/∃g cap cur e,v=.slice (Y ⟨g,0,W⟩) n cap/\w.heap[g]?=Y (.cells cur e (0,0))/\n<=cap/\cap<=maxLen/\cur.size=cap/\cur.toList.take n=xs/\z=Y (g,0):=by
 obtain ⟨p,⟨a,b⟩,rfl⟩:=h;rcases b with⟨rfl,rfl,rfl⟩|⟨g,cap,cur,e,c,i,j,k,m,o,rfl⟩
 .exact .inl ⟨rfl,rfl,rfl,w_ (by simpa using a)⟩
 .exact .inr ⟨g,cap,cur,e,c,i,j,k,by simpa using m,f?,rfl⟩
theorem Zg{g n:Nat}{zs:Fp}(h:w.heap[g]?=Y (.cells cur e (0,0)))(b:cur.toList.take zs.length=zs.map Du):Holds Du w g 0 zs.toArray:=by
 intro j a;simp at a;have c:cur[j]?=Y (Du (zs[j]'a)):=by
  have:=congrArg (λl=>l[j]?) b
  grind
 refine ⟨?_,?_⟩
 .simp[World.cell?,h,c];simp[getElem!_pos,a]
 .simp[World.frozen?,h]
variable{d:Array Int}
theorem d9{g cap m:Nat}(i:w.heap[g]?=Y (.cells cur e (0,0)))(j:cur.size=cap)(o:cap<=maxLen)(hd:d.size<=cap)(p:m<=d.size)(q:Nat)(os:Array Obj):
  Js (grow (putRow Du (Sort.ahead w q) g 0 d) os) 1 (.slice (Y ⟨g,0,W⟩) m cap) m ((d.toList.take m).map Du) (Y (g,0))/\Q2 (Y (g,0)) w (grow (putRow Du (Sort.ahead w q) g 0 d) os):=by
 have c:g<w.heap.size:=(y_.1 i).1;have a:(putRow Du (Sort.ahead w q) g 0 d).heap.size=w.heap.size:=WE d;have s:(grow (putRow Du (Sort.ahead w q) g 0 d) os).heap[g]?=Y (.cells (putCells Du 0 d cur) e (0,0)):=by
  simp [grow];rw[y! (by rw[a];exact c)];exact l7 d i
 refine ⟨⟨Y (g,m*1),⟨by simp[a6];omega,.inr ⟨g,cap,_,e,rfl,s,U,o,by rw[aY,j];simp,?_,rfl⟩⟩,rfl⟩,rfl,rfl,rfl,?_,λk r b=>?_⟩
 .rw[Nat.mul_one];exact aZ d cur U m p
 .simp only[grow,y?];rw[a];omega
 .have h:k≠g:=λe=>b 0 (by rw[e]);simp[grow];rw[y! (by rw[a];exact r)];exact X4 d h
theorem nT{g cap m:Nat}(a:w.heap[g]?=Y (.cells cur e (0,0)))(b:cur.size=cap)(c:cap<=maxLen)(hd:d.size<=cap)(h:m<=d.size)(q:Nat):
  Js (putRow Du (Sort.ahead w q) g 0 d) 1 (.slice (Y ⟨g,0,W⟩) m cap) m ((d.toList.take m).map Du) (Y (g,0))/\Q2 (Y (g,0)) w (putRow Du (Sort.ahead w q) g 0 d):=by
 have:=d9 a b c hd h q #[]
 rwa [grow_empty]at this
theorem V5(z:Option (Nat×Nat))(w:World):Q2 z w w:=⟨rfl,rfl,rfl,aN _,λ_ _ _=>rfl⟩
theorem Y0{zs a:Fp}(h:(TV.list 1 (zs.map (TV.int .i64))).WF)(b:a.length<=zs.length)(c:∀x∈a,x∈zs):(TV.list 1 (a.map (TV.int .i64))).WF:=by grind[TV.WF,az,Bn]
variable{P:Program}{f:FuncId}
theorem lO(u:DR P f=true){zs a:Fp}(c:a.length=zs.length)(p:∀x∈a,x∈zs)
  (h:∀(w:World),zs=[]->Calls P f #[.slice W 0 0] w λe w'=>e=.returned (.tuple #[])/\w'=w)
  (i:∀(g cap:Nat)(w:World),zs.length<=cap->cap<=maxLen->g<w.heap.size->Holds Du w g 0 zs.toArray->Calls P f #[.slice (Y ⟨g,0,W⟩) zs.length cap] w λe w'=>e=.returned (.tuple #[])/\∃n os,w'=grow (putRow Du (Sort.ahead w n) g 0 a.toArray) os):
  AV P f [.list 1 (zs.map (TV.int .i64))] (.turn a []):=by
 refine ⟨zs,[],rfl,u,rfl,λ_ w v vs z q _ r hv _ _ _=>?_⟩;cases vs with
 |cons=>cases hv
 |nil=>
 rcases YM r with⟨rfl,b,rfl,o⟩|⟨g,cap,cur,e,rfl,b,o,t,A,B,rfl⟩
 .have s:zs=[]:=w_ b;have j:a=[]:=w_ (by rw[c,b]);refine(h w s).mono ?_;rintro _ _ ⟨rfl,rfl⟩;subst s j;exact⟨⟨c,Y0 q U p,trivial⟩,⟨_,rfl,#[],rfl,rfl⟩,r,V5 _ _⟩
 .have k:g<w.heap.size:=(y_.1 b).1;refine(i g cap w o t k (Zg (n:=zs.length) b B)).mono ?_;rintro _ _ ⟨rfl,n,os,rfl⟩;have:=d9 (d:=a.toArray) (m:=zs.length) b A t (by simp[c];exact o) (by simp[c]) n os;have y:List.take zs.length a=a:=List.take_of_length_le U;simp[y]at this;exact⟨⟨c,Y0 q U p,trivial⟩,⟨_,rfl,#[],rfl,rfl⟩,this.1,this.2⟩
theorem uv(s:DR P f=true){zs a:Fp}{rest:Fp}(B:a.length+rest.length=zs.length)(t:∀x∈a,x∈zs)
  (b:∀(w:World),zs=[]->Calls P f #[.slice W 0 0] w λe w'=>e=.returned (.slice W 0 0)/\w'=w)
  (c:∀(g cap:Nat)(w:World),zs.length<=cap->cap<=maxLen->g<w.heap.size->Holds Du w g 0 zs.toArray->Calls P f #[.slice (Y ⟨g,0,W⟩) zs.length cap] w λe w'=>e=.returned (.slice (Y ⟨g,0,W⟩) a.length cap)/\∃n,w'=putRow Du (Sort.ahead w n) g 0 (a++rest).toArray):
  AV P f [.list 1 (zs.map (TV.int .i64))] (.cut a):=by
 refine ⟨zs,rfl,s,λh=>Y0 h U t,λw v z o=>?_⟩;rcases YM o with⟨rfl,i,rfl,q⟩|⟨g,cap,cur,e,rfl,i,q,r,y,A,rfl⟩
 .have p:zs=[]:=w_ i;have j:a=[]:=w_ U;refine(b w p).mono ?_;rintro _ _ ⟨rfl,rfl⟩;subst p j;exact⟨_,rfl,o,V5 _ _⟩
 .have k:g<w.heap.size:=(y_.1 i).1;refine(c g cap w q r k (Zg (n:=zs.length) i A)).mono ?_;rintro _ _ ⟨rfl,n,rfl⟩;have:=nT (d:=(a++rest).toArray) (m:=a.length) i y r an V n;have u:List.take a.length (a++rest)=a:=V
  simp [u]at this;exact⟨_,rfl,this.1,this.2⟩
variable{F:Nat->Nat->Prop}
theorem YA{b:Nat}:∀(zs:Fp)(o:Nat),II w F 1 (zs.map (TV.int .i64)) b o->∀j,j<zs.length->w.cell? ⟨b,o+j,W⟩=Y (.int .i64 (zs.getD j 0))
 |[],_,_,j,a=>by simp at a|z::zs,o,h,0,_=>by
  grind [II,IH]
 |z::zs,o,h,j+1,a=>by
  simp [II]at h;have:=YA zs (o+1) h.2.2 j (by simpa using a)
  grind
theorem Wp{zs:Fp}(h:Ap w F (.list 1 (zs.map (TV.int .i64))) v):
  (zs=[]/\∃a cap,v=.slice a 0 cap)\/∃b c cap,v=.slice (Y ⟨b,c,W⟩) zs.length cap/\zs.length<=cap/\∀j,j<zs.length->w.cell? ⟨b,c+j,W⟩=Y (.int .i64 (zs.getD j 0)):=by
 simp [Ap]at h;obtain⟨a,cap,rfl,o,p,q⟩:=h;cases a with
 |none=>
  have i:zs=[]:=by simpa using p rfl
  subst i;exact .inl ⟨rfl,W,cap,rfl⟩
 |some m=>
  obtain ⟨k,r⟩:=q m rfl;obtain⟨b,c,s⟩:=m;simp only at k;by_cases i:zs=[]
  .subst i;exact .inl ⟨rfl,_,cap,rfl⟩
  have k:s=W:=k.resolve_left (λe=>i h_);subst k;exact .inr ⟨b,c,cap,rfl,o,YA zs c r⟩
theorem UN{t u:TV}{vs:Array Value}(h:AT w F [t,u] vs.toList):∃v a,vs=#[v,a]/\Ap w F t v/\Ap w F u a:=by
 simp [AT]at h
 grind
variable{x:Int}
theorem md(s:DR P f=true){zs:Fp}(z:zs.length<=AY)(A:zs.Pairwise (·<=·))
  (i:∀(a:Option Addr)(c:Nat)(w:World),zs=[]->Calls P f #[.slice a 0 c,.int .i64 x] w λe w'=>e=.returned (.tuple #[.int .i64 0,.bool false])/\w'=w)
  (k:∀(b h c:Nat)(w:World),(∀j,j<zs.length->w.cell? ⟨b,h+j,W⟩=Y (.int .i64 (zs.getD j 0)))->Calls P f #[.slice (Y ⟨b,h,W⟩) zs.length c,.int .i64 x] w λe w'=>e=.returned (.tuple #[.int .i64 ((zs.take zs.length).countP (·<x):Nat),.bool ((zs.take zs.length).contains x)])/\∃q,w'=w.drewN q):
  AV P f [.list 1 (zs.map (TV.int .i64)),.int .i64 x] (.tp [.int .i64 (zs.countP (·<x):Nat),.bool (zs.contains x)]):=by
 refine AV.of0 (λB=>⟨s,λF0 w vs m _=>?_⟩) rfl;obtain⟨v,C,rfl,t,r⟩:=UN m;simp[Ap]at r;subst r;have o:(At.tp [.int .i64 (zs.countP (·<x):Nat),.bool (zs.contains x)]).WF:=by
  have:=List.countP_le_length (p:=λy=>decide (y<x)) (l:=zs);simp[At.WF,TV.k7,TV.WF,IntKind.min,IntKind.max,IntKind.signed,IntKind.bits]
  grind [AY]
 refine ⟨o,?_⟩;rcases Wp t with⟨rfl,a0,cap,rfl⟩|⟨b,h,cap,rfl,D,u⟩
 .refine(i a0 cap w rfl).mono ?_;rintro _ _ ⟨rfl,rfl⟩;refine⟨_,rfl,Below.refl _ _,?_⟩;simp only[IJ];exact⟨_,rfl,by simp[AT,Ap]⟩
 .refine(k b h cap w u).mono ?_;rintro _ _ ⟨rfl,q,rfl⟩;refine⟨_,rfl,Go.below_drewN (Below.refl _ _) q,?_⟩;simp only[IJ];exact⟨_,rfl,by simp[AT,Ap]⟩
theorem vJ(j:DR P f=true){s:ByteArray}{c n:Int}(hn:-1<=n/\n<=s.size)(a:∀w:World,Calls P f #[.string s,.int .u8 c] w λe w'=>e=.returned (.int .i64 n)/\w'=w):AV P f [.str s,.int .u8 c] (.sh (.int .i64 n)):=by
 refine AV.of0 (λk=>⟨j,λF0 w vs b _=>?_⟩) rfl;obtain⟨v,o,rfl,h,i⟩:=UN b;simp[Ap]at h i;subst h i;have m:s.size<=J3:=k.1;refine⟨?_,?_⟩
 .simp[At.WF,TV.WF,IntKind.min,IntKind.max,IntKind.signed,IntKind.bits]
  grind [J3]
 .refine(a w).mono ?_;rintro _ _ ⟨rfl,rfl⟩;exact⟨_,rfl,Below.refl _ _,by simp[IJ,Ap]⟩
variable{l:Fp}
theorem eH(h:x∈Go.Lib.compact l):x∈l:=by
 unfold Go.Lib.compact Go.Lib.compactUpTo at h
 grind
theorem fk:∀(l:List UInt8)(c:UInt8),Go.Lib.indexByte l c<=l.length
 |[],c=>by simp[Go.Lib.indexByte]|b::l,c=>by
  have:=fk l c;simp[Go.Lib.indexByte,ae]
  grind
theorem vI(s:ByteArray)(c:UInt8):Go.Lib.indexByte s.data.toList c<=s.size:=by
 have:=fk s.data.toList c;simpa using this
theorem sF(p:DR P f=true)(hn:n<=AY){z:Array Value}(q:z.size=1)
  (s:∀w:World,n=0->Calls P f #[.slice W 0 0,.int .i64 n] w λr w'=>r=.returned (.slice W 0 0)/\w'=w)
  (t:∀w:World,0<n->Calls P f #[.slice W 0 0,.int .i64 n] w λr w'=>r=.returned (.slice (Y ⟨w.heap.size,0,W⟩) 0 (grownCap w (0+n) 0 e))/\w'=w.drew.alloc (.cells (([]:List Value).toArray++Builtin.zeroCells z (0+n-0)++Builtin.zeroCells z (grownCap w (0+n) 0 e-(0+n))) e)):
  AV P f [.nil,.int .i64 n] (.own (.list 1 [])):=by
 refine AV.of0 (λA=>⟨p,λF0 w vs a _=>?_⟩) rfl;obtain⟨v,B,rfl,m,o⟩:=UN a;simp[Ap]at m o;subst m o;refine⟨by simp[At.WF,TV.WF,TV.k7],?_⟩;rcases Nat.eq_zero_or_pos n with i|c
 .refine(s w i).mono ?_;rintro _ _ ⟨rfl,rfl⟩;exact⟨_,rfl,Below.refl _ _,W,⟨[],⟨V,.inl ⟨rfl,rfl,rfl⟩⟩,rfl,V,V⟩,V⟩
 .refine(t w c).mono ?_;rintro _ _ ⟨rfl,rfl⟩;have y:=grownCap_ge w (0+n) 0 e;have h:grownCap w (0+n) 0 e<=maxLen:=grownCap_le_maxLen w (0+n) 0 e (by unfold AY at hn;unfold maxLen;omega);refine⟨_,rfl,⟨rfl,rfl,rfl,V,λk u=>Below.heap_alloc w.drew _ k u⟩,Y (w.heap.size,0*1),⟨[],⟨V,.inr ⟨w.heap.size,_,_,e,rfl,heap_alloc_new w.drew _,Nat.zero_le _,h,?_,V,rfl⟩⟩,rfl,V,V⟩,?_⟩
  .simp only[y?,List.size_toArray,List.length_nil,size_zeroCells,q];omega
  .intro b lo j;simp at j;rw[<-j.1];exact⟨aN _,V⟩
end Go.Sf
namespace Go.Sf
def ins(x:Int):Fp->Fp
 |[]=>[x]|y::l=>if x<=y then x::y::l else y::ins x l
def QY:Fp->Fp
 |[]=>[]|x::l=>ins x (QY l)
theorem Wh(x:Int):∀l:Fp,(ins x l).Perm (x::l)
 |[]=>List.Perm.refl _|y::l=>by
  unfold ins;split
  .exact List.Perm.refl _
  .exact((Wh x l).cons y).trans (List.Perm.swap x y l)
theorem G8:∀l:Fp,(QY l).Perm l
 |[]=>List.Perm.refl _|x::l=>(Wh x (QY l)).trans ((G8 l).cons x)
theorem Xg(x:Int):∀l:Fp,l.Pairwise (·<=·)->(ins x l).Pairwise (·<=·)
 |[],_=>List.pairwise_singleton _ _|y::l,h=>by
  obtain ⟨i,b⟩:=w!.1 h;unfold ins;split
  .grind[w!,Int.le_trans]
  .rename_i a;refine w!.2 ⟨λz c=>?_,Xg x l b⟩
   grind [Wh]
theorem JO:∀l:Fp,(QY l).Pairwise (·<=·)
 |[]=>List.Pairwise.nil|x::l=>Xg x _ (JO l)
theorem U1(l:Fp):(l.mergeSort λx y=>decide (x<=y)).Pairwise (·<=·):=by grind[List.pairwise_mergeSort]
theorem oT(l:Fp):(l.mergeSort λx y=>decide (x<=y))=QY l:=by grind[List.Perm.eq_of_pairwise,Int.le_antisymm,U1,JO,w?,G8]
def Abh:Fp->Bool
 |[]=>false|x::l=>l.contains x||Abh l
theorem WZ:∀l:Fp,Abh l=false↔l.Nodup
 |[]=>by simp[Abh]|x::l=>by
  rw [Abh,Bool.or_eq_false_iff,WZ l,List.nodup_cons];simp
variable{l:Fp}
theorem UR(a:l.Pairwise (·<=·)):(Go.Lib.compact l).length=l.length↔l.Nodup:=by
 have e:(Go.Lib.compact l).length=l.length↔∀j,j<l.length->Go.Lib.keeps l.toArray j=true:=by
  unfold Go.Lib.compact Go.Lib.compactUpTo
  grind [az,List.length_filter_eq_length_iff,List.range,List.length_range]
 have g:∀j(b:j<l.length),l.toArray[j]! =l[j]:=by
  grind
 have q:=x_.1 a;rw[e];constructor
 .intro h;refine x_.2 (λi j o p c k=>?_);have m:=h (i+1) U;simp[Go.Lib.keeps,ml,Nat.add_sub_cancel]at m
  grind
 .intro h j b;simp[Go.Lib.keeps,ml]
  grind [x_]
theorem qY(l:Fp):decide ((Go.Lib.compact (l.mergeSort λx y=>decide (x<=y))).length<l.length)=Abh l:=by
 have a:=UR (U1 l);have b:=(w? l (λx y=>decide (x<=y))).nodup_iff;have c:=WZ l;have h:=Go.Lib.compact_length_le (l.mergeSort λx y=>decide (x<=y))
 grind [List.length_mergeSort,Abh]
end Go.Sf
