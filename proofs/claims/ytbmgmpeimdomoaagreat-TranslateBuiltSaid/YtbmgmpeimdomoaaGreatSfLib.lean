/- In-place library functions on a list of numbers: from the contracts over memory to the contracts of the pure language. -/
import Derived.Test.YtbmgmpeimdomoaaGreatSfStep
import Derived.Test.YtbmgmpeimdomoaaGreatSfK
import Derived.Sort.Row
import Derived.Sort.Grow
import Derived.WalkSmall
import Derived.Lib.RowBridge
import Derived.Lib.Bytealg
set_option linter.all false
open Option renaming some->Y,none->W
open List renaming getElem?_take->w!,eq_nil_of_length_eq_zero->w?,pairwise_cons->x_,mergeSort_perm->x!,pairwise_iff_getElem->x?
open Array renaming getElem?_toList->y_,getElem?_eq_getElem->y!,getElem?_eq_some_iff->y?,getElem?_append_left->z_,size_append->z!
namespace Go.Sf
open Go.RowKit (Below)
open Go.Sort
abbrev EG:Int->Value:=Value.int .i64
variable{w:World}{g:Nat}{cur:Array Value}{e:TypeId}
theorem lq{fr:Nat×Nat}(d:Array Int)(h:w.heap[g]?=Y (.cells cur e fr)):(putRow EG w g 0 d).heap[g]?=Y (.cells (putCells EG 0 d cur) e fr):=by
 unfold putRow mapBlock;simp[Array.getElem?_modify,h];rfl
theorem YG{g k:Nat}(d:Array Int)(h:k≠g):(putRow EG w g 0 d).heap[k]?=w.heap[k]?:=by
 unfold putRow mapBlock
 grind
theorem WI(d:Array Int):(putRow EG w g 0 d).heap.size=w.heap.size:=by
 unfold putRow mapBlock;simp
theorem aL(d:Array Int)(cur:Array Value):(putCells EG 0 d cur).size=cur.size:=by simp[putCells]
theorem aM(d:Array Int)(cur:Array Value)(h:d.size<=cur.size)(m:Nat)(c:m<=d.size):(putCells EG 0 d cur).toList.take m=(d.toList.take m).map EG:=by
 apply List.ext_getElem?;intro i;rw[w!,List.getElem?_map,w!];split
 .rename_i hi;have a:i<cur.size:=U
  have b:i<d.size:=U
  rw [y_,y_];simp[putCells,Array.getElem?_mapIdx,y! a,y! b]
  grind
 .rfl
variable{v:Value}{n:Nat}
theorem YV{xs:List Value}{z:Option (Nat×Nat)}(h:KD w 1 v n xs z):
  (v=.slice W 0 0/\n=0/\z=W/\xs=[])\/∃g cap cur e,v=.slice (Y ⟨g,0,W⟩) n cap/\w.heap[g]?=Y (.cells cur e (0,0))/\n<=cap/\cap<=maxLen/\cur.size=cap/\cur.toList.take n=xs/\z=Y (g,0):=by
 obtain ⟨p,⟨a,b⟩,rfl⟩:=h;rcases b with⟨rfl,rfl,rfl⟩|⟨g,cap,cur,e,c,i,j,k,m,o,rfl⟩
 .exact .inl ⟨rfl,rfl,rfl,w? (by simpa using a)⟩
 .exact .inr ⟨g,cap,cur,e,c,i,j,k,by simpa using m,d!,rfl⟩
theorem Zc{g n:Nat}{zs:Fp}(h:w.heap[g]?=Y (.cells cur e (0,0)))(b:cur.toList.take zs.length=zs.map EG):Holds EG w g 0 zs.toArray:=by
 intro j a;simp at a;have c:cur[j]?=Y (EG (zs[j]'a)):=by
  have:=congrArg (λl=>l[j]?) b
  grind
 refine ⟨?_,?_⟩
 .simp[World.cell?,h,c];simp[getElem!_pos,a]
 .simp[World.frozen?,h]
variable{d:Array Int}
theorem d8{g cap m:Nat}(i:w.heap[g]?=Y (.cells cur e (0,0)))(j:cur.size=cap)(o:cap<=maxLen)(hd:d.size<=cap)(p:m<=d.size)(q:Nat)(os:Array Obj):
  KD (grow (putRow EG (Sort.ahead w q) g 0 d) os) 1 (.slice (Y ⟨g,0,W⟩) m cap) m ((d.toList.take m).map EG) (Y (g,0))/\Q6 (Y (g,0)) w (grow (putRow EG (Sort.ahead w q) g 0 d) os):=by
 have c:g<w.heap.size:=(y?.1 i).1;have a:(putRow EG (Sort.ahead w q) g 0 d).heap.size=w.heap.size:=WI d;have s:(grow (putRow EG (Sort.ahead w q) g 0 d) os).heap[g]?=Y (.cells (putCells EG 0 d cur) e (0,0)):=by
  simp [grow];rw[z_ (by rw[a];exact c)];exact lq d i
 refine ⟨⟨Y (g,m*1),⟨by simp[aN];omega,.inr ⟨g,cap,_,e,rfl,s,U,o,by rw[aL,j];simp,?_,rfl⟩⟩,rfl⟩,rfl,rfl,rfl,?_,λk r b=>?_⟩
 .rw[Nat.mul_one];exact aM d cur U m p
 .simp only[grow,z!];rw[a];omega
 .have h:k≠g:=λe=>b 0 (by rw[e]);simp[grow];rw[z_ (by rw[a];exact r)];exact YG d h
theorem nE{g cap m:Nat}(a:w.heap[g]?=Y (.cells cur e (0,0)))(b:cur.size=cap)(c:cap<=maxLen)(hd:d.size<=cap)(h:m<=d.size)(q:Nat):
  KD (putRow EG (Sort.ahead w q) g 0 d) 1 (.slice (Y ⟨g,0,W⟩) m cap) m ((d.toList.take m).map EG) (Y (g,0))/\Q6 (Y (g,0)) w (putRow EG (Sort.ahead w q) g 0 d):=by
 have:=d8 a b c hd h q #[]
 rwa [grow_empty]at this
theorem V7(z:Option (Nat×Nat))(w:World):Q6 z w w:=⟨rfl,rfl,rfl,R0 _,λ_ _ _=>rfl⟩
theorem Y0{zs a:Fp}(h:(TV.list 1 (zs.map (TV.int .i64))).WF)(b:a.length<=zs.length)(c:∀x∈a,x∈zs):(TV.list 1 (a.map (TV.int .i64))).WF:=by grind[TV.WF,a6,Bp]
variable{P:Program}{f:FuncId}
theorem lC(u:Do P f=true){zs a:Fp}(c:a.length=zs.length)(p:∀x∈a,x∈zs)
  (h:∀(w:World),zs=[]->Calls P f #[.slice W 0 0] w λe w'=>e=.returned (.tuple #[])/\w'=w)
  (i:∀(g cap:Nat)(w:World),zs.length<=cap->cap<=maxLen->g<w.heap.size->Holds EG w g 0 zs.toArray->Calls P f #[.slice (Y ⟨g,0,W⟩) zs.length cap] w λe w'=>e=.returned (.tuple #[])/\∃n os,w'=grow (putRow EG (Sort.ahead w n) g 0 a.toArray) os):
  AS P f [.list 1 (zs.map (TV.int .i64))] (.turn a []):=by
 refine ⟨zs,[],rfl,u,rfl,λ_ w v vs z q _ r hv _ _ _=>?_⟩;cases vs with
 |cons=>cases hv
 |nil=>
 rcases YV r with⟨rfl,b,rfl,o⟩|⟨g,cap,cur,e,rfl,b,o,t,A,B,rfl⟩
 .have s:zs=[]:=w? b;have j:a=[]:=w? (by rw[c,b]);refine(h w s).mono ?_;rintro _ _ ⟨rfl,rfl⟩;subst s j;exact⟨⟨c,Y0 q U p,trivial⟩,⟨_,rfl,#[],rfl,rfl⟩,r,V7 _ _⟩
 .have k:g<w.heap.size:=(y?.1 b).1;refine(i g cap w o t k (Zc (n:=zs.length) b B)).mono ?_;rintro _ _ ⟨rfl,n,os,rfl⟩;have:=d8 (d:=a.toArray) (m:=zs.length) b A t (by simp[c];exact o) (by simp[c]) n os;have y:List.take zs.length a=a:=List.take_of_length_le U;simp[y]at this;exact⟨⟨c,Y0 q U p,trivial⟩,⟨_,rfl,#[],rfl,rfl⟩,this.1,this.2⟩
theorem uW(s:Do P f=true){zs a:Fp}{rest:Fp}(B:a.length+rest.length=zs.length)(t:∀x∈a,x∈zs)
  (b:∀(w:World),zs=[]->Calls P f #[.slice W 0 0] w λe w'=>e=.returned (.slice W 0 0)/\w'=w)
  (c:∀(g cap:Nat)(w:World),zs.length<=cap->cap<=maxLen->g<w.heap.size->Holds EG w g 0 zs.toArray->Calls P f #[.slice (Y ⟨g,0,W⟩) zs.length cap] w λe w'=>e=.returned (.slice (Y ⟨g,0,W⟩) a.length cap)/\∃n,w'=putRow EG (Sort.ahead w n) g 0 (a++rest).toArray):
  AS P f [.list 1 (zs.map (TV.int .i64))] (.cut a):=by
 refine ⟨zs,rfl,s,λh=>Y0 h U t,λw v z o=>?_⟩;rcases YV o with⟨rfl,i,rfl,q⟩|⟨g,cap,cur,e,rfl,i,q,r,y,A,rfl⟩
 .have p:zs=[]:=w? i;have j:a=[]:=w? U;refine(b w p).mono ?_;rintro _ _ ⟨rfl,rfl⟩;subst p j;exact⟨_,rfl,o,V7 _ _⟩
 .have k:g<w.heap.size:=(y?.1 i).1;refine(c g cap w q r k (Zc (n:=zs.length) i A)).mono ?_;rintro _ _ ⟨rfl,n,rfl⟩;have:=nE (d:=(a++rest).toArray) (m:=a.length) i y r an V n;have u:List.take a.length (a++rest)=a:=V
  simp [u]at this;exact⟨_,rfl,this.1,this.2⟩
variable{F:Nat->Nat->Prop}
theorem YL{b:Nat}:∀(zs:Fp)(o:Nat),Iq w F 1 (zs.map (TV.int .i64)) b o->∀j,j<zs.length->w.cell? ⟨b,o+j,W⟩=Y (.int .i64 (zs.getD j 0))
 |[],_,_,j,a=>by simp at a|z::zs,o,h,0,_=>by
  grind [Iq,Ip]
 |z::zs,o,h,j+1,a=>by
  simp [Iq]at h;have:=YL zs (o+1) h.2.2 j (by simpa using a)
  grind
theorem W4{zs:Fp}(h:Aq w F (.list 1 (zs.map (TV.int .i64))) v):
  (zs=[]/\∃a cap,v=.slice a 0 cap)\/∃b c cap,v=.slice (Y ⟨b,c,W⟩) zs.length cap/\zs.length<=cap/\∀j,j<zs.length->w.cell? ⟨b,c+j,W⟩=Y (.int .i64 (zs.getD j 0)):=by
 simp [Aq]at h;obtain⟨a,cap,rfl,o,p,q⟩:=h;cases a with
 |none=>
  have i:zs=[]:=by simpa using p rfl
  subst i;exact .inl ⟨rfl,W,cap,rfl⟩
 |some m=>
  obtain ⟨k,r⟩:=q m rfl;obtain⟨b,c,s⟩:=m;simp only at k;by_cases i:zs=[]
  .subst i;exact .inl ⟨rfl,_,cap,rfl⟩
  have k:s=W:=k.resolve_left (λe=>i i?);subst k;exact .inr ⟨b,c,cap,rfl,o,YL zs c r⟩
theorem Tu{t u:TV}{vs:Array Value}(h:AR w F [t,u] vs.toList):∃v a,vs=#[v,a]/\Aq w F t v/\Aq w F u a:=by
 simp [AR]at h
 grind
variable{x:Int}
theorem mP(s:Do P f=true){zs:Fp}(z:zs.length<=AX)(A:zs.Pairwise (·<=·))
  (i:∀(a:Option Addr)(c:Nat)(w:World),zs=[]->Calls P f #[.slice a 0 c,.int .i64 x] w λe w'=>e=.returned (.tuple #[.int .i64 0,.bool false])/\w'=w)
  (k:∀(b h c:Nat)(w:World),(∀j,j<zs.length->w.cell? ⟨b,h+j,W⟩=Y (.int .i64 (zs.getD j 0)))->Calls P f #[.slice (Y ⟨b,h,W⟩) zs.length c,.int .i64 x] w λe w'=>e=.returned (.tuple #[.int .i64 ((zs.take zs.length).countP (·<x):Nat),.bool ((zs.take zs.length).contains x)])/\∃q,w'=w.drewN q):
  AS P f [.list 1 (zs.map (TV.int .i64)),.int .i64 x] (.tp [.int .i64 (zs.countP (·<x):Nat),.bool (zs.contains x)]):=by
 refine AS.of0 (λB=>⟨s,λF0 w vs m _=>?_⟩) rfl;obtain⟨v,C,rfl,t,r⟩:=Tu m;simp[Aq]at r;subst r;have o:(As.tp [.int .i64 (zs.countP (·<x):Nat),.bool (zs.contains x)]).WF:=by
  have:=List.countP_le_length (p:=λy=>decide (y<x)) (l:=zs);simp[As.WF,TV.ns,TV.WF,IntKind.min,IntKind.max,IntKind.signed,IntKind.bits]
  grind [AX]
 refine ⟨o,?_⟩;rcases W4 t with⟨rfl,a0,cap,rfl⟩|⟨b,h,cap,rfl,D,u⟩
 .refine(i a0 cap w rfl).mono ?_;rintro _ _ ⟨rfl,rfl⟩;refine⟨_,rfl,Below.refl _ _,?_⟩;simp only[Ir];exact⟨_,rfl,by simp[AR,Aq]⟩
 .refine(k b h cap w u).mono ?_;rintro _ _ ⟨rfl,q,rfl⟩;refine⟨_,rfl,Go.below_drewN (Below.refl _ _) q,?_⟩;simp only[Ir];exact⟨_,rfl,by simp[AR,Aq]⟩
theorem uf(j:Do P f=true){s:ByteArray}{c n:Int}(m:-1<=n/\n<=s.size)(a:∀w:World,Calls P f #[.string s,.int .u8 c] w λe w'=>e=.returned (.int .i64 n)/\w'=w):AS P f [.str s,.int .u8 c] (.sh (.int .i64 n)):=by
 refine AS.of0 (λk=>⟨j,λF0 w vs b _=>?_⟩) rfl;obtain⟨v,p,rfl,h,i⟩:=Tu b;simp[Aq]at h i;subst h i;have o:s.size<=KK:=k.1;refine⟨?_,?_⟩
 .simp[As.WF,TV.WF,IntKind.min,IntKind.max,IntKind.signed,IntKind.bits]
  grind [KK]
 .refine(a w).mono ?_;rintro _ _ ⟨rfl,rfl⟩;exact⟨_,rfl,Below.refl _ _,by simp[Ir,Aq]⟩
variable{l:Fp}
theorem eF(h:x∈Go.Lib.compact l):x∈l:=by
 unfold Go.Lib.compact Go.Lib.compactUpTo at h
 grind
theorem fa:∀(l:List UInt8)(c:UInt8),Go.Lib.indexByte l c<=l.length
 |[],c=>by simp[Go.Lib.indexByte]|b::l,c=>by
  have:=fa l c;simp[Go.Lib.indexByte,a5]
  grind
theorem ue(s:ByteArray)(c:UInt8):Go.Lib.indexByte s.data.toList c<=s.size:=by
 have:=fa s.data.toList c;simpa using this
theorem rj(p:Do P f=true)(q:n<=AX){z:Array Value}(s:z.size=1)
  (t:∀w:World,n=0->Calls P f #[.slice W 0 0,.int .i64 n] w λr w'=>r=.returned (.slice W 0 0)/\w'=w)
  (u:∀w:World,0<n->Calls P f #[.slice W 0 0,.int .i64 n] w λr w'=>r=.returned (.slice (Y ⟨w.heap.size,0,W⟩) 0 (grownCap w (0+n) 0 e))/\w'=w.drew.alloc (.cells (([]:List Value).toArray++Builtin.zeroCells z (0+n-0)++Builtin.zeroCells z (grownCap w (0+n) 0 e-(0+n))) e)):
  AS P f [.nil,.int .i64 n] (.own (.list 1 [])):=by
 refine AS.of0 (λB=>⟨p,λF0 w vs a _=>?_⟩) rfl;obtain⟨v,C,rfl,m,o⟩:=Tu a;simp[Aq]at m o;subst m o;refine⟨by simp[As.WF,TV.WF,TV.ns],?_⟩;rcases Nat.eq_zero_or_pos n with i|c
 .refine(t w i).mono ?_;rintro _ _ ⟨rfl,rfl⟩;exact⟨_,rfl,Below.refl _ _,W,⟨[],⟨V,.inl ⟨rfl,rfl,rfl⟩⟩,rfl,V,V⟩,V⟩
 .refine(u w c).mono ?_;rintro _ _ ⟨rfl,rfl⟩;have A:=grownCap_ge w (0+n) 0 e;have h:grownCap w (0+n) 0 e<=maxLen:=grownCap_le_maxLen w (0+n) 0 e (by unfold AX at q;unfold maxLen;omega);refine⟨_,rfl,⟨rfl,rfl,rfl,V,λk y=>Below.heap_alloc w.drew _ k y⟩,Y (w.heap.size,0*1),⟨[],⟨V,.inr ⟨w.heap.size,_,_,e,rfl,heap_alloc_new w.drew _,Nat.zero_le _,h,?_,V,rfl⟩⟩,rfl,V,V⟩,?_⟩
  .simp only[z!,List.size_toArray,List.length_nil,size_zeroCells,s];omega
  .intro b lo j;simp at j;rw[<-j.1];exact⟨R0 _,V⟩
end Go.Sf
namespace Go.Sf
def ins(x:Int):Fp->Fp
 |[]=>[x]|y::l=>if x<=y then x::y::l else y::ins x l
def Rs:Fp->Fp
 |[]=>[]|x::l=>ins x (Rs l)
theorem Wm(x:Int):∀l:Fp,(ins x l).Perm (x::l)
 |[]=>List.Perm.refl _|y::l=>by
  unfold ins;split
  .exact List.Perm.refl _
  .exact((Wm x l).cons y).trans (List.Perm.swap x y l)
theorem Qj:∀l:Fp,(Rs l).Perm l
 |[]=>List.Perm.refl _|x::l=>(Wm x (Rs l)).trans ((Qj l).cons x)
theorem Xr(x:Int):∀l:Fp,l.Pairwise (·<=·)->(ins x l).Pairwise (·<=·)
 |[],_=>List.pairwise_singleton _ _|y::l,h=>by
  obtain ⟨i,b⟩:=x_.1 h;unfold ins;split
  .grind[x_,Int.le_trans]
  .rename_i a;refine x_.2 ⟨λz c=>?_,Xr x l b⟩
   grind [Wm]
theorem RG:∀l:Fp,(Rs l).Pairwise (·<=·)
 |[]=>List.Pairwise.nil|x::l=>Xr x _ (RG l)
theorem Ui(l:Fp):(l.mergeSort λx y=>decide (x<=y)).Pairwise (·<=·):=by grind[List.pairwise_mergeSort]
theorem oC(l:Fp):(l.mergeSort λx y=>decide (x<=y))=Rs l:=by grind[List.Perm.eq_of_pairwise,Int.le_antisymm,Ui,RG,x!,Qj]
def Aby:Fp->Bool
 |[]=>false|x::l=>l.contains x||Aby l
theorem Wb:∀l:Fp,Aby l=false↔l.Nodup
 |[]=>by simp[Aby]|x::l=>by
  rw [Aby,Bool.or_eq_false_iff,Wb l,List.nodup_cons];simp
variable{l:Fp}
theorem T3(a:l.Pairwise (·<=·)):(Go.Lib.compact l).length=l.length↔l.Nodup:=by
 have e:(Go.Lib.compact l).length=l.length↔∀j,j<l.length->Go.Lib.keeps l.toArray j=true:=by
  unfold Go.Lib.compact Go.Lib.compactUpTo
  grind [a6,List.length_filter_eq_length_iff,List.range,List.length_range]
 have g:∀j(b:j<l.length),l.toArray[j]! =l[j]:=by
  grind
 have q:=x?.1 a;rw[e];constructor
 .intro h;refine x?.2 (λi j o p c k=>?_);have m:=h (i+1) U;simp[Go.Lib.keeps,pE,Nat.add_sub_cancel]at m
  grind
 .intro h j b;simp[Go.Lib.keeps,pE]
  grind [x?]
theorem qH(l:Fp):decide ((Go.Lib.compact (l.mergeSort λx y=>decide (x<=y))).length<l.length)=Aby l:=by
 have a:=T3 (Ui l);have b:=(x! l (λx y=>decide (x<=y))).nodup_iff;have c:=Wb l;have h:=Go.Lib.compact_length_le (l.mergeSort λx y=>decide (x<=y))
 grind [List.length_mergeSort,Aby]
end Go.Sf
