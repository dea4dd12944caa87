/- Plain lemmas: what the functions of the program and of the reference compute. -/
import Derived.Test.YthgbaecihlidaaaGreatDoorSfF
import Derived.Test.YthgbaecihlidaaaGreatDoorP46
set_option linter.all false
set_option maxRecDepth 100000
namespace Go.Sf.Sc
open Go Go.Sf
def XI(p g:d6)(m:eb):d6:=⟨m.d5.map (AA g.d5),p.d7⟩
variable{l:Fp}
theorem Od{n x:Int}:x∈BI l n↔(0<=x/\x<n)/\x∉l:=by
 unfold BI;rw[List.mem_filter];constructor
 .grind[Int.natCast_nonneg,CR]
 .rintro⟨⟨c,e⟩,j⟩;refine⟨List.mem_map.2 ⟨x.toNat,List.mem_range.2 (by omega),Int.toNat_of_nonneg c⟩,?_⟩
  grind [hasB,CR]
theorem Pr(l:Fp)(n:Int):(BI l n).Pairwise (·<·):=by grind[BI,List.pairwise_lt_range.imp]
def FN(images gn:Fp):Fp:=(BI gn images.length).map (AA images)
theorem SQ{images gn:Fp}{x:Int}:x∈FN images gn↔∃i:Int,(0<=i/\i<images.length)/\i∉gn/\AA images i=x:=by grind[FN,Od]
def AaH(images gn:Fp):Bool:=n8 (fun a=>n8 (fun b=>decide (AA images a=AA images b)&&(!hasB gn a||!hasB gn b)) (a+1) images.length) 0 images.length
variable{a b:Int}
theorem bl{images gn:Fp}(h:AaH images gn=false)(a0:0<=a)(a1:a<images.length)(u:0<=b)(s:b<images.length)(w:a∈gn)(e:AA images a=AA images b):b∈gn:=by
 unfold AaH at h;rw[Bk]at h;by_cases j:a=b
 .exact j▸w
 by_cases y:a<b
 .have c:=h a a0 a1;rw[Bk]at c;have o:=c b (by omega) s;rw[decide_eq_true e,Bool.true_and,Bool.or_eq_false_iff]at o
  grind [CR]
 .have c:=h b u s;rw[Bk]at c;have o:=c a (by omega) a1;rw[decide_eq_true e.symm,Bool.true_and,Bool.or_eq_false_iff]at o
  grind [CR]
variable{i:Int}
theorem SS{images gn:Fp}(h:AaH images gn=false)(c:0<=i)(e:i<images.length)(j:i∈gn):AA images i∉FN images gn:=by grind[SQ,bl]
def RB(g:d6)(gn:Bo)(m:eb)(i:Int):Bool:=
 !hasB m.d7 i&&(hasB (FN m.d5 gn.d5) (AA g.d7 i).nd||hasB (FN m.d5 gn.d5) (AA g.d7 i).To)
def Nk(g:d6)(gn:Bo)(m:eb):Bo:=⟨BI (FN m.d5 gn.d5) g.d5.length,BI (FN m.d7 gn.d7) g.d7.length⟩
def Q9(l g:d6)(gn:Bo)(m:eb):Bo×Int:=
 if Hz l g m≠0 then(⟨[],[]⟩,Hz l g m)else if Du l gn≠0 then(⟨[],[]⟩,Du l gn)else
 if (AaH m.d5 gn.d5||AaH m.d7 gn.d7)=true then(⟨[],[]⟩,15)else
 if n8 (RB g gn m) 0 g.d7.length=true then(⟨[],[]⟩,14)else(Nk g gn m,0)
structure XW(l g:d6)(gn:Bo)(m:eb):Prop where
 mor:Q2 l g m
 part:Nt l gn
 ek:AaH m.d5 gn.d5=false
 em:AaH m.d7 gn.d7=false
 free:∀i:Int,0<=i->i<g.d7.length->RB g gn m i=false
variable{g:d6}
theorem Yh{p:Bo}(h:Du g p=0):Bn g=0/\LT g p=0:=by grind[Du]
theorem Z3{l g:d6}{gn:Bo}{m:eb}(h:(Q9 l g gn m).2=0):XW l g gn m/\Q9 l g gn m=(Nk g gn m,0):=by
 unfold Q9 at h|-;split at h
 .grind
 rename_i e;rw[b6 e];split at h
 .grind
 rename_i j;rw[b6 j];split at h
 .grind
 rename_i c;rw[b6 c];split at h
 .grind
 rename_i o;rw[b6 o];simp[not_or]at c;exact⟨⟨Ux (Classical.not_not.1 e),Si (Yh (Classical.not_not.1 j)).2,c.1,c.2,Bk.1 (by simpa using o)⟩,rfl⟩
theorem fZ{l g:d6}{gn:Bo}{m:eb}(h:XW l g gn m):LT g (Nk g gn m)=0:=by
 have w:=h.mor;have H:=w.gb;have I:∀x∈(Nk g gn m).d5,0<=x/\x<g.d5.length:=fun x o=>FJ o;have J:∀x∈(Nk g gn m).d7,0<=x/\x<g.d7.length:=fun x o=>FJ o;have j:∀{l:Fp}{n:Int},(∀x∈l,0<=x/\x<n)->l.Pairwise (·<·)->M2 l n=0:=by
  grind [M2,A5,AF,Gk]
 unfold LT;rw[j I (Pr _ _),j J (Pr _ _)];simp;rw[A5.2 fun i F G=>?_]
 .rfl
 have o:=AF F G;generalize AA (Nk g gn m).d7 i=x at o;have c:(0<=x/\x<g.d7.length)/\x∉FN m.d7 gn.d7:=Od.1 o;have hf:=H.fit _ (AF c.1.1 c.1.2);have y:(AA g.d7 x).nd∉FN m.d5 gn.d5/\(AA g.d7 x).To∉FN m.d5 gn.d5:=by
  by_cases hi:x∈m.d7
  .obtain⟨k,D,E,e⟩:=Bh hi;have s:k∈gn.d7:=by
    by_cases s:k∈gn.d7
    .exact s
    .exact absurd (SQ.2 ⟨k,⟨D,E⟩,s,e⟩) c.2
   have ends:=h.part.ends k s;have he:=w.edge k D E;rw[e]at he;have z:=h.part.ek.1;have K:=z _ ends.1;have N:=z _ ends.2;have P:=w.AaG;rw[<-he.2.2.1,<-he.2.2.2];exact⟨SS h.ek K.1 (by omega) ends.1,SS h.ek N.1 (by omega) ends.2⟩
  .have hd:=h.free x c.1.1 c.1.2;unfold RB at hd;rw[show hasB m.d7 x=false from by cases O:hasB m.d7 x with|false=>rfl|true=>exact absurd (CR.1 O) hi,Bool.not_false,Bool.true_and,Bool.or_eq_false_iff]at hd;exact⟨fun u=>by rw[CR.2 u]at hd;exact absurd hd.1 (by decide),fun u=>by rw[CR.2 u]at hd;exact absurd hd.2 (by decide)⟩
 grind [hasB,Nk,AA,CR,Od]
def JN(n:Nat)(l:Fp):Fp:=(A7 n).map (EF l)
variable{v:Int}
theorem Vf(h:v∉l):EF l v=-1:=by grind[EF,A5,AF]
theorem TB(l:Fp)(v:Int):-1<=EF l v/\EF l v<l.length:=by
 by_cases h:v∈l
 .have:=HH h;omega
 .rw[Vf h];omega
theorem RQ:0<=EF l v↔v∈l:=by grind[Vf,HH]
theorem OB(n:Nat)(l:Fp):(JN n l).length=n:=by unfold JN;rw[d3,BD]
variable{n:Nat}
theorem ZC(c:0<=i)(e:i<n):AA (JN n l) i=EF l i:=Ia _ c e
theorem ij(h:l.Nodup)(c:0<=i)(e:i<l.length):EF l (AA l i)=i:=by
 have j:=HH (AF c e)
 grind [EF,AA,Gk]
def Q8(gn into at_:Fp)(n i:Int):Int:=if hasB into i=true then AA at_ (AA gn (EF into i))else n+(BI into i).length
def Tr(count:Nat)(gn into at_:Fp)(n:Int):Fp:=(A7 count).map (Q8 gn into at_ n)
theorem VZ(count:Nat)(gn into at_:Fp)(n:Int):(Tr count gn into at_ n).length=count:=by unfold Tr;rw[d3,BD]
variable{count:Nat}
theorem dn{gn into at_:Fp}{n i:Int}(c:0<=i)(e:i<count):AA (Tr count gn into at_ n) i=Q8 gn into at_ n i:=Ia _ c e
theorem QC(h:0<=i):((BI l i).length:Int)<=i:=by grind[Ps]
end Go.Sf.Sc
namespace Go.Sf.Sc
open Go Go.Sf
variable{α:Type}
theorem UH{P:List α->Prop}(c:P [])(e:∀l a,P l->P (l++[a]))(l:List α):P l:=by
 have:∀l:List α,P l.reverse:=by
  intro l
  induction l with
  |nil=>exact c|cons a l j=>rw[List.reverse_cons];exact e _ _ j
 rw [<-List.reverse_reverse l];exact this _
def ON(L:BO):BO:=L.foldl (fun m p=>m.set p.1 p.2) []
theorem YK(L:BO)(p:(Int×Int)×Int):ON (L++[p])=(ON L).set p.1 p.2:=by
 unfold ON
 grind
def Qz(L:BO):Prop:=∀p∈L,∀q∈L,p.1=q.1->p.2=q.2
variable{k:Int×Int}{v:Int}
theorem ST:∀{m:BO},m.look k=some v->(k,v)∈m
 |[],h=>by cases h
 |p::r,h=>by
  unfold BO.look at h;split at h
  .grind
  .exact List.mem_cons_of_mem _ (ST h)
theorem WY:∀{m:BO},m.look k=none->∀p∈m,p.1≠k
 |[],_,p,c=>by cases c
 |q::r,h,p,c=>by
  unfold BO.look at h;split at h
  .cases h
  .rename_i e;rcases List.mem_cons.1 c with rfl|c
   .exact e
   .exact WY h p c
theorem ak:∀{m:BO},m.look k=none->m.set k v=m++[(k,v)]
 |[],_=>rfl|p::r,h=>by
  unfold BO.look at h;unfold BO.set;split at h
  .cases h
  .rename_i e;rw[b6 e,ak h];rfl
theorem Y1:∀{m:BO},m.look k=some v->m.set k v=m
 |[],h=>by cases h
 |p::r,h=>by
  unfold BO.look at h;unfold BO.set;split at h
  .grind
  .rename_i e;rw[b6 e,Y1 h]
theorem bf(V:List Fp)(p:(Int×Int)×Int):CQ (CQ V p) p=CQ V p:=by
 unfold CQ;split
 .apply List.ext_getElem?
  grind [Option.map_eq_map,Option.map_map,List.set_set]
 .rfl
theorem iN{m:BO}(hd:m.Dis){p:(Int×Int)×Int}(c:p∈m)(V:List Fp):CQ (m.foldl CQ V) p=m.foldl CQ V:=by
 have e:m.Perm (m.erase p++[p]):=(List.perm_cons_erase c).trans (List.perm_append_singleton p (m.erase p)).symm;rw[<-Ue hd e V,List.foldl_append];exact bf _ _
theorem Qz.sub{L M:BO}(h:Qz L)(c:∀p∈M,p∈L):Qz M:=fun p e q j=>h p (c p e) q (c q j)
theorem aG(L:BO):Qz L->(ON L).Dis/\(∀p,p∈ON L↔p∈L)/\∀V,(ON L).foldl CQ V=L.foldl CQ V:=by
 refine UH (P:=fun L=>Qz L->(ON L).Dis/\(∀p,p∈ON L↔p∈L)/\∀V,(ON L).foldl CQ V=L.foldl CQ V) (fun _=>⟨List.Pairwise.nil,fun p=>Iff.rfl,fun V=>rfl⟩) (fun L p e c=>?_) L;obtain⟨w,u,y⟩:=e (c.sub fun q j=>List.mem_append_left _ j);rw[YK];cases o:(ON L).look p.1 with
 |none=>
  grind [ak,BO.set_dis]
 |some v=>
  have s:=ST o;have hv:v=p.2:=c (p.1,v) (List.mem_append_left _ ((u _).1 s)) p (by simp) rfl
  grind [Y1,List.mem_singleton,iN]
def PX(L:BO):Bool:=n8 (fun i=>n8 (fun k=>decide ((AA L k).1=(AA L i).1)&&!decide ((AA L k).2=(AA L i).2)) 0 i) 0 L.length
variable{L:BO}
theorem V6(h:PX L=false):Qz L:=by
 intro p o q s e;obtain⟨a,a0,a1,rfl⟩:=Bh o;obtain⟨b,u,w,rfl⟩:=Bh s;unfold PX at h;rw[Bk]at h;by_cases c:a=b
 .rw[c]
 by_cases y:a<b
 .have j:=h b u w;rw[Bk]at j
  grind
 .have j:=h a a0 a1;rw[Bk]at j
  grind
theorem iS(L:BO)(V:List Fp):KO (L.foldl CQ V) V:=by
 induction L generalizing V with
 |nil=>rfl|cons p r c=>exact(c (CQ V p)).trans (WB V p)
end Go.Sf.Sc
namespace Go.Sf.Sc
open Go Go.Sf
variable{t:ej}{p g:d6}{inj:Bool}
theorem dm{m:eb}(h:IK t p g m inj=0):EE t p g=0/\Of t p g m=0/\Vx t p g m:=by grind[Xr,IK]
variable{α:Type}
theorem W5[Inhabited α](l:List α):(A7 l.length).map (AA l)=l:=by grind[dh,d3,BD,Ia]
variable{β:Type}
theorem qJ[Inhabited α](l:List α)(f:α->β):l.map f=(A7 l.length).map fun j=>f (AA l j):=by
 rw [show(fun j=>f (AA l j))=f∘AA l from rfl,<-List.map_map,W5]
theorem qZ(hf:A6 t){m:eb}(h:IK t p g m inj=0):E5 t p g m=some (XI p g m,0):=by
 obtain ⟨c,s,e⟩:=dm h;obtain⟨_,j,y,_⟩:=RK c;unfold E5;rw[TL hf,bs,b6 (by simp[c]),Wf hf c,bs,b6 (by simp[s])];unfold DM;have:=j.ek;have:=j.em;have:=e.AaG;rw[Bq (by unfold At;omega),bs];rw[RL (by omega) (fun x o=>?_) p.d7]
 .rfl
 .obtain⟨i,u,w,rfl⟩:=Bh o;exact(e.node i u w).1
variable{n:Nat}{f:Int->List α->Option (List α)}
theorem Pa(q:Int->Bool)(F:Int->α)(h:∀i s,0<=i->i<(n:Int)->s.length<=i.toNat->f i s=some (if q i=true then s++[F i]else s)):pq f 0 n []=some (((A7 n).filter q).map F):=by
 have c:∀k:Nat,(((A7 k).filter q).map F).length<=k:=fun k=>by
  rw [d3];exact Nat.le_trans (List.length_filter_le _ _) (by rw[BD];exact bk _)
 have:=Bz (f:=f) (s:=[]) (fun i=>((A7 i.toNat).filter q).map F) (a:=0) (b:=n) (by omega) rfl (fun i e j=>by
  grind [I9])
 grind
theorem iO{q:Int->Bool}{F:Int->α}:decide (0<((((A7 n).filter q).map F).length:Int))=n8 q 0 n:=by
 rw [Bool.eq_iff_iff,zzX,Cf,d3];constructor
 .intro h;have c:(A7 n).filter q≠[]:=fun e=>by rw[e]at h;simp at h
  obtain ⟨x,u⟩:=List.exists_mem_of_ne_nil _ c
  grind [ET]
 .rintro⟨i,j,o,s⟩;have:i∈(A7 n).filter q:=List.mem_filter.2 ⟨ET.2 ⟨j,o⟩,s⟩
  grind
theorem ew{x:Bt}(c:x.m.d5.length<=1000):C5 x=some (FN x.m.d5 x.gn.d5):=by
 unfold C5;rw[Pa (fun i=>!hasB x.gn.d5 i) (AA x.m.d5)]
 .rfl
 grind [AD,Ks,hasB,AY,At]
theorem cN{x:Bt}(c:x.m.d5.length<=1000)(he:x.g.d7.length<=1000):Cz x=some ((A7 x.g.d7.length).filter (RB x.g x.gn x.m)):=by
 unfold Cz;rw[ew c,bs,Pa (RB x.g x.gn x.m) id]
 .rw[bs,List.map_id]
 .intro i s e j o;rw[AD e j,bs,Ks,bs,Ks,bs,Ks,bs];unfold RB;change (if(!hasB x.m.d7 i)=true then(if hasB (FN x.m.d5 x.gn.d5) (AA x.g.d7 i).nd=true then some true else some (hasB (FN x.m.d5 x.gn.d5) (AA x.g.d7 i).To)).bind _ else some false).bind _=_;cases hasB x.m.d7 i<;>cases hasB (FN x.m.d5 x.gn.d5) (AA x.g.d7 i).nd<;>cases hasB (FN x.m.d5 x.gn.d5) (AA x.g.d7 i).To<;>simp[AY (show s.length+[i].length<=At by simp;unfold At;omega)]
variable{a i:Int}
theorem PT{p:Int->Bool}(h:a<=i):n8 p a (i+1)=(n8 p a i||p i):=by
 rw [Bool.eq_iff_iff,Bool.or_eq_true,Cf,Cf]
 grind
theorem cT{images gn:Fp}(J:images.length<=100){f:Int->Int->List Je->Option (List Je)}(hf:∀(i j:Int)s,0<=i->i<images.length->i<j->j<images.length->s.length<=20000->f i j s=some (if(decide (AA images i=AA images j)&&(!hasB gn i||!hasB gn j))=true then s++[Je.mk i j]else s)):
  ∃l,pq (fun(e:Int)(u:List Je)=>(pq (fun(o:Int)(c:List Je)=>f e o c) (AK (e+1)) (images.length:Int) u).bind fun c=>some c) 0 (images.length:Int) []=some l/\l.length<=10000/\decide (0<l.length)=AaH images gn:=by
 have key:=M7 (f:=fun(e:Int)(u:List Je)=>(pq (fun(o:Int)(c:List Je)=>f e o c) (AK (e+1)) (images.length:Int) u).bind fun c=>some c) (s:=[])
  (fun i s=>(s.length:Int)<=100*i/\decide (0<s.length)=n8 (fun a=>n8 (fun b=>decide (AA images a=AA images b)&&(!hasB gn a||!hasB gn b)) (a+1) images.length) 0 i) (a:=0) (b:=images.length) (by omega)
  (by refine⟨by simp,?_⟩;rw[Bk.2 (fun i z D=>by omega)];rfl) (fun i s e E F=>by
   have w:=M7 (f:=fun(o:Int)(c:List Je)=>f i o c) (s:=s)
    (fun j s'=>(s'.length:Int)<=100*i+(j-(i+1))/\decide (0<s'.length)=(decide (0<s.length)||n8 (fun b=>decide (AA images i=AA images b)&&(!hasB gn i||!hasB gn b)) (i+1) j)) (a:=i+1) (b:=images.length) (by omega)
    (by refine⟨by have:=F.1;omega,?_⟩;rw[Bk.2 (fun i z D=>by omega),Bool.or_false]) (fun j s' K G y=>by
     refine ⟨_,hf i j s' e E (by omega) G (by have:=y.1;omega),?_,?_⟩
     .grind
     .rw[PT (by omega),<-Bool.or_assoc,<-y.2]
      grind)
   grind [AW,PT])
 obtain ⟨l,H,N,I⟩:=key;exact⟨l,H,by omega,I⟩
theorem aQ{images gn:Fp}(G:images.length<=100):∃l,FZ images gn=some l/\l.length<=10000/\decide (0<l.length)=AaH images gn:=by
 unfold FZ;obtain⟨l,N,O⟩:=cT (gn:=gn) G (f:=fun c e F=>
  (idx images c).bind fun o=>
  (idx images e).bind fun u=>
  (if(decide (o=u))=true then((slices_Contains_int gn c).bind fun w=>
  (if(!w)=true then some true else((slices_Contains_int gn e).bind fun y=>
  some (!y))).bind fun z=>
  some (z))else some false).bind fun D=>
  if D=true then
  (AZ F [Je.mk c e]).bind fun E=>
  some E
  else
  some F) (fun i j s c H J I K=>by
   have hh:∀(l:Fp)(v:Int),slices_Contains_int l v=some (hasB l v):=Ks;simp[AD c H,AD (show 0<=j by omega) I,hh]
   grind [AA,hasB,AY,At])
 grind
theorem Ye{images gn:Fp}(z:n<=1000)(hi:∀x∈images,0<=x/\x<n):GD n images gn=some (BI (FN images gn) n):=by
 unfold GD JH;rw[az (by omega),bs];rw[Bz (fun i=>(A7 n).map fun k=>n8 (fun j=>!hasB gn j&&decide (AA images j=k)) 0 i) (by omega)]
 .rw[bs,d3,BD,Pa (fun i=>!hasB (FN images gn) i) id]
  .rw[bs,List.map_id];rfl
  .intro i s c o F;rw[AD c (by rw[d3,BD];exact o),bs,Ia _ c o];have e:n8 (fun j=>!hasB gn j&&decide (AA images j=i)) 0 images.length=hasB (FN images gn) i:=by
    rw [Bool.eq_iff_iff,Cf,CR,SQ];constructor
    .rintro⟨j,w,y,h⟩;rw[tg,zzX]at h
     grind [CR]
    .rintro⟨j,⟨w,y⟩,H,h⟩;refine⟨j,w,y,?_⟩;rw[tg,zzX]
     grind [hasB,CR]
   grind [hasB,FN,AY,At]
 .refine List.ext_getElem (by simp[BD]) (fun k D E=>?_)
  grind [Int.toNat_natCast,Bk]
 .intro i c o;have u:=hi _ (AF c o);have hh:∀(l:Fp)(v:Int),slices_Contains_int l v=some (hasB l v):=Ks;rw[AD c o,bs,hh,bs];cases G:hasB gn i
  .rw[az (by decide),AD u.1 (by rw[d3,BD];exact u.2),bs,KH _ u.1]
   grind [Dw,PT,AA]
  grind [Dw,PT]
theorem oW{a b:Nat}(c:a<=10000)(e:b<=10000):decide (0<AK ((a:Int)+(b:Int)))=(decide (0<a)||decide (0<b)):=by
 rw [AW (by omega) (by omega),Bool.eq_iff_iff,Bool.or_eq_true]
 grind
theorem qU{l g:d6}{gn:Bo}{m:eb}(y:Q1 gn):GK l g gn m=some (Q9 l g gn m):=by
 unfold GK Cn Q9;simp only[];rw[XM,bs,aR y,bs];by_cases j:¬Hz l g m=0
 .grind
 have j:=Classical.not_not.1 j;rw[b6 (by simp[j]),bs,b6 (show¬Hz l g m≠0 by simp[j])];refine FM fun J=>?_;have c:=Ux j;have a1:=c.ga.ek;have a2:=c.ga.em;have a3:=c.AaG;have O:=c.AaR;have P:=c.gb.ek;have Q:=c.gb.em;unfold DX;obtain⟨u,z,D,E⟩:=aQ (gn:=gn.d5) (images:=m.d5) (by omega);obtain⟨v,G,H,I⟩:=aQ (gn:=gn.d7) (images:=m.d7) (by omega);simp only[];rw[z,bs,G,bs,bs];simp only[];rw[oW D H,E,I];refine dl fun K=>?_;rw[cN (by show m.d5.length<=1000;omega) (by show g.d7.length<=1000;omega),bs];have e:=iO (n:=g.d7.length) (q:=RB g gn m) (F:=id);rw[List.map_id]at e;rw[e];refine dl fun N=>?_;rw[Ye (by omega) (fun x o=>?_),bs,Ye (by omega) (fun x o=>?_),bs]
 .rfl
 .obtain⟨i,s,w,rfl⟩:=Bh o;exact(c.edge i s w).1
 .obtain⟨i,s,w,rfl⟩:=Bh o;exact(c.node i s w).1
end Go.Sf.Sc
namespace Go.Sf.Sc
open Go Go.Sf
variable{α β:Type}
theorem YJ[Inhabited α]{l:List α}{F:α->β}{f:Int->List β->Option (List β)}(h:∀(i:Int)s,0<=i->i<l.length->s.length<=i.toNat->f i s=some (s++[F (AA l i)])):pq f 0 l.length []=some (l.map F):=by
 have:=Bz (f:=f) (s:=[]) (fun i=>(l.take i.toNat).map F) (a:=0) (b:=l.length) (by omega) (by simp) (fun i c e=>by
  grind [d3,ca,B3])
 rwa [Int.toNat_natCast,List.take_length]at this
variable{n:Nat}{l:Fp}
theorem aT(G:n<=1000)(y:l.length<=1000)(o:l.Pairwise (·<·)):Ke n l=some (JN n l):=by
 unfold Ke JH;rw[az (by omega),bs,Int.toNat_natCast,List.length_replicate,Bz (fun i=>(A7 n).map fun j=>if j<i then EF l j else 0) (by omega)]
 .rw[bs];congr 1;exact Dw fun j z s=>az s
 .refine List.ext_getElem (by simp[BD]) (fun k D H=>?_);have e:(A7 n)[k]'(by simpa[BD]using D)=(k:Int):=by simp[A7]
  simp only[List.getElem_map,List.getElem_replicate,e];rw[b6 (by omega)]
 .intro i u F;rw[Ra y o,bs,AD u (by rw[d3,BD];exact F),bs];have e:∀v:Int,v=EF l i->some (BN ((A7 n).map fun j=>if j<i then EF l j else 0) i v)=some ((A7 n).map fun j=>if j<i+1 then EF l j else 0):=by
   rintro v rfl;rw[KH _ u];congr 1;refine Dw fun j z s=>?_;by_cases e:j=i
   .rw[az e,az (by omega),e]
   .rw[b6 e];by_cases w:j<i
    .rw[az w,az (by omega)]
    .rw[b6 w,b6 (by omega)]
  cases c:hasB l i with
  |false=>
   rw [az (by rfl)];exact e _ (Vf fun E=>by rw[CR.2 E]at c;cases c).symm
  |true=>
   rw [b6 (by simp)];exact e _ (Tt o (CR.1 c))
structure UL(count:Nat)(gn into at_:Fp):Prop where
 few:count<=1000
 nodup:into.Nodup
 len:into.length=gn.length
 inn:∀x∈into,0<=x/\x<count
 kin:∀x∈gn,0<=x/\x<at_.length
 pos:∀x∈gn,0<=AA at_ x
theorem ip(c:l.Nodup)(h:∀x∈l,0<=x/\x<n):l.length<=n:=by
 have:=List.Nodup.length_le_of_subset (l₁:=l) (l₂:=A7 n) c (fun x e=>ET.2 (h x e))
 rwa [BD]at this
variable{i:Int}
theorem VK(h:0<=i):((BI l (i+1)).length:Int)=(BI l i).length+if i∈l then 0 else 1:=by grind[Mi,cE,hasB,CR]
theorem S9{gn into at_:Fp}{n i:Int}(h:i∈into):Q8 gn into at_ n i=AA at_ (AA gn (EF into i)):=by grind[Q8,CR]
theorem Ts{gn into at_:Fp}{n i:Int}(h:i∉into):Q8 gn into at_ n i=n+(BI into i).length:=by grind[Q8,CR]
variable{count:Nat}
theorem Wc{gn into c o:Fp}{n:Int}(h:UL count gn into (c.map (AA o)))(J:∀x∈c,0<=x/\x<o.length)(S:0<=n)(U:n<=1000):GA count gn into c o n=some (Tr count gn into (c.map (AA o)) n):=by
 have X:=h.few;have K:=ip h.nodup h.inn;have N:=h.len;unfold GA D6;rw[az (by refine⟨rfl,by omega,by omega⟩),bs,Int.toNat_natCast];rw[Bz (fun i=>(A7 count).map fun k=>if 0<=EF into k/\EF into k<i then Q8 gn into (c.map (AA o)) n k else -1) (by omega)]
 .rw[bs,d3,BD,Bz (fun i=>(n+((BI into i).length:Int),(A7 count).map fun k=>if k<i\/k∈into then Q8 gn into (c.map (AA o)) n k else -1)) (by omega)]
  .rw[bs];congr 1;exact Dw fun j G E=>az (.inl E)
  .show _=(n,_);congr 1
   .simp[BI]
   .refine Dw fun j G E=>?_;have I:=RQ (l:=into) (v:=j);have O:=TB into j;by_cases e:j∈into
    .rw[az (.inr e),az ⟨I.2 e,O.2⟩]
    .rw[b6 (by rintro(s|s);omega;exact e s),b6 fun s=>e (I.1 s.1)]
  .intro i w z;have Y:=QC (l:=into) w;rw[AD w (by rw[d3,BD];exact z),bs,Ia _ w z];by_cases hi:i∈into
   .have P:=HH hi;have H:=AF (l:=gn) P.1 (by have:=h.len;omega);have Z:=h.pos _ H;rw[az (show i<i\/i∈into from .inr hi),S9 hi,b6 (by rw[zzX];omega),VK w,az hi,Int.add_zero];congr 2;refine Dw fun j G E=>?_;by_cases e:j<i\/j∈into
    .rw[az e,az (e.imp (fun h=>by omega) id)]
    .rw[b6 e,b6];rintro(s|s)
     .have:j=i:=by
       have:=fun hh=>e (.inl hh);omega
      exact e (.inr (this▸hi))
     .exact e (.inr s)
   .rw[b6 (show¬(i<i\/i∈into)by rintro(s|s);omega;exact hi s),az (by decide),bs,VK w,b6 hi,AW (by simp;omega) (by simp;omega),KH _ w,Int.add_assoc];congr 2;refine Dw fun j G E=>?_;by_cases y:j=i
    .rw[az y,az (.inl (by omega)),y,Ts hi]
    .rw[b6 y];by_cases e:j<i\/j∈into
     .rw[az e,az (e.imp (fun h=>by omega) id)]
     .rw[b6 e,b6];rintro(s|s)
      .exact e (.inl (by omega))
      .exact e (.inr s)
 .refine List.ext_getElem (by simp[BD]) (fun k V W=>?_);simp only[List.getElem_map,List.getElem_replicate];rw[b6 (by omega)];rfl
 .intro i w z;have D:=h.inn _ (AF w z);have H:=AF (l:=gn) w (by have:=h.len;omega);have u:=h.kin _ H;rw[d3]at u;have F:=J _ (AF u.1 u.2);rw[AD w z,bs,AD w (by have:=h.len;omega),bs,AD u.1 u.2,bs,AD F.1 F.2,bs,AD D.1 (by rw[d3,BD];exact D.2),bs,KH _ D.1];congr 1;refine Dw fun j G E=>?_;by_cases y:j=AA into i
  .have e:=ij h.nodup w z;rw[az y,y,e,az ⟨w,by omega⟩,S9 (AF w z),e,L4 u.1 u.2]
  .rw[b6 y];by_cases e:0<=EF into j/\EF into j<i
   .rw[az e,az ⟨e.1,by omega⟩]
   .rw[b6 e,b6];rintro⟨s,h2⟩;have Q:EF into j=i:=by
     have:=fun hh=>e ⟨s,hh⟩;omega
    have:=(HH (RQ.1 s)).2.2.1;rw[Q]at this;exact y this.symm
end Go.Sf.Sc
namespace Go.Sf.Sc
open Go Go.Sf
def Ft(h:gt)(d:Bo):eb:=⟨JN h.d6.d5.length d.d5,JN h.d6.d7.length d.d7⟩
def w8(r:hO)(h:gt)(m:eb)(d:Bo):eb:=
 ⟨Tr r.fu.d6.d5.length r.tl.d5 r.sr.d5 (m.d5.map (AA (Ft h d).d5)) d.d5.length,
 Tr r.fu.d6.d7.length r.tl.d7 r.sr.d7 (m.d7.map (AA (Ft h d).d7)) d.d7.length⟩
def Tz(t:ej)(k:Int):Fp:=(Au t k).map fun x=>x.Low
def Vg(tr:Fp)(e:Bc):Bc:=⟨e.mt,AA tr e.nd,AA tr e.To⟩
def SY(r:hO)(x:gt)(i:Int):Fp:=x.d6.d5++(BI r.sr.d5 i).map (AA r.fu.d6.d5)
def SZ(t:ej)(r:hO)(x:gt)(i:Int):List Fp:=x.gp++(BI r.sr.d5 i).map fun k=>Tz t (AA r.fu.d6.d5 k)
def T1(r:hO)(c:eb)(x:gt)(i:Int):List Bc:=x.d6.d7++(BI r.sr.d7 i).map fun k=>Vg c.d5 (AA r.fu.d6.d7 k)
def Cb(t:ej)(r:hO)(x:gt)(c:eb):gt:=⟨⟨SY r x r.fu.d6.d5.length,T1 r c x r.fu.d6.d7.length⟩,SZ t r x r.fu.d6.d5.length⟩
def CM(h:gt)(d:Bo):gt:=⟨⟨d.d5.map (AA h.d6.d5),d.d7.map fun x=>Vg (Ft h d).d5 (AA h.d6.d7 x)⟩,d.d5.map (AA h.gp)⟩
structure L0(x:gt):Prop where
 ek:x.d6.d5.length<=1000
 em:x.d6.d7.length<=1000
 vals:x.gp.length<=1000
 rows:∀v∈x.gp,v.length<=1000
structure dQ(t:ej)(r:hO)(c:eb):Prop where
 hf:A6 t
 hv:(A1 t).2=0
 g:CN r.fu.d6
 kind:∀n∈r.fu.d6.d5,0<=n/\n<t.d5.length
 cn:c.d5.length=r.fu.d6.d5.length
variable{x:gt}
theorem cM(h:L0 x):JM x=some x:=by
 have:=h.ek;have:=h.em;have:=h.vals;unfold JM slices_Clone_int DM;rw[Bq (by unfold At;omega),bs,Bq (by unfold At;omega),bs];rw[Bz (fun i=>gt.mk x.d6 (x.gp.take i.toNat)) (by omega) (by rfl)]
 .rw[Int.toNat_natCast,List.take_length];rfl
 .intro i c e;have:=h.rows _ (AF c e)
  grind [AD,Bq,At,AY,B3]
variable{α:Type}{i:Int}
theorem HM(l:Fp)(F:Int->α)(h:0<=i):(BI l (i+1)).map F=(BI l i).map F++if i∈l then[]else[F i]:=by grind[Mi,hasB,CR]
variable{t:ej}
theorem nO(hf:A6 t)(hv:(A1 t).2=0){k:Int}(e:0<=k)(c:k<t.d5.length):I3 t k=some (Tz t k):=by
 have:=HP hf (Int.le_refl _) (C8 hv).par c;unfold I3;rw[Qs hf,Jw hv e c,bs];simp;rw[YJ (F:=fun a=>a.Low) fun j s o u w=>?_]
 .rfl
 grind [AD,AY,At]
structure lD(h:gt)(d:Bo):Prop where
 sm:L0 h
 len:h.gp.length=h.d6.d5.length
 ek:(∀x∈d.d5,0<=x/\x<h.d6.d5.length)/\d.d5.length<=1000
 em:(∀x∈d.d7,0<=x/\x<h.d6.d7.length)/\d.d7.length<=1000
 ends:∀e∈h.d6.d7,(0≤e.nd/\e.nd<h.d6.d5.length)/\0≤e.To/\e.To<h.d6.d5.length
variable{R:hO}{M:AS}{h:gt}{C:eb}
theorem nK{d:Bo}(s:dQ t R C)(hd:lD h d)(H:C.d7.length=R.fu.d6.d7.length)
  (y:∀i:Int,0<=i->i<R.fu.d6.d5.length->(AA C.d5 i=d.d5.length+(BI R.sr.d5 i).length↔i∉R.sr.d5))
  (z:∀i:Int,0<=i->i<R.fu.d6.d7.length->(AA C.d7 i=d.d7.length+(BI R.sr.d7 i).length↔i∉R.sr.d7)):
  Hr t (A9.mk R M h (gt.mk (d6.mk [] []) []) (Ft h d) C) d=some (A9.mk R M h (Cb t R (CM h d) C) (Ft h d) C):=by
 have I:=hd.ek.2;have J:=hd.em.2;have K:=s.g.ek;have N:=s.g.em;have F:=s.cn;unfold Hr;simp only[];rw[Bz (fun i=>A9.mk R M h (gt.mk (d6.mk ((d.d5.take i.toNat).map (AA h.d6.d5)) []) ((d.d5.take i.toNat).map (AA h.gp))) (Ft h d) C) (by omega) (by simp)]
 rotate_left
 .intro i c j;have o:=hd.ek.1 _ (AF c j);have u:=hd.len;have D:=hd.sm.rows _ (AF o.1 (by omega));rw[AD c j,bs,AD o.1 o.2,bs,AY (by simp;unfold At;omega),bs,AD o.1 (by omega),bs,Bq (by unfold At;omega),bs,AY (by simp;unfold At;omega),bs,JG c j,JG c j]
 rw [bs,Int.toNat_natCast,List.take_length];rw[Bz (fun i=>A9.mk R M h (gt.mk (d6.mk (d.d5.map (AA h.d6.d5)) ((d.d7.take i.toNat).map fun x=>Vg (Ft h d).d5 (AA h.d6.d7 x))) (d.d5.map (AA h.gp))) (Ft h d) C) (by omega) (by simp)]
 rotate_left
 .intro i c j;have o:=hd.em.1 _ (AF c j);have he:=hd.ends _ (AF o.1 o.2);have u:(Ft h d).d5.length=h.d6.d5.length:=OB _ _;simp only[];rw[AD c j,bs,AD o.1 o.2,bs,AD he.1.1 (by omega),bs,AD he.2.1 (by omega),bs,AY (by simp;unfold At;omega),bs,JG c j];rfl
 rw [bs,Int.toNat_natCast,List.take_length];rw[Bz (fun i=>A9.mk R M h (gt.mk (d6.mk (SY R (CM h d) i) (CM h d).d6.d7) (SZ t R (CM h d) i)) (Ft h d) C) (by omega) (by unfold SY SZ;simp[BI,CM])]
 rotate_left
 .intro i c j;have D:=QC (l:=R.sr.d5) c;have G:=AF c j;have E:=s.kind _ G;have u:(SY R (CM h d) i).length=d.d5.length+(BI R.sr.d5 i).length:=by unfold SY CM;simp
  have w:(SZ t R (CM h d) i).length=d.d5.length+(BI R.sr.d5 i).length:=by unfold SZ CM;simp
  simp only[u];rw[AD c j,bs,AD c (by omega),bs];by_cases hi:i∈R.sr.d5
  .rw[b6 (by rw[zzX];push_cast;exact fun e=>(y i c j).1 e hi)];unfold SY SZ;rw[HM _ _ c,az hi,List.append_nil,HM _ _ c,az hi,List.append_nil]
  .rw[az (by rw[zzX];push_cast;exact(y i c j).2 hi),AY (by rw[u];simp;unfold At;omega),bs,nO s.hf s.hv E.1 E.2,bs,AY (by rw[w];simp;unfold At;omega),bs];unfold SY SZ;rw[HM _ _ c,b6 hi,HM _ _ c,b6 hi,d4,d4]
 rw [bs];rw[Bz (fun i=>A9.mk R M h (gt.mk (d6.mk (SY R (CM h d) R.fu.d6.d5.length) (T1 R C (CM h d) i)) (SZ t R (CM h d) R.fu.d6.d5.length)) (Ft h d) C) (by omega) (by unfold T1;simp[BI,CM])]
 rotate_left
 .intro i c j;have D:=QC (l:=R.sr.d7) c;have he:=s.g.fit _ (AF c j);have u:(T1 R C (CM h d) i).length=d.d7.length+(BI R.sr.d7 i).length:=by unfold T1 CM;simp
  simp only[u];rw[AD c j,bs,AD c (by omega),bs];by_cases hi:i∈R.sr.d7
  .rw[b6 (by rw[zzX];push_cast;exact fun e=>(z i c j).1 e hi)];unfold T1;rw[HM _ _ c,az hi,List.append_nil]
  .rw[az (by rw[zzX];push_cast;exact(z i c j).2 hi),AD he.2.1.1 (by omega),bs,AD he.2.2.1 (by omega),bs,AY (by rw[u];simp;unfold At;omega),bs];unfold T1;rw[HM _ _ c,b6 hi,d4];rfl
 rw [bs];rfl
end Go.Sf.Sc
namespace Go.Sf.Sc
open Go Go.Sf
def XS(c:eb)(vars:Fp)(s:Bv):(Int×Int)×Int:=((AA c.d5 s.p0,s.mh),FP s.kg vars)
def Cs(r:hO)(c:eb)(vars:Fp):BO:=r.fu.ff.map (XS c vars)
def Pv(t:ej)(x:gt)(p:(Int×Int)×Int):Bool:=
 decide (p.2<(AA (Au t (AA x.d6.d5 p.1.1)) p.1.2).Low)||decide ((AA (Au t (AA x.d6.d5 p.1.1)) p.1.2).Aam<p.2)
structure UQ(t:ej)(r:hO)(c:eb)(vars:Fp)(x:gt):Prop where
 hf:A6 t
 hv:(A1 t).2=0
 few:r.fu.ff.length<=1000
 fewv:vars.length<=1000
 slot:∀s∈r.fu.ff,(0<=s.p0/\s.p0<c.d5.length)/\(-1<=s.kg.Var/\s.kg.Var<vars.length)/\
  (0<=AA c.d5 s.p0/\AA c.d5 s.p0<x.d6.d5.length)/\(0<=s.mh/\s.mh<(Au t (AA x.d6.d5 (AA c.d5 s.p0))).length)
 kind:∀n∈x.d6.d5,0<=n/\n<t.d5.length
 Ab4:x.gp.length=x.d6.d5.length
 rows:∀i:Int,0<=i->i<x.d6.d5.length->(AA x.gp i).length=(Au t (AA x.d6.d5 i)).length
variable{L:BO}{i:Int}
theorem bX(c:0<=i)(e:i<=L.length)(h:∀j,0<=j->j<i->n8 (fun k=>decide ((AA L k).1=(AA L j).1)&&!decide ((AA L k).2=(AA L j).2)) 0 j=false):Qz (L.take i.toNat):=by grind[V6,PX,Bk,ca,UT,Ol]
def Xw(L:BO)(i:Int):Bool:=n8 (fun k=>decide ((AA L k).1=(AA L i).1)&&!decide ((AA L k).2=(AA L i).2)) 0 i
theorem iG(H:0<=i)(I:i<L.length)(w:Qz (L.take i.toNat)):
  (((ON (L.take i.toNat)).look (AA L i).1).isSome&&(!decide (((ON (L.take i.toNat)).look (AA L i).1).getD 0=(AA L i).2)))=Xw L i:=by
 obtain ⟨J,z,K⟩:=aG _ w;unfold Xw;cases y:(ON (L.take i.toNat)).look (AA L i).1 with
 |none=>
  rw [Option.isSome_none,Bool.false_and];refine Eq.symm (Bk.2 fun k s u=>?_);have o:AA L k∈L.take i.toNat:=by
   rw [<-Ol (n:=i.toNat) (by omega)]
   grind [AF,ca]
  rw [decide_eq_false (WY y _ ((z _).2 o)),Bool.false_and]
 |some v=>
  have o:=(z _).1 (ST y);rw[Option.isSome_some,Bool.true_and,Option.getD_some];have c:∀k,0<=k->k<i->(AA L k).1=(AA L i).1->(AA L k).2=v:=fun k s u e=>by
   have E:AA L k∈L.take i.toNat:=by
    rw [<-Ol (n:=i.toNat) (by omega)]
    grind [AF,ca]
   exact w _ E _ o e
  obtain ⟨k,s,u,D⟩:=Bh o;rw[ca]at u;rw[Ol (by omega)]at D;rw[Bool.eq_iff_iff,Cf];constructor
  .intro h;refine⟨k,s,by omega,?_⟩;rw[D,decide_eq_true rfl,Bool.true_and];exact h
  .rintro⟨j,F,G,h⟩;rw[tg,zzX]at h;rw[<-c j F G h.1];exact h.2
theorem Y5(r:hO)(c:eb)(vars:Fp)(e:0<=i)(j:i<r.fu.ff.length):AA (Cs r c vars) i=XS c vars (AA r.fu.ff i):=L4 e j
theorem PF(r:hO)(c:eb)(vars:Fp):(Cs r c vars).length=r.fu.ff.length:=d3 ..
variable{ρ:Type}
theorem iD(L:BO)(v:ρ):fst (fun i=>if Xw L i=true then some v else none) 0 L.length=if PX L=true then some v else none:=Ny
variable{t:ej}{R:hO}{M:AS}{B A:gt}{T C:eb}
theorem cL(h:UQ t R C M.fq A):HN (A9.mk R M B A T C)=some (if PX (Cs R C M.fq)=true then([],11)else(ON (Cs R C M.fq),0)):=by
 unfold HN;simp only[];rw[M8 (a:=0) (s:=([]:BO)) (fun i=>ON ((Cs R C M.fq).take i.toNat)) (fun i=>if Xw (Cs R C M.fq) i=true then some ([],11)else none) (by omega) rfl]
 .have:=iD (Cs R C M.fq) (([],11):BO×Int);rw[PF]at this;rw[this];by_cases e:PX (Cs R C M.fq)=true
  .rw[az e,az e];rfl
  .rw[b6 e,b6 e,<-PF R C M.fq,Int.toNat_natCast,List.take_length];rfl
 .intro i c o D;have u:=h.slot _ (AF c o);have E:Qz ((Cs R C M.fq).take i.toNat):=bX c (by rw[PF];omega) fun j y z=>by
   have:=D j y z;split at this
   .cases this
   .rename_i e;exact Bool.eq_false_iff.2 e
  have w:=iG (L:=Cs R C M.fq) c (by rw[PF];exact o) E;rw[AD c o,bs,YU u.2.1.1 u.2.1.2 h.fewv,bs,b6 (by simp),AD u.1.1 u.1.2,bs];rw[Y5 R C M.fq c o]at w;simp[XS]at w;simp only[];by_cases e:Xw (Cs R C M.fq) i=true
  .refine(az (w.trans e)).trans ?_;rw[az e];rfl
  .refine(b6 (fun h=>e (w.symm.trans h))).trans ?_;rw[b6 e,B3 c (by rw[PF];exact o),YK,Y5 R C M.fq c o];rfl
variable{α:Type}
theorem aJ{f:α->K1}{g:α->Bool}:∀{l:List α},(∀p∈l,f p=some (g p))->AaQ f l=some (l.all g)
 |[],_=>rfl|p::r,h=>by
  unfold AaQ;rw[h p List.mem_cons_self,bs,aJ fun q c=>h q (List.mem_cons_of_mem _ c),bs,List.all_cons]
variable{r:hO}{x:gt}
theorem jh{c:eb}{vars:Fp}(h:UQ t r c vars x){s:Bv}(w:s∈r.fu.ff){V:List Fp}(y:KO V x.gp):
  idx V (AA c.d5 s.p0)=some (AA V (AA c.d5 s.p0))/\idx (AA V (AA c.d5 s.p0)) s.mh=some (AA (AA V (AA c.d5 s.p0)) s.mh):=by
 have j:=h.slot s w;have hv:=h.Ab4;have F:=h.rows _ j.2.2.1.1 j.2.2.1.2;have z:idx x.gp (AA c.d5 s.p0)=some (AA x.gp (AA c.d5 s.p0)):=AD j.2.2.1.1 (by omega);have D:idx (AA x.gp (AA c.d5 s.p0)) s.mh=some (AA (AA x.gp (AA c.d5 s.p0)) s.mh):=AD j.2.2.2.1 (by omega);obtain⟨E,x',a,b⟩:=y.idx z D;have o:=GU a;have u:=GU b;have G:=(List.getElem?_eq_some_iff.1 o.2.2).1;have e:AA V (AA c.d5 s.p0)=E:=by
  grind [AD,Option.some.inj]
 have H:=(List.getElem?_eq_some_iff.1 u.2.2).1;refine⟨AD o.1 (by omega),?_⟩;rw[e];exact AD u.1 (by omega)
theorem iL(h:UQ t R C M.fq A){p:(Int×Int)×Int}(o:p∈Cs R C M.fq):NS t (A9.mk R M B A T C) p=some (!Pv t A p):=by
 obtain ⟨s,j,rfl⟩:=List.mem_map.1 o;have c:=h.slot s j;have e:=h.kind _ (AF c.2.2.1.1 c.2.2.1.2);obtain⟨u,w⟩:=jh h j (V:=A.gp) rfl;unfold NS NR XS Pv;simp;rw[AD c.2.2.1.1 c.2.2.1.2,bs,Qs h.hf,Jw h.hv e.1 e.2,bs];simp;simp[AD c.2.2.2.1 c.2.2.2.2,u,w,Vi]
 grind
def Ix(t:ej)(x:gt)(L:BO):gt×Int:=
 if PX L=true then(⟨⟨[],[]⟩,[]⟩,11)else if L.any (Pv t x)=true then(⟨⟨[],[]⟩,[]⟩,6)else(⟨x.d6,L.foldl CQ x.gp⟩,0)
theorem qX(h:UQ t R C M.fq A):KJ t (A9.mk R M B A T C)=some ((Ix t A (Cs R C M.fq)).2,if(Ix t A (Cs R C M.fq)).2=0 then A9.mk R M B (Ix t A (Cs R C M.fq)).1 T C else A9.mk R M B A T C):=by
 unfold KJ Ix;rw[cL h,bs];by_cases e:PX (Cs R C M.fq)=true
 .grind
 .rw[b6 e,b6 (by simp),b6 e];obtain⟨o,s,u⟩:=aG _ (V6 (Bool.eq_false_iff.2 e));have j:AaQ (NS t (A9.mk R M B A T C)) (ON (Cs R C M.fq))=some (!(Cs R C M.fq).any (Pv t A)):=by
   rw [aJ (g:=fun p=>!Pv t A p) fun p c=>iL h ((s p).1 c)]
   grind
  rw [az (by simpa using(show List.Pairwise (fun x y:(Int×Int)×Int=>x.1≠y.1) _ from o)),j,bs]
  grind [Cs,Pv,Mm]
end Go.Sf.Sc
namespace Go.Sf.Sc
open Go Go.Sf
variable{t:ej}{r:hO}
theorem Rf(h:Cy t r=0):EH t r.kl=0/\Hm t r=0/\HT t r.kl r.ea=0:=by grind[Cy]
theorem Zk(h:Hm t r=0):r.fu.fq=r.kl.fq/\r.fu.ff.length<=10/\∀i:Int,0<=i->i<r.fu.ff.length->LY t r.fu i=0:=by
 unfold Hm at h;split at h
 .omega
 split at h
 .cases h
 split at h
 .cases h
 split at h
 .cases h
 rename_i c e j o;exact⟨by omega,by omega,SN h⟩
variable{i:Int}
theorem cp{p:ed}(h:LY t p i=0):(0<=(AA p.ff i).p0/\(AA p.ff i).p0<p.d6.d5.length)/\
  (0<=(AA p.ff i).mh/\(AA p.ff i).mh<(EW t (AA p.d6.d5 (AA p.ff i).p0)).1.length)/\-1<=(AA p.ff i).kg.Var/\(AA p.ff i).kg.Var<p.fq:=by
 unfold LY at h;dsimp only at h;split at h
 .cases h
 split at h
 .cases h
 rename_i e c;simp[zzX]at c;omega
structure Gr(t:ej)(r:hO)(h:gt)(m:AS):Prop where
 hf:A6 t
 fr:OC r
 re:Cy t r=0
 he:(Dg t h).2=0
 at_:Zq t r.kl h m
 co:XW (XI r.kl.d6 h.d6 m.eb) h.d6 r.tl m.eb
abbrev dS(r:hO)(h:gt)(m:AS):Bo:=Nk h.d6 r.tl m.eb
abbrev cS(r:hO)(h:gt)(m:AS):eb:=w8 r h m.eb (dS r h m)
variable{h:gt}{m:AS}
theorem Gr.hv(s:Gr t r h m):(A1 t).2=0:=(aj s.re).1
theorem Gr.ro(s:Gr t r h m):dV t r:=(aj s.re).2
theorem Gr.hh(s:Gr t r h m):Kq t h:=(Qo s.hf s.he).2
theorem OX(hf:A6 t)(hv:(A1 t).2=0)(hh:Kq t h):L0 h:=by
 have j:=hh.g.ek;have o:=hh.g.em;have s:=hh.len;refine⟨by omega,by omega,by omega,fun v c=>?_⟩;obtain⟨i,e,y,rfl⟩:=Bh c;have u:=hh.row i e (by omega);have w:=HP hf (Int.le_refl _) (C8 hv).par (hh.kind i e (by omega)).2;omega
theorem Gr.rem(s:Gr t r h m):lD h (dS r h m):=by
 have hh:=s.hh;have j:=hh.g.ek;have o:=hh.g.em;have l1:=Ps (FN m.eb.d5 r.tl.d5) h.d6.d5.length;have l2:=Ps (FN m.eb.d7 r.tl.d7) h.d6.d7.length;exact⟨OX s.hf s.hv hh,hh.len,⟨fun x c=>FJ c,by show(BI _ _).length<=1000;omega⟩,⟨fun x c=>FJ c,by show(BI _ _).length<=1000;omega⟩,fun e he=>(hh.g.fit e he).2⟩
theorem Gr.part(s:Gr t r h m):Du h.d6 (dS r h m)=0:=by
 unfold Du;rw[b6 (by simp[s.hh.ge])];exact fZ s.co
variable{count n:Nat}
theorem dr{gn into images:Fp}{BC:Fp}(few:count<=1000)(nodup:into.Nodup)(len:into.length=gn.length)(inn:∀x∈into,0<=x/\x<count)
  (kin:∀x∈gn,0<=x/\x<images.length)(j:∀x∈images,0<=x/\x<n)(hi:AaH images gn=false)(o:BC=FN images gn):
  UL count gn into (images.map (AA (JN n (BI BC n))))/\(∀x∈gn,AA (images.map (AA (JN n (BI BC n)))) x<(BI BC n).length)/\
  ∀x∈gn,AA (images.map (AA (JN n (BI BC n)))) x=EF (BI BC n) (AA images x)/\AA images x∈BI BC n:=by
 have e:∀x∈gn,AA (images.map (AA (JN n (BI BC n)))) x=EF (BI BC n) (AA images x)/\AA images x∈BI BC n:=fun x c=>by
  grind [AF,L4,ZC,Od,SS]
 refine ⟨⟨few,nodup,len,inn,fun x c=>by rw[d3];exact kin x c,fun x c=>?_⟩,fun x c=>?_,e⟩
 .rw[(e x c).1];exact RQ.2 (e x c).2
 .rw[(e x c).1];exact(TB _ _).2
theorem Gr.left(s:Gr t r h m):m.eb.d5.length=r.kl.d6.d5.length/\m.eb.d7.length=r.kl.d6.d7.length:=⟨s.at_.m.AaG,s.at_.m.AaR⟩
theorem Gr.Ab3(s:Gr t r h m):UL r.fu.d6.d5.length r.tl.d5 r.sr.d5 (m.eb.d5.map (AA (Ft h (dS r h m)).d5))/\
  (∀x∈r.tl.d5,AA (m.eb.d5.map (AA (Ft h (dS r h m)).d5)) x<(dS r h m).d5.length)/\
  ∀x∈r.tl.d5,AA (m.eb.d5.map (AA (Ft h (dS r h m)).d5)) x=EF (dS r h m).d5 (AA m.eb.d5 x)/\AA m.eb.d5 x∈(dS r h m).d5:=by
 have ro:=s.ro;have o:=ro.right.ek;refine dr (by omega) ro.inj.1 ?_ (fun x c=>?_) (fun x c=>?_) (fun x c=>?_) s.co.ek rfl
 .have:=ro.mor.AaG;rw[this];exact d3 ..
 .obtain⟨i,e,j,rfl⟩:=Bh c;exact(ro.mor.node i e j).1
 .have:=ro.part.ek.1 x c;have:=s.left.1;omega
 .obtain⟨i,e,j,rfl⟩:=Bh c;exact(s.at_.m.node i e j).1
theorem Gr.comE(s:Gr t r h m):UL r.fu.d6.d7.length r.tl.d7 r.sr.d7 (m.eb.d7.map (AA (Ft h (dS r h m)).d7))/\
  (∀x∈r.tl.d7,AA (m.eb.d7.map (AA (Ft h (dS r h m)).d7)) x<(dS r h m).d7.length)/\
  ∀x∈r.tl.d7,AA (m.eb.d7.map (AA (Ft h (dS r h m)).d7)) x=EF (dS r h m).d7 (AA m.eb.d7 x)/\AA m.eb.d7 x∈(dS r h m).d7:=by
 have ro:=s.ro;have o:=ro.right.em;refine dr (by omega) ro.inj.2 ?_ (fun x c=>?_) (fun x c=>?_) (fun x c=>?_) s.co.em rfl
 .have:=ro.mor.AaR;rw[this];exact d3 ..
 .obtain⟨i,e,j,rfl⟩:=Bh c;exact(ro.mor.edge i e j).1
 .have:=ro.part.em.1 x c;have:=s.left.2;omega
 .obtain⟨i,e,j,rfl⟩:=Bh c;exact s.at_.m.edge i e j
theorem Z2{gn into at_:Fp}(h:UL count gn into at_)(c:∀x∈gn,AA at_ x<n)(j:0<=i)(o:i<count):AA (Tr count gn into at_ n) i=n+(BI into i).length↔i∉into:=by
 rw [dn j o];constructor
 .intro e hi;rw[S9 hi]at e;have s:=HH hi;have:=c _ (AF (l:=gn) s.1 (by have:=h.len;omega));omega
 .exact Ts
theorem Gr.grow(s:Gr t r h m):dQ t r (cS r h m):=
 ⟨s.hf,s.hv,s.ro.right,(GN s.ro.right s.ro.Abt).1,VZ _ _ _ _ _⟩
theorem Tf(l:Fp)(c:0<=i):∀(k:Nat),∃s,BI l (i+k)=BI l i++s
 |0=>⟨[],by simp⟩|k+1=>by
  obtain ⟨s,e⟩:=Tf l c k
  grind [Mi,d4]
variable{l:Fp}
theorem jg{i n:Int}(c:0<=i)(j:i<n)(h:i∉l):AA (BI l n) (BI l i).length=i/\((BI l i).length:Int)<(BI l n).length:=by
 obtain ⟨s,e⟩:=Tf l (i:=i+1) (by omega) (n-(i+1)).toNat
 rw [show i+1+((n-(i+1)).toNat:Int)=n by omega,Mi l c]at e
 grind [hasB,CR,AA]
variable{α:Type}
theorem df[Inhabited α]{l m:List α}(c:0<=i)(e:i<l.length):AA (l++m) i=AA l i:=by grind[Ll]
theorem Xm[Inhabited α]{l m:List α}:AA (l++m) (l.length+n:Int)=AA m n:=by grind[Ll,AA,Int.toNat_natCast]
variable{a:Int}
theorem iW(h:0<=a):Gv t a a=true:=by
 unfold Gv;rw[show(a+1).toNat=a.toNat+1 by omega,IZ,b6 (by omega)];simp
theorem Gr.AbP(s:Gr t r h m)(u:0<=i)(w:i<r.fu.d6.d5.length):
  (0<=AA (cS r h m).d5 i/\AA (cS r h m).d5 i<(Cb t r (CM h (dS r h m)) (cS r h m)).d6.d5.length)/\
  AA (Cb t r (CM h (dS r h m)) (cS r h m)).d6.d5 (AA (cS r h m).d5 i)<t.d5.length/\Gv t (AA (Cb t r (CM h (dS r h m)) (cS r h m)).d6.d5 (AA (cS r h m).d5 i)) (AA r.fu.d6.d5 i)=true:=by
 obtain ⟨G,N,c3⟩:=s.Ab3;have H:AA (cS r h m).d5 i=Q8 r.tl.d5 r.sr.d5 (m.eb.d5.map (AA (Ft h (dS r h m)).d5)) (dS r h m).d5.length i:=dn u w;have el:(Cb t r (CM h (dS r h m)) (cS r h m)).d6.d5=(dS r h m).d5.map (AA h.d6.d5)++(D3 r).map (AA r.fu.d6.d5):=rfl;rw[H,el,cE,d3,d3];by_cases hi:i∈r.sr.d5
 .have c:=HH hi;have O:=G.len;have j:=AF (l:=r.tl.d5) c.1 (by omega);have D:=c3 _ j;have E:=N _ j;have y:=G.pos _ j;rw[S9 hi];refine⟨⟨y,by push_cast;omega⟩,?_⟩;rw[df y (by rw[d3];exact E),L4 y E,D.1,(HH D.2).2.2.1];have o:=s.ro.part.ek.1 _ j;have I:=s.left.1;have z:=s.at_.m.node _ o.1 (by omega);have J:=s.hh.kind _ z.1.1 z.1.2;have F:=s.ro.mor.node _ c.1 c.2.1;rw[c.2.2.1]at F;have K:AA (Cx r.kl.d6 r.tl).d5 (EF r.sr.d5 i)=AA r.kl.d6.d5 (AA r.tl.d5 (EF r.sr.d5 i)):=L4 c.1 (by omega);rw[F.2,K];exact⟨J.2,z.2⟩
 .have o:=jg u w hi;rw[Ts hi];have e:((dS r h m).d5.map (AA h.d6.d5)).length=(dS r h m).d5.length:=d3 ..;refine⟨⟨by omega,?_⟩,?_⟩
  .have:((D3 r).length:Int)=(BI r.sr.d5 r.fu.d6.d5.length).length:=rfl
   push_cast
   omega
  .rw[<-e,Xm,show D3 r=BI r.sr.d5 r.fu.d6.d5.length from rfl,L4 (by omega) o.2];show AA r.fu.d6.d5 (AA (BI r.sr.d5 r.fu.d6.d5.length) (BI r.sr.d5 i).length)<(t.d5.length:Int)/\Gv t (AA r.fu.d6.d5 (AA (BI r.sr.d5 r.fu.d6.d5.length) (BI r.sr.d5 i).length)) _=true;rw[o.1];have:=(GN s.ro.right s.ro.Abt).1 _ (AF u w);exact⟨this.2,iW this.1⟩
theorem Gr.rows(s:Gr t r h m):(Cb t r (CM h (dS r h m)) (cS r h m)).gp.map (fun v=>v.length)=(Cb t r (CM h (dS r h m)) (cS r h m)).d6.d5.map fun n=>(Au t n).length:=by
 show (List.map _ (_++_))=List.map _ (_++_);rw[List.map_append,List.map_append];congr 1
 .show((dS r h m).d5.map (AA h.gp)).map _=((dS r h m).d5.map (AA h.d6.d5)).map _;rw[List.map_map,List.map_map];refine List.map_congr_left fun x c=>?_;have c:=s.rem.ek.1 x c;exact s.hh.row x c.1 c.2
 grind [List.map_map,List.map_congr_left,Tz,d3]
theorem Gr.put(s:Gr t r h m):UQ t r (cS r h m) m.fq (Cb t r (CM h (dS r h m)) (cS r h m)):=by
 obtain ⟨P,H,Q⟩:=Rf s.re;obtain⟨hv,S,z⟩:=Zk H;have K:=s.at_.q.vars;have D:=s.at_.len;have w:=s.rows;have y:(Cb t r (CM h (dS r h m)) (cS r h m)).gp.length=(Cb t r (CM h (dS r h m)) (cS r h m)).d6.d5.length:=by
  grind [List.length,d3]
 refine ⟨s.hf,s.hv,by omega,by omega,fun x c=>?_,fun n e=>?_,y,fun i j u=>?_⟩
 .obtain⟨i,j,u,rfl⟩:=Bh c;obtain⟨o,I,U⟩:=cp (z i j u);have E:=(GN s.ro.right s.ro.Abt).1 _ (AF o.1 o.2);rw[Jw s.hv E.1 E.2]at I;obtain⟨V,J,F⟩:=s.AbP o.1 o.2;replace F:=WV (C8 s.hv) J F;have G:(cS r h m).d5.length=r.fu.d6.d5.length:=VZ _ _ _ _ _
  grind
 .have e:n∈(dS r h m).d5.map (AA h.d6.d5)++(D3 r).map (AA r.fu.d6.d5):=e;rcases List.mem_append.1 e with e|e
  .obtain⟨x,c,rfl⟩:=List.mem_map.1 e;have c:=s.rem.ek.1 x c;exact s.hh.kind x c.1 c.2
  .obtain⟨x,c,rfl⟩:=List.mem_map.1 e;have c:=FJ c;exact(GN s.ro.right s.ro.Abt).1 _ (AF c.1 c.2)
 .have N:=L4 (l:=(Cb t r (CM h (dS r h m)) (cS r h m)).gp) (g:=fun v=>v.length) j (by omega);have O:=L4 (l:=(Cb t r (CM h (dS r h m)) (cS r h m)).d6.d5) (g:=fun n=>(Au t n).length) j u
  grind
end Go.Sf.Sc
namespace Go.Sf.Sc
open Go Go.Sf
abbrev wB:hO:=hO.mk (⟨#[]⟩:ByteArray) (ed.mk (d6.mk [] []) [] 0 []) (ed.mk (d6.mk [] []) [] 0 []) (Bo.mk [] []) (eb.mk [] []) false (ea.mk 0 [] (eb.mk [] []) (ed.mk (d6.mk [] []) [] 0 []))
abbrev zG:A9:=A9.mk wB (AS.mk (eb.mk [] []) []) (gt.mk (d6.mk [] []) []) (gt.mk (d6.mk [] []) []) (eb.mk [] []) (eb.mk [] [])
def XK(t:ej)(r:hO)(h:gt)(m:AS):A9×Int:=
 if (Ix t (Cb t r (CM h (dS r h m)) (cS r h m)) (Cs r (cS r h m) m.fq)).2≠0 then(zG,(Ix t (Cb t r (CM h (dS r h m)) (cS r h m)) (Cs r (cS r h m) m.fq)).2)else
 if 40<(Ix t (Cb t r (CM h (dS r h m)) (cS r h m)) (Cs r (cS r h m) m.fq)).1.d6.d5.length\/80<(Ix t (Cb t r (CM h (dS r h m)) (cS r h m)) (Cs r (cS r h m) m.fq)).1.d6.d7.length then(zG,3)else
 (A9.mk r m h (Ix t (Cb t r (CM h (dS r h m)) (cS r h m)) (Cs r (cS r h m) m.fq)).1 (Ft h (dS r h m)) (cS r h m),0)
noncomputable def Ju(t:ej)(r:hO)(h:gt)(m:AS):A9×Int:=
 if Cy t r≠0 then(zG,Cy t r)else if(Dg t h).2≠0 then(zG,(Dg t h).2)else
 if IK t r.kl.d6 h.d6 m.eb r.po≠0 then(zG,1)else
 if (ID t r.kl h m.eb).2≠0 then(zG,(ID t r.kl h m.eb).2)else if¬(ID t r.kl h m.eb).1=m.fq then(zG,11)else
 if (Q9 (XI r.kl.d6 h.d6 m.eb) h.d6 r.tl m.eb).2≠0 then(zG,(Q9 (XI r.kl.d6 h.d6 m.eb) h.d6 r.tl m.eb).2)else
 if (Vr t r.kl r.ea h m r.po).2≠0 then(zG,(Vr t r.kl r.ea h m r.po).2)else
 if (Vr t r.kl r.ea h m r.po).1=false then(zG,16)else XK t r h m
variable{t:ej}{r:hO}{h:gt}{m:AS}
theorem Z1(c:Cy t r=0)(e:(Dg t h).2=0)(j:IK t r.kl.d6 h.d6 m.eb r.po=0)(o:(ID t r.kl h m.eb).2=0)(s:(ID t r.kl h m.eb).1=m.fq):V3 t r.kl r.ea h m r.po=0:=by
 unfold V3;rw[b6 (by simp[(Rf c).2.2]),b6 (by simp[e]),b6 (by simp[j]),b6 (by simp[o]),az s]
theorem mz{X:Option (A9×Int)}(c:(Ix t (Cb t r (CM h (dS r h m)) (cS r h m)) (Cs r (cS r h m) m.fq)).2=0->X=
   if ((decide (40<((Ix t (Cb t r (CM h (dS r h m)) (cS r h m)) (Cs r (cS r h m) m.fq)).1.d6.d5.length:Int)))||(decide (80<((Ix t (Cb t r (CM h (dS r h m)) (cS r h m)) (Cs r (cS r h m) m.fq)).1.d6.d7.length:Int))))=true then some (zG,3)else
   some (A9.mk r m h (Ix t (Cb t r (CM h (dS r h m)) (cS r h m)) (Cs r (cS r h m) m.fq)).1 (Ft h (dS r h m)) (cS r h m),0)):
  (if(!decide ((Ix t (Cb t r (CM h (dS r h m)) (cS r h m)) (Cs r (cS r h m) m.fq)).2=0))=true then some (zG,(Ix t (Cb t r (CM h (dS r h m)) (cS r h m)) (Cs r (cS r h m) m.fq)).2)else X)=some (XK t r h m):=by
 unfold XK;refine FM fun e=>?_;rw[c e];refine Nv (by simp;omega) fun _=>rfl
theorem fE(hf:A6 t)(fr:OC r)(F:EP r.ea<=40)(h:gt)(m:AS):Hq t r h m=some (Ju t r h m):=by
 unfold Hq Gh Ju;rw[Lv hf,bs];by_cases hv:¬(A1 t).2=0
 .grind[Cy,A1]
 have hv:=Classical.not_not.1 hv;rw[b6 (by simp[hv]),Yf hf fr,bs,Sh hf,bs];by_cases j:¬Cy t r=0
 .grind
 have j:=Classical.not_not.1 j;rw[b6 (by simp[j]),bs,b6 (show¬Cy t r≠0 by simp[j])];refine FM fun G=>?_;rw[Option.bind_fun_some];unfold Gg IY;rw[Vk hf,bs];by_cases o:¬IK t r.kl.d6 h.d6 m.eb r.po=0
 .grind
 have o:=Classical.not_not.1 o;rw[b6 (by simp[o]),aL hf,bs,b6 (show¬IK t r.kl.d6 h.d6 m.eb r.po≠0 by simp[o])];by_cases w:¬(ID t r.kl h m.eb).2=0
 .grind
 have w:=Classical.not_not.1 w;rw[b6 (by simp[w]),lZ,bs,b6 (show¬(ID t r.kl h m.eb).2≠0 by simp[w])];by_cases y:¬(ID t r.kl h m.eb).1=m.fq
 .grind
 have y:=Classical.not_not.1 y;rw[b6 (by simp[y]),bs,b6 (by simp),b6 (show¬¬(ID t r.kl h m.eb).1=m.fq by simp[y])];rw[qZ hf o,bs,b6 (by simp),qU fr.gn,bs];refine FM fun H=>?_;obtain⟨_,_,_,z⟩:=bU hf F (Z1 j G o w y);obtain⟨co,Q⟩:=Z3 H;rw[Zf hf _ fr.cond F,bs,Q];refine FM fun S=>?_;refine UZ fun U=>?_;have s:Gr t r h m:=⟨hf,fr,j,G,z,co⟩;have u:=s.rem;have V:=s.hh.g.ek;have W:=s.hh.g.em;have l1:=s.left.1;have l2:=s.left.2;have X:=s.ro.left.ek;have Y:=s.ro.left.em;have J:=z.len;have K:=z.q.vars;have E:IX m=some m:=by
  unfold IX slices_Clone_int;rw[Bq (by unfold At;omega),bs,Bq (by unfold At;omega),bs,Bq (by unfold At;omega),bs]
 simp only[];rw[E,bs,cM u.sm,bs];rw[aT (by omega) u.ek.2 (Pr _ _),bs,aT (by omega) u.em.2 (Pr _ _),bs];have N:GA r.fu.d6.d5.length r.tl.d5 r.sr.d5 m.eb.d5 (JN h.d6.d5.length (dS r h m).d5) (Nk h.d6 r.tl m.eb).d5.length=some (cS r h m).d5:=
  Wc s.Ab3.1 (fun x D=>by rw[OB];obtain⟨i,c,e,rfl⟩:=Bh D;exact(z.m.node i c e).1) (by omega) (Int.ofNat_le.2 u.ek.2)
 have O:GA r.fu.d6.d7.length r.tl.d7 r.sr.d7 m.eb.d7 (JN h.d6.d7.length (dS r h m).d7) (Nk h.d6 r.tl m.eb).d7.length=some (cS r h m).d7:=
  Wc s.comE.1 (fun x D=>by rw[OB];obtain⟨i,c,e,rfl⟩:=Bh D;exact z.m.edge i c e) (by omega) (Int.ofNat_le.2 u.em.2)
 rw [N,bs,O,bs];have P:=nK (M:=m) s.grow u (VZ _ _ _ _ _) (fun i c e=>Z2 s.Ab3.1 s.Ab3.2.1 c e) (fun i c e=>Z2 s.comE.1 s.comE.2.1 c e);change ((Hr t (A9.mk r m h (gt.mk (d6.mk [] []) []) (Ft h (dS r h m)) (cS r h m)) (dS r h m)).bind _)=_;rw[P,bs,qX s.put,bs];exact mz fun I=>by rw[az I]
end Go.Sf.Sc
namespace Go.Sf.Sc
open Go Go.Sf
instance:Inhabited hO:=⟨wB⟩
instance:Inhabited By:=⟨⟨0,⟨⟨[],[]⟩,[]⟩⟩⟩
instance:Inhabited A9:=⟨zG⟩
structure Jd(rules:List hO):Prop where
 len:rules.length<=12
 each:∀r∈rules,OC r/\EP r.ea<=40
noncomputable def Fx(t:ej)(rules:List hO)(h:gt)(m:By):A9×Int:=if m.hO<0\/rules.length<=m.hO then(zG,6)else Ju t (AA rules m.hO) h m.pr
variable{t:ej}{rules:List hO}
theorem Ya(hf:A6 t)(c:Jd rules)(h:gt)(m:By):DA t rules h m=some (Fx t rules h m):=by
 unfold DA Fx;refine Nv (by simp) fun e=>?_;have j:=c.each _ (AF (l:=rules) (i:=m.hO) (by omega) (by omega))
 grind [AD,fE]
noncomputable def LK(t:ej)(rules:List hO):Int:=
 if (A1 t).2≠0 then(A1 t).2 else if 10<rules.length then 3 else(fst (fun i=>nz (Cy t (AA rules i))) 0 rules.length).getD 0
noncomputable def Gb(t:ej)(rules:List hO)(h:gt):Int:=if LK t rules≠0 then LK t rules else(Dg t h).2
theorem ee{e v:Int}(h:nz e=some v):v≠0:=by grind[nz]
variable{a b v:Int}
theorem me{c:Int->Int}(h:fst (fun i=>nz (c i)) a b=some v):v≠0:=by grind[DU,ee]
theorem fV(hf:A6 t)(j:Jd rules):LH t rules=some (LK t rules):=by
 unfold LH LK;rw[Ot hf,bs];refine Dq fun o=>Nv (by simp;try omega) fun s=>?_;rw[Bb (fun i=>nz (Cy t (AA rules i))),Cc];intro i c e _;rw[AD c e,bs,qy hf (j.each _ (AF c e)).1,bs,Kx]
theorem jR(hf:A6 t)(c:Jd rules)(h:gt):LI t rules h=some (Gb t rules h):=by
 unfold LI Gb;rw[fV hf c,bs,qv hf,bs];exact Dq fun _=>rfl
theorem YW(hf:A6 t)(s:Jd rules)(h:gt):Dj t rules h=some (Gb t rules h):=by
 unfold Dj Gb LK;rw[Lv hf,bs];by_cases c:¬(A1 t).2=0
 .grind
 have c:=Classical.not_not.1 c;rw[b6 (by simp[c]),b6 (show¬(A1 t).2≠0 by simp[c])];by_cases u:10<rules.length
 .grind
 rw [b6 (by simp;omega),b6 u,Bb (fun i=>nz (Cy t (AA rules i))),DN]
 .cases e:fst (fun i=>nz (Cy t (AA rules i))) 0 (rules.length:Int)with
  |none=>
   grind [Sh]
  |some v=>
   have:=me e
   grind
 .intro i j o _;rw[AD j o,bs,Yf hf (s.each _ (AF j o)).1,bs,Kx]
noncomputable def FW(t:ej)(rules:List hO)(h0:gt)(ms:List By):List A9×gt:=
 ms.foldl (fun s m=>(s.1++[(Fx t rules s.2 m).1],(Fx t rules s.2 m).1.tc)) ([],h0)
noncomputable def Mw(t:ej)(rules:List hO)(h0:gt)(ms:List By)(i:Int):Int:=(Fx t rules (FW t rules h0 (ms.take i.toNat)).2 (AA ms i)).2
theorem Lh(t:ej)(rules:List hO)(c:gt)(e:List By)(m:By):FW t rules c (e++[m])=((FW t rules c e).1++[(Fx t rules (FW t rules c e).2 m).1],(Fx t rules (FW t rules c e).2 m).1.tc):=by
 unfold FW
 grind
theorem NF(t:ej)(rules:List hO)(e:gt)(c:List By):(FW t rules e c).1.length=c.length:=by
 refine UH (P:=fun c=>(FW t rules e c).1.length=c.length) rfl (fun c m j=>?_) c
 grind [Lh,cE]
variable{α:Type}{i:Int}
theorem M3[Inhabited α]{l m:List α}(c:0<=i)(e:i<l.length):AA (l++m) i=AA l i:=by grind[Ll]
theorem dg[Inhabited α](l:List α)(a:α):AA (l++[a]) l.length=a:=by
 rw [Ll,b6 (by simp),Int.toNat_natCast,Nat.sub_self];rfl
theorem gA(t:ej)(rules:List hO)(e:gt)(c:List By):∀i:Int,0<=i->i<c.length->AA (FW t rules e c).1 i=(Fx t rules (FW t rules e (c.take i.toNat)).2 (AA c i)).1:=by
 refine UH (P:=fun c=>∀i:Int,0<=i->i<c.length->AA (FW t rules e c).1 i=(Fx t rules (FW t rules e (c.take i.toNat)).2 (AA c i)).1) (fun i o j=>by simp at j;omega) (fun c m s i o j=>?_) c;rw[Lh];have u:=NF t rules e c;rw[cE,List.length_singleton]at j
 grind [M3,dg,Int.toNat_natCast,List.take_left']
theorem Xx{c:gt}{a b:List By}(e:0<=i)(j:i<a.length):Mw t rules c (a++b) i=Mw t rules c a i:=by grind[Mw,M3]
noncomputable def Rd(t:ej)(rules:List hO)(d:AQ):List A9×Int×Int:=
 if Gb t rules d.kp≠0 then([],0,Gb t rules d.kp)else if 30<d.j4.length then([],0,3)else
 match fst (fun i=>(nz (Mw t rules d.kp d.j4 i)).map fun e=>([],i,e)) 0 d.j4.length with
 |some r=>r|none=>((FW t rules d.kp d.j4).1,(d.j4.length:Int),0)
variable{d:AQ}
theorem je(hd:d.j4.length<=1000){f:gt->By->Option (A9×Int)}(hf:∀h m,f h m=some (Fx t rules h m)):
  fl (kq (ρ:=(List A9×Int×Int)) (fun(j:Int)(o:List A9×gt)=>
  (idx d.j4 j).bind fun u=>
  (f o.2 u).bind fun c=>
  if (!decide (c.2=0))=true then
  some (.ret ([],j,c.2))
  else
  (AZ o.1 [c.1]).bind fun w=>
  some (.next (w,c.1.tc))) 0 (d.j4.length:Int) ([],d.kp)) (fun o=>
  some (o.1,(o.1.length:Int),(0:Int))) (fun z=>some z)=some (match fst (fun i=>(nz (Mw t rules d.kp d.j4 i)).map fun e=>([],i,e)) 0 d.j4.length with
   |some r=>r|none=>((FW t rules d.kp d.j4).1,(d.j4.length:Int),0)):=by
 rw [M8 (a:=0) (s:=(([],d.kp):List A9×gt)) (fun i=>FW t rules d.kp (d.j4.take i.toNat)) (fun i=>(nz (Mw t rules d.kp d.j4 i)).map fun e=>([],i,e)) (by omega) rfl]
 .cases fst (fun i=>(nz (Mw t rules d.kp d.j4 i)).map fun e=>(([],i,e):List A9×Int×Int)) 0 (d.j4.length:Int)with
  |some r=>rfl|none=>
   show some _=some _;rw[Int.toNat_natCast,List.take_length,NF]
 .intro i j y _;have D:=NF t rules d.kp (d.j4.take i.toNat);rw[AD j y,bs,hf,bs];show(if(!decide (Mw t rules d.kp d.j4 i=0))=true then _ else _)=_;by_cases e:Mw t rules d.kp d.j4 i=0
  .rw[b6 (by simp[e]),AY (by rw[D,ca];simp;unfold At;omega),bs,B3 j y,Lh,Fm.2 e];rfl
  .rw[az (by simp[e])];unfold nz;rw[b6 e];rfl
theorem Yd(hf:A6 t)(c:Jd rules)(d:AQ):DL t rules d=some (Rd t rules d):=by
 unfold DL Rd;rw[YW hf c,bs];refine FM fun e=>Nv (by simp;try omega) fun j=>?_;exact je (by omega) (Ya hf c)
structure KN(t:ej)(rules:List hO)(d:AQ):Prop where
 given:Gb t rules d.kp=0
 few:d.j4.length<=30
 moves:∀i:Int,0<=i->i<d.j4.length->Mw t rules d.kp d.j4 i=0
theorem VM:(Rd t rules d).2.2=0↔KN t rules d:=by
 unfold Rd;constructor
 .intro h;split at h
  .grind
  rename_i c;split at h
  .cases h
  rename_i j;split at h
  .grind[DU,nz,Mw,ee]
  .rename_i e;rw[A5]at e;refine⟨Classical.not_not.1 c,by omega,fun i o s=>?_⟩
   grind [Lf,Fm]
 .rintro⟨c,j,u⟩
  grind [A5,Fm]
theorem fW(h:KN t rules d):Rd t rules d=((FW t rules d.kp d.j4).1,(d.j4.length:Int),0):=by
 unfold Rd;rw[b6 (by simp[h.given]),b6 (by have:=h.few;omega),A5.2 fun i c e=>by rw[Fm.2 (h.moves i c e)];rfl]
structure bM(h:gt)(s:A9):Prop where
 AaG:s.Aao.d5.length=h.d6.d5.length
 AaR:s.Aao.d7.length=h.d6.d7.length
 node:∀x∈s.Aao.d5,-1<=x/\x<s.tc.d6.d5.length
 edge:∀x∈s.Aao.d7,-1<=x/\x<s.tc.d6.d7.length
 sm:L0 s.tc
variable{x:gt}{L:BO}
theorem fH(h:(Ix t x L).2=0):Ix t x L=(⟨x.d6,L.foldl CQ x.gp⟩,0)/\L.any (Pv t x)=false:=by
 unfold Ix at h|-
 grind
structure Ox(t:ej)(r:hO)(h:gt)(m:AS):Prop where
 f:Gr t r h m
 sat:Vr t r.kl r.ea h m r.po=(true,0)
 solve:ID t r.kl h m.eb=(m.fq,0)
 chk:IK t r.kl.d6 h.d6 m.eb r.po=0
 put:(Ix t (Cb t r (CM h (dS r h m)) (cS r h m)) (Cs r (cS r h m) m.fq)).2=0
 few:(Cb t r (CM h (dS r h m)) (cS r h m)).d6.d5.length<=40/\(Cb t r (CM h (dS r h m)) (cS r h m)).d6.d7.length<=80
def Nu(t:ej)(r:hO)(h:gt)(m:AS):gt:=⟨(Cb t r (CM h (dS r h m)) (cS r h m)).d6,(Cs r (cS r h m) m.fq).foldl CQ (Cb t r (CM h (dS r h m)) (cS r h m)).gp⟩
def VP(t:ej)(r:hO)(h:gt)(m:AS):A9:=A9.mk r m h (Nu t r h m) (Ft h (dS r h m)) (cS r h m)
variable{r:hO}{h:gt}{m:AS}
theorem hU(hf:A6 t)(fr:OC r)(H:EP r.ea<=40)(e:(Ju t r h m).2=0):Ox t r h m/\Ju t r h m=(VP t r h m,0):=by
 unfold Ju at e|-;split at e
 .rename_i j;exact absurd e j
 rename_i j;rw[b6 j];split at e
 .rename_i o;exact absurd e o
 rename_i o;rw[b6 o];split at e
 .cases e
 rename_i D;rw[b6 D];split at e
 .rename_i u;exact absurd e u
 rename_i u;rw[b6 u];split at e
 .cases e
 rename_i E;rw[b6 E];split at e
 .rename_i y;exact absurd e y
 rename_i y;rw[b6 y];split at e
 .rename_i z;exact absurd e z
 rename_i z;rw[b6 z];split at e
 .cases e
 rename_i F;rw[b6 F];have j:=Classical.not_not.1 j;have o:=Classical.not_not.1 o;have D:=Classical.not_not.1 D;have u:=Classical.not_not.1 u;have E:=Classical.not_not.1 E;have y:=Classical.not_not.1 y;have z:=Classical.not_not.1 z;obtain⟨_,_,_,I⟩:=bU hf H (Z1 j o D u E);have s:Gr t r h m:=⟨hf,fr,j,o,I,(Z3 y).1⟩;unfold XK at e|-;split at e
 .rename_i w;exact absurd e w
 rename_i w;rw[b6 w];have w:=Classical.not_not.1 w;obtain⟨G,J⟩:=fH w;split at e
 .cases e
 rename_i c;rw[b6 c];rw[G]at c;refine⟨⟨s,?_,?_,D,w,?_⟩,?_⟩
 .exact Prod.ext (by simpa using F) z
 .exact Prod.ext E u
 .simp[not_or]at c;exact c
 .rw[G];rfl
theorem Ox.trk(s:Ox t r h m):bM h (VP t r h m):=by
 have D:=s.f.rem;have c:=s.f.put;have E:((Cb t r (CM h (dS r h m)) (cS r h m)).d6.d5.length)=(dS r h m).d5.length+(D3 r).length:=by
  show (List.length (_++_))=_;rw[cE,d3];show((dS r h m).d5.map _).length+_=_;rw[d3];rfl
 have he:((Cb t r (CM h (dS r h m)) (cS r h m)).d6.d7.length)=(dS r h m).d7.length+(Ip r).length:=by
  show (List.length (_++_))=_;rw[cE,d3];show((dS r h m).d7.map _).length+_=_;rw[d3];rfl
 have u:KO (Nu t r h m).gp (Cb t r (CM h (dS r h m)) (cS r h m)).gp:=iS _ _;have y:(Nu t r h m).gp.length=(Cb t r (CM h (dS r h m)) (cS r h m)).d6.d5.length:=by
  have:=congrArg List.length u;rw[d3,d3]at this;rw[this,c.Ab4]
 refine ⟨OB _ _,OB _ _,fun x j=>?_,fun x j=>?_,⟨?_,?_,?_,fun v hv=>?_⟩⟩
 .obtain⟨i,hi,rfl⟩:=List.mem_map.1 j;have:=TB (dS r h m).d5 i;have z:(VP t r h m).tc.d6.d5.length=(Cb t r (CM h (dS r h m)) (cS r h m)).d6.d5.length:=rfl
  grind
 .obtain⟨i,hi,rfl⟩:=List.mem_map.1 j;have:=TB (dS r h m).d7 i;have z:(VP t r h m).tc.d6.d7.length=(Cb t r (CM h (dS r h m)) (cS r h m)).d6.d7.length:=rfl
  grind
 .have:=s.few.1;show(Cb t r (CM h (dS r h m)) (cS r h m)).d6.d5.length<=1000;omega
 .have:=s.few.2;show(Cb t r (CM h (dS r h m)) (cS r h m)).d6.d7.length<=1000;omega
 .have:=s.few.1;show(Nu t r h m).gp.length<=1000;omega
 .have w:v.length∈(Nu t r h m).gp.map List.length:=List.mem_map.2 ⟨v,hv,rfl⟩;rw[u,s.f.rows]at w;obtain⟨n,o,e⟩:=List.mem_map.1 w;have:=HP c.hf (Int.le_refl _) (C8 c.hv).par (c.kind n o).2;omega
end Go.Sf.Sc
namespace Go.Sf.Sc
open Go Go.Sf
def IH(l by':Fp):Fp:=l.map fun x=>if x<0 then -1 else AA by' x
def dH(m tr:eb):eb:=⟨IH m.d5 tr.d5,IH m.d7 tr.d7⟩
def O3(m:eb)(l:List A9):eb:=l.foldl (fun m s=>dH m s.Aao) m
def Ku(g:d6):eb:=⟨A7 g.d5.length,A7 g.d7.length⟩
variable{l by':Fp}
theorem aM(u:l.length<=1000)(h:∀x∈l,-1<=x/\x<by'.length):Fc l by'=some (IH l by'):=by
 unfold Fc slices_Clone_int;rw[Bq (by unfold At;omega),bs,Bz (fun i=>(A7 l.length).map fun j=>if j<i then(if AA l j<0 then -1 else AA by' (AA l j))else AA l j) (by omega)]
 .grind[IH,qJ,Dw]
 .conv=>rhs;rw[<-W5 l]
  grind [Dw]
 .intro i c o;have s:=h _ (AF c o);rw[AD c (by rw[d3,BD];exact o),bs,Ia _ c o,b6 (show¬i<i by omega)];by_cases e:0<=AA l i
  .rw[az (by simpa using e),AD e s.2,bs,bs,KH _ c]
   grind
  grind
variable{i:Int}
theorem Rm(n:Nat)(c:0<=i)(e:i<n):AA (A7 n) i=i:=by
 have:=Ia (n:=n) (fun x=>x) c e
 rwa [List.map_id']at this
variable{n:Nat}
theorem We(h:n<=1000):Fh n=some (A7 n):=by
 unfold Fh JH;rw[az (by omega),bs,Int.toNat_natCast,List.length_replicate,Bz (fun i=>(A7 n).map fun j=>if j<i then j else 0) (by omega)]
 .rw[bs];congr 1
  conv=>rhs;rw[<-List.map_id' (A7 n)]
  exact Dw fun j w o=>az o
 .refine List.ext_getElem (by simp[BD]) (fun k y D=>?_);have e:(A7 n)[k]'(by simpa[BD]using y)=(k:Int):=by simp[A7]
  simp only[List.getElem_map,List.getElem_replicate,e];rw[b6 (by omega)]
 .intro i s z;rw[AD s (by rw[d3,BD];exact z),bs,KH _ s];congr 1;refine Dw fun j w o=>?_;by_cases c:j=i
  .rw[az c,az (by omega),c]
  .rw[b6 c];by_cases u:j<i
   .rw[az u,az (show j<i+1 by omega)]
   .rw[b6 u,b6 (show¬j<i+1 by omega)]
variable{g:d6}
theorem cO(h:Bn g=0):DR g=some (Ku g):=by
 have c:=Cp h;have:=c.ek;have:=c.em;unfold DR FB;rw[KX,bs,b6 (by simp[h]),We (by omega),bs,We (by omega),bs,bs];rfl
theorem Yl(h:n<=1000):IQ n=some (A7 n):=by
 unfold IQ;rw[Pa (fun _=>true) id]
 .rw[bs,List.map_id,List.filter_eq_self.2 fun _ _=>rfl]
 .intro i s c e j;rw[AY (by simp;unfold At;omega),bs,az rfl];rfl
theorem jT(h:Bn g=0):Lg g=some (Ku g):=by
 have c:=Cp h;have:=c.ek;have:=c.em;unfold Lg;rw[Yl (by omega),bs,Yl (by omega),bs];rfl
structure dR(m:eb)(g:d6):Prop where
 AaG:m.d5.length<=1000
 AaR:m.d7.length<=1000
 node:∀x∈m.d5,-1<=x/\x<g.d5.length
 edge:∀x∈m.d7,-1<=x/\x<g.d7.length
theorem tw(h:Bn g=0):dR (Ku g) g:=by
 have e:=Cp h;have:=e.ek;have:=e.em;refine⟨by show(A7 _).length<=1000;rw[BD];omega,by show(A7 _).length<=1000;rw[BD];omega,fun x c=>?_,fun x c=>?_⟩
 .have:=ET.1 c;omega
 .have:=ET.1 c;omega
theorem Xj(e:∀x∈l,-1<=x/\x<by'.length)(j:∀x∈by',-1<=x/\x<n):∀x∈IH l by',-1<=x/\x<n:=by
 intro x c;obtain⟨y,o,rfl⟩:=List.mem_map.1 c
 grind [AF]
variable{h:gt}
theorem oY{m:eb}{s:A9}(c:dR m h.d6)(e:bM h s):dR (dH m s.Aao) s.tc.d6:=by
 refine ⟨by show(List.map _ _).length<=1000;rw[d3];exact c.AaG,by show(List.map _ _).length<=1000;rw[d3];exact c.AaR,?_,?_⟩
 .exact Xj (fun x j=>by have:=c.node x j;rw[e.AaG];exact this) e.node
 .exact Xj (fun x j=>by have:=c.edge x j;rw[e.AaR];exact this) e.edge
variable{t:ej}{rules:List hO}
theorem Om(hf:A6 t)(j:Jd rules){m:By}(e:(Fx t rules h m).2=0):
  (0<=m.hO/\m.hO<rules.length)/\Ox t (AA rules m.hO) h m.pr/\Fx t rules h m=(VP t (AA rules m.hO) h m.pr,0):=by
 unfold Fx at e|-;split at e
 .cases e
 rename_i o;rw[b6 o];have c:=j.each _ (AF (l:=rules) (i:=m.hO) (by omega) (by omega));exact⟨by omega,hU hf c.1 c.2 e⟩
theorem Qn(hf:A6 t)(e:Gb t rules h=0):LK t rules=0/\(Dg t h).2=0/\(A1 t).2=0/\Kq t h:=by grind[Gb,Qo]
variable{d:AQ}
theorem Pq(hf:A6 t)(j:Jd rules)(h:KN t rules d):∀n:Nat,n<=d.j4.length ->
  L0 (FW t rules d.kp (d.j4.take n)).2/\dR (O3 (Ku d.kp.d6) (FW t rules d.kp (d.j4.take n)).1) (FW t rules d.kp (d.j4.take n)).2.d6
 |0,_=>by
  obtain ⟨_,u,c,o⟩:=Qn hf h.given;exact⟨OX hf c o,tw o.ge⟩
 |n+1,y=>by
  obtain ⟨u,c⟩:=Pq hf j h n (by omega);have he:=h.moves n (by omega) (by omega);have e:=B3 (l:=d.j4) (i:=(n:Int)) (by omega) (by omega);rw[show((n:Int)+1).toNat=n+1 by omega,Int.toNat_natCast]at e;unfold Mw at he;rw[Int.toNat_natCast]at he;obtain⟨_,s,w⟩:=Om hf j he;rw[e,Lh,w];refine⟨s.trk.sm,?_⟩;unfold O3 at c|-;rw[List.foldl_append];exact oY c s.trk
noncomputable def OE(t:ej)(rules:List hO)(d:AQ):gt×eb×Int:=
 if (Rd t rules d).2.2≠0 then(⟨⟨[],[]⟩,[]⟩,⟨[],[]⟩,(Rd t rules d).2.2)else((FW t rules d.kp d.j4).2,O3 (Ku d.kp.d6) (FW t rules d.kp d.j4).1,0)
variable{x:gt}
theorem Sg(h:L0 x):D4 x=some x:=by
 have:=h.ek;have:=h.em;have:=h.vals;unfold D4 slices_Clone_int DM;rw[Bq (by unfold At;omega),bs,Bq (by unfold At;omega),bs];rw[Bz (fun i=>gt.mk x.d6 (x.gp.take i.toNat)) (by omega) (by rfl)]
 .rw[Int.toNat_natCast,List.take_length];rfl
 .intro i c e;have:=h.rows _ (AF c e)
  grind [AD,Bq,At,AY,B3]
theorem iP(hf:A6 t)(o:Jd rules)(h:KN t rules d){f:Int->gt×eb->Option (gt×eb)}
  (w:∀(i:Int)(s:gt×eb),0<=i->i<d.j4.length->dR s.2 s.1.d6->bM s.1 (AA (FW t rules d.kp d.j4).1 i)->f i s=some ((AA (FW t rules d.kp d.j4).1 i).tc,dH s.2 (AA (FW t rules d.kp d.j4).1 i).Aao)):
  pq f 0 ((FW t rules d.kp d.j4).1.length:Int) (d.kp,Ku d.kp.d6)=some ((FW t rules d.kp d.j4).2,O3 (Ku d.kp.d6) (FW t rules d.kp d.j4).1):=by
 rw [NF,Bz (fun i=>((FW t rules d.kp (d.j4.take i.toNat)).2,O3 (Ku d.kp.d6) (FW t rules d.kp (d.j4.take i.toNat)).1)) (by omega) (by rfl)]
 .rw[Int.toNat_natCast,List.take_length]
 .intro i c e;obtain⟨z,y⟩:=Pq hf o h i.toNat (by omega);have he:=h.moves i c e;unfold Mw at he;obtain⟨_,s,u⟩:=Om hf o he;have j:=gA t rules d.kp d.j4 i c e;rw[u]at j;rw[w i _ c e y (by rw[j];exact s.trk),B3 c e,Lh,u,j];unfold O3;rw[List.foldl_append];rfl
theorem aO(hf:A6 t)(e:Jd rules)(d:AQ):C9 t rules d=some (OE t rules d):=by
 unfold C9 OE;rw[Yd hf e,bs];refine FM fun u=>?_;have h:=VM.1 u;obtain⟨_,_,_,hh⟩:=Qn hf h.given;rw[cO hh.ge,bs,fW h];simp;rw[iP hf e h fun i s w y c o=>?_]
 .have:=(Pq hf e h d.j4.length (bk _)).1
  grind [List.take_length,Sg]
 .rw[AD w (by rw[NF];exact y),bs,aM c.AaG (fun x j=>by rw[o.AaG];exact c.node x j),bs,aM c.AaR (fun x j=>by rw[o.AaR];exact c.edge x j),bs];rfl
structure Xb(m:AS):Prop where
 ek:m.eb.d5.length<=1000
 em:m.eb.d7.length<=1000
 vars:m.fq.length<=1000
structure dW(d:AQ):Prop where
 start:L0 d.kp
 len:d.j4.length<=1000
 moves:∀m∈d.j4,Xb m.pr
variable{r:hO}{m:AS}
theorem Ox.small(s:Ox t r h m):Xb m:=by
 have e:=s.f.left;have c:=s.f.ro.left;have j:=s.f.at_.len;have o:=s.f.at_.q.vars;have:=c.ek;have:=c.em;exact⟨by omega,by omega,by omega⟩
theorem KN.small(hf:A6 t)(c:Jd rules)(h:KN t rules d):dW d:=by
 obtain ⟨_,_,j,o⟩:=Qn hf h.given;refine⟨OX hf j o,by have:=h.few;omega,fun m e=>?_⟩;obtain⟨i,s,u,rfl⟩:=Bh e;have he:=h.moves i s u;unfold Mw at he;exact(Om hf c he).2.1.small
theorem fC(h:Xb m):Fd m=some m:=by
 have:=h.ek;have:=h.em;have:=h.vars;unfold Fd slices_Clone_int;rw[Bq (by unfold At;omega),bs,Bq (by unfold At;omega),bs,Bq (by unfold At;omega),bs]
variable{α σ:Type}
theorem iw[Inhabited α]{l:List α}(c:l.length<=1000)(g:List α->σ){f:Int->σ->Option σ}(h:∀(i:Int)s,0<=i->i<l.length->s.length<=1000->f i (g s)=some (g (s++[AA l i]))):pq f 0 l.length (g [])=some (g l):=by
 have:=Bz (f:=f) (s:=g []) (fun i=>g (l.take i.toNat)) (a:=0) (b:=l.length) (by omega) rfl (fun i e j=>by
  grind [ca,B3])
 rwa [Int.toNat_natCast,List.take_length]at this
theorem qf(h:dW d):Dl d=some d:=by
 unfold Dl;rw[Sg h.start,bs];have:=iw (l:=d.j4) h.len (fun l=>AQ.mk d.kp l) (f:=fun(e:Int)(u:AQ)=>
  (idx d.j4 e).bind fun c=>
  (Fd c.pr).bind fun j=>
  (AZ u.j4 [By.mk c.hO j]).bind fun o=>
  some (AQ.mk u.kp o)) (fun i s e w y=>by
   rw [AD e w,bs,fC (h.moves _ (AF e w)),bs,AY (by simp;unfold At;omega),bs])
 rw [this];rfl
abbrev zD:AQ:=AQ.mk (gt.mk (d6.mk [] []) []) []
noncomputable def bQ(t:ej)(rules:List hO)(d:AQ)(m:By):AQ×Int:=
 if (OE t rules d).2.2≠0 then(zD,(OE t rules d).2.2)else if d.j4.length=30 then(zD,17)else
 if (Fx t rules (OE t rules d).1 m).2≠0 then(zD,(Fx t rules (OE t rules d).1 m).2)else(⟨d.kp,d.j4++[m]⟩,0)
theorem mb:(OE t rules d).2.2=(Rd t rules d).2.2:=by grind[OE]
theorem iy(hf:A6 t)(c:Jd rules)(d:AQ)(m:By):GT t rules d m=some (bQ t rules d m):=by
 unfold GT bQ;rw[aO hf c,bs];refine FM fun e=>Nv (by simp;try omega) fun o=>?_;rw[Ya hf c,bs];refine FM fun j=>?_;rw[mb]at e;have h:=(VM.1 e).small hf c;have:=h.len;rw[qf h,bs,fC (Om hf c j).2.1.small,bs,AY (by simp;unfold At;omega),bs]
theorem mO{m:By}(h:KN t rules d)(o:d.j4.length<30)(e:(Fx t rules (FW t rules d.kp d.j4).2 m).2=0):KN t rules ⟨d.kp,d.j4++[m]⟩:=by
 refine ⟨h.given,by simp;omega,fun i c j=>?_⟩;simp at j;show Mw t rules d.kp (d.j4++[m]) i=0;by_cases hi:i<d.j4.length
 .rw[Xx c hi];exact h.moves i c hi
 grind [Mw,dg,Int.toNat_natCast,List.take_left']
theorem ki(h:KN t rules d)(n:Nat):KN t rules ⟨d.kp,d.j4.take n⟩:=by
 have:=h.few;refine⟨h.given,by simp;omega,fun i e c=>?_⟩;show Mw t rules d.kp (d.j4.take n) i=0;have c:i<(d.j4.take n).length:=c;rw[ca]at c;have:=h.moves i e (by omega)
 grind [List.take_append_drop,Xx,ca]
end Go.Sf.Sc
namespace Go.Sf.Sc
open Go Go.Sf
end Go.Sf.Sc
namespace Go.Sf.Sc
open Go Go.Sf
end Go.Sf.Sc
namespace Go.Sf.Sc
open Go Go.Sf
variable{ρ:Type}
theorem sH{f:Int×Int->Option (Bu (Int×Int) ρ)}(I:Int->Int->Prop)(b:Int){s a:Int}(u:I a s)
  (step:∀i s,a<=i->I i s->(i<b/\∃s',f (s,i)=some (.next (s',i+1))/\I (i+1) s')\/f (s,i)=some (.brk (s,i))):∃i s',a<=i/\I i s'/\C7 f (s,a)=some (.inl (s',i)):=by
 have key:∀(n:Nat)(i s:Int),a<=i->I i s->b-i<=n->∃j s',i<=j/\I j s'/\Kk f (s,i) (.inl (s',j)):=by
  intro n
  induction n with
  |zero=>
   intro i s hi c w;rcases step i s hi c with⟨h,_⟩|h
   .omega
   .exact⟨i,s,Int.le_refl _,c,.brk h⟩
  |succ n F=>
   intro i s hi c w;rcases step i s hi c with⟨_,s',e,o⟩|h
   .obtain⟨j,y,G,z,D⟩:=F (i+1) s' (by omega) o (by omega);exact⟨j,y,by omega,z,.next e D⟩
   .exact⟨i,s,Int.le_refl _,c,.brk h⟩
 obtain ⟨j,s',e,o,E⟩:=key (b-a).toNat a s (Int.le_refl _) u (by omega);exact⟨j,s',e,o,E.eq⟩
theorem W6{q w k:Int}(c:Int)(H:q<=1000)(y:0<=k)(o:k<=1000)(u:1<=c/\c<=80)(z:1<=w/\w<=400000):∃w' D,(1<=w'/\w'<=400000)/\C7 (ρ:=ρ) (fun(j:Int×Int)=>
  if ((decide (j.2<q))&&(decide (j.1<=5000)))=true then
  some (.next (AK (j.1*c),AK (j.2+1)))
  else
  some (.brk (j.1,j.2))) (w,k)=some (.inl (w',D)):=by
 obtain ⟨i,s',K,F,G⟩:=sH (ρ:=ρ) (f:=fun(j:Int×Int)=>
  if ((decide (j.2<q))&&(decide (j.1<=5000)))=true then
  some (.next (AK (j.1*c),AK (j.2+1)))
  else
  some (.brk (j.1,j.2))) (fun i s=>(1<=s/\s<=400000)/\0<=i/\i<=1000) q (s:=w) (a:=k) ⟨z,y,o⟩ (fun i s hi E=>by
   by_cases e:i<q/\s<=5000
   .left;have I:1*1<=s*c:=Int.mul_le_mul E.1.1 u.1 (by omega) (by omega);have J:s*c<=5000*80:=Int.mul_le_mul e.2 u.2 (by omega) (by omega)
    grind [AW]
   grind)
 exact ⟨s',i,F.1,G⟩
theorem al:∀(N:Nat)(c:ea)(p:ed)(w:Int),SizeOf.sizeOf c<=N->Db c->Mz p->EP c<=1000->1<=w->w<=5000->∃b,∀n,N<=n->C0 n p c w=some b
 |0,c,_,_,h,_,_,_,_,_=>by have:=Dn c;omega|N+1,c,p,w,h,W,Q,hk,w0,w1=>by
  have key:∀q:ed,Mz q->∃b,∀n,N<=n->fl (C7 (ρ:=Bool) (fun(o:Int×Int)=>
    if ((decide (o.2<(q.d6.d5.length:Int)))&&(decide (o.1<=5000)))=true then
    some (.next (AK (o.1*40),AK (o.2+1)))
    else
    some (.brk (o.1,o.2))) (w,(p.d6.d5.length:Int))) (fun o=>
    fl (C7 (ρ:=Bool) (fun(j:Int×Int)=>
    if ((decide (j.2<(q.d6.d7.length:Int)))&&(decide (j.1<=5000)))=true then
    some (.next (AK (j.1*80),AK (j.2+1)))
    else
    some (.brk (j.1,j.2))) (o.1,(p.d6.d7.length:Int))) (fun j=>
    fl (C7 (ρ:=Bool) (fun(u:Int)=>
    if ((decide (u<(c.hV.length:Int)))&&(decide (j.1<=5000)))=true then
    (idx c.hV u).bind fun D=>
    (C0 n q D j.1).bind fun E=>
    if (!E)=true then
    some (.ret false)
    else
    some (.next (AK (u+1)))
    else
    some (.brk u)) 0) (fun u=>
    some (decide (j.1<=5000))) (fun X=>some X)) (fun Y=>some Y)) (fun Z=>some Z)=some b:=by
   intro q y;have q1:=y.ek;have q2:=y.em;have p1:=Q.ek;have p2:=Q.em;obtain⟨a,k,ha,V⟩:=W6 (ρ:=Bool) (q:=q.d6.d5.length) (w:=w) (k:=p.d6.d5.length) 40 (by omega) (by omega) (by omega) (by omega) (by omega);obtain⟨a',k',K,z⟩:=W6 (ρ:=Bool) (q:=q.d6.d7.length) (w:=a) (k:=p.d6.d7.length) 80 (by omega) (by omega) (by omega) (by omega) ha;have hkl:c.hV.length<=1000:=by have:=SA c.hV;have:=SB c;omega
   by_cases J:a'<=5000
   .have kids:∀x∈c.hV,∃b,∀n,N<=n->C0 n q x a'=some b:=fun x F=>by
     have G:=ER F;have H:=Tq F;have h3:=SB c;exact al N x q a' (by omega) (W.k x F) y (by omega) K.1 J
    have s:∀i:Int,∃b:Bool,0<=i->i<c.hV.length->∀n,N<=n->C0 n q (AA c.hV i) a'=some b:=fun i=>by
     by_cases e:0<=i/\i<c.hV.length
     .obtain⟨b,O⟩:=kids _ (AF e.1 e.2);exact⟨b,fun _ _=>O⟩
     .exact⟨true,fun G H=>absurd ⟨G,H⟩ e⟩
    obtain ⟨g,hg⟩:=Classical.axiomOfChoice s;refine⟨(fst (fun i=>if g i=true then none else some (Sum.inr false:Int ⊕ Bool)) 0 c.hV.length).isNone,fun n I=>?_⟩;rw[V,B6];simp only[];rw[z,B6];simp only[];rw[Lx (fun i=>if g i=true then none else some (.inr false)) (b:=c.hV.length) (by omega)]
    .cases e:fst (fun i=>if g i=true then none else some (Sum.inr false:Int ⊕ Bool)) 0 (c.hV.length:Int)with
     |none=>
      show some (decide (a'<=5000))=some true;rw[decide_eq_true J]
     |some r=>
      obtain ⟨i,_,_,P,_⟩:=DU e;split at P
      .cases P
      .cases P;rfl
    .intro i S U _;rw[az (by simp;omega),AD S U,bs,hg i S U n I,bs,AW (by omega) (by omega)];cases g i<;>rfl
    .rw[b6 (by simp)]
   .refine⟨false,fun n I=>?_⟩;rw[V,B6];simp only[];rw[z,B6];simp only[];rw[Lx (fun _=>none) (b:=0) (by omega) (fun i G H _=>by omega) (by rw[b6 (by simp;omega)])];rw[eF (by omega)];show some _=some _;rw[decide_eq_false J]
  have y:Mz (if c.o3=5 then c.ed else p):=by split;exact W.q;exact Q
  obtain ⟨b,O⟩:=key _ y;refine⟨b,fun n I=>?_⟩;obtain⟨n,rfl⟩:∃k,n=k+1:=⟨n-1,by omega⟩;rw[C0,show(if decide (c.o3=5)=true then some c.ed else some p)=some (if c.o3=5 then c.ed else p)by by_cases e:c.o3=5<;>simp[e],bs];exact O n (by omega)
end Go.Sf.Sc
namespace Go.Sf.Sc
open Go Go.Sf
variable{r:hO}
theorem Yy(c:(CP r).Sm):(AI r.ea).Sm:=by
 have e:TV.Sms [_,_,_,_,_,_,_,_,_,_,_,_,_,_,_,_,_,_,_,_,_,_,_,_,_]:=c;obtain⟨_,_,_,_,_,_,_,_,_,_,_,s,u,w,y,_,j,o,c3,c4,c5,c6,c7,c8,c9,_⟩:=e;exact⟨j,o,c3,c4,c5,c6,c7,c8,c9,trivial⟩
variable{t:ej}
theorem m9(hf:A6 t)(st:(AP t).Sm)(c:(CP r).Sm)(h:gt):∃b,JY t r h=some b/\(b=true->OC r/\EP r.ea<=40):=by
 obtain ⟨e,j,_⟩:=SH st;obtain⟨o,s,u⟩:=iK c;obtain⟨w,y,z⟩:=fQ hf st r.kl (Yy c) h;unfold JY
 grind
variable{rules:List hO}
theorem nA(st:(AP t).Sm)(V:∀r∈rules,(CP r).Sm)(h:gt):∃b,LG t rules h=some b/\(b=true->A6 t/\Jd rules):=by
 obtain ⟨b1,e1,f1⟩:=SH st;obtain⟨b2,e2⟩:=X0 h;unfold LG;by_cases Q:(((decide (4<(rules.length:Int)))&&(decide ((rules.length:Int)<=10)))||(decide (12<(rules.length:Int))))=true
 .rw[az Q,bs,az rfl,bs,az rfl];exact⟨false,rfl,fun h=>by cases h⟩
 rw [b6 Q,e1,bs,bs];cases b1 with
 |false=>exact⟨false,rfl,fun h=>by cases h⟩
 |true=>
 rw [b6 (by decide),e2,bs,bs];cases b2 with
 |false=>exact⟨false,rfl,fun h=>by cases h⟩
 |true=>
 rw [b6 (by decide)];have hf:=f1 rfl;have Y:rules.length<=12:=by
  simp only[Bool.or_eq_true,tg,zzX,not_or]at Q;omega
 rcases O4 (f:=fun(c:Int)(W:Bool)=>
  (idx rules c).bind fun y=>
  (JY t y h).bind fun z=>
  if (!z)=true then
  some (.ret false)
  else
  (if W=true then((idx rules c).bind fun D=>
  some (decide ((D.kl.d6.d5.length:Int)<=3)))else some false).bind fun E=>
  (if E=true then((idx rules c).bind fun F=>
  some (decide ((F.kl.d6.d7.length:Int)<=2)))else some false).bind fun G=>
  (if G=true then((idx rules c).bind fun H=>
  some (decide ((H.fu.d6.d5.length:Int)<=5)))else some false).bind fun I=>
  (if I=true then((idx rules c).bind fun J=>
  (idx rules c).bind fun K=>
  (LV J.kl K.ea 1).bind fun N=>
  some (N))else some false).bind fun O=>
  some (.next O)) (fun i _=>∀j:Int,0<=j->j<i->OC (AA rules j)/\EP (AA rules j).ea<=40) (fun _=>False) (fun r=>r=false) (a:=0) (b:=rules.length) (s:=true) (by omega) (fun j h1 h2=>by omega) (fun i s c u P=>by
   have Z:=AF c u;obtain⟨b3,o,f3⟩:=m9 hf st (V _ Z) h;simp only[AD c u,bs];rw[o,bs];cases b3 with
   |false=>exact .inr (.inr ⟨false,rfl,rfl⟩)|true=>
    obtain ⟨S,k2⟩:=f3 rfl;obtain⟨U,e4⟩:=al _ (AA rules i).ea (AA rules i).kl 1 (bk _) S.cond S.left (by omega) (by decide) (by decide);have e5:LV (AA rules i).kl (AA rules i).ea 1=some U:=E0 _ e4;left;refine⟨(((s&&decide (((AA rules i).kl.d6.d5.length:Int)<=3))&&decide (((AA rules i).kl.d6.d7.length:Int)<=2))&&decide (((AA rules i).fu.d6.d5.length:Int)<=5))&&U,?_,fun j X j1=>?_⟩
    .rw[b6 (by decide),e5];cases s<;>cases decide (((AA rules i).kl.d6.d5.length:Int)<=3)<;>cases decide (((AA rules i).kl.d6.d7.length:Int)<=2)<;>cases decide (((AA rules i).fu.d6.d5.length:Int)<=5)<;>rfl
    .by_cases e:j=i
     .rw[e];exact⟨S,k2⟩
     .exact P j X (by omega))with⟨s',o,h3⟩|⟨r,o,h3⟩
 .rw[o,B6];have P:=h3.resolve_right id;have w:Jd rules:=⟨Y,fun r w=>by
   obtain ⟨i,c,u,rfl⟩:=Bh w;exact P i c u⟩
  rw [jR hf w,bs];exact⟨_,rfl,fun _=>⟨hf,w⟩⟩
 .rw[o,OA,h3];exact⟨false,rfl,fun h=>by cases h⟩
theorem jI(g:d6):MT g g=some true:=by
 unfold MT;rw[Vn,bs,b6 (by simp),Br (fun _=>false) false]
 .rw[show n8 (fun _=>false) 0 (g.d7.length:Int)=false from Bk.2 fun _ _ _=>rfl];rfl
 grind [AD]
variable{l:Fp}
theorem fI(j:l.length<=1000):JK l l=some 0:=by
 unfold JK;rw[Lx (fun _=>none) (b:=l.length) (by omega)]
 .rw[show fst (fun _=>(none:Option (Int ⊕ Int))) 0 (l.length:Int)=none from A5.2 fun _ _ _=>rfl];show some (AK ((l.length:Int)-l.length))=some 0;rw[AW (by omega) (by omega),Int.sub_self]
 .intro i e c _;rw[az (by simp[c]),AD e c,bs,bs,b6 (by simp),AW (by omega) (by omega)];rfl
 .rw[b6 (by simp)]
variable{h:gt}
theorem qr(j:L0 h):MW h h=some true:=by
 unfold MW;rw[jI,bs,b6 (by simp),Br (fun _=>false) false]
 .rw[show n8 (fun _=>false) 0 (h.gp.length:Int)=false from Bk.2 fun _ _ _=>rfl];rfl
 .intro i c e _;rw[AD c e,bs,bs,fI (j.rows _ (AF c e)),bs];simp
theorem nW(l:List By):Hk l l=some true:=by
 unfold Hk;rw[b6 (by simp),Br (fun _=>false) false]
 .rw[show n8 (fun _=>false) 0 (l.length:Int)=false from Bk.2 fun _ _ _=>rfl];rfl
 .intro i c e _;simp only[AD c e,bs];unfold Iy;simp only[aW,Vn,bs];simp
variable{d:AQ}
theorem uX(h:L0 d.kp):Mh d d=some true:=by grind[Mh,qr,nW]
end Go.Sf.Sc
namespace Go.Sf.Sc
open Go Go.Sf
theorem nV(m:eb):Iy m m=some true:=by grind[Iy,aW,Vn,bs]
end Go.Sf.Sc
namespace Go.Sf.Sc
open Go Go.Sf
variable{q:Lz}
theorem Xe:∀(n:Nat)(f:AH),f.em.length+n=f.p.d7.length->(∀i:Int,0<=i->i<f.p.d7.length->PL.at_ f.mo.d7 i=PL.at_ q.d7 i)->FX n f=FX n {f with mo:=q}
 |0,_,_,_=>rfl|n+1,f,e,h=>by
  rw [FX,FX];refine congrArg (fun F=>(A7 f.g.d7.length).flatMap F) (funext fun k=>?_);have c:Rs f k=Rs {f with mo:=q} k:=by
   grind [Rs,I2]
  rw [c,Xe n {f with em:=f.em++[k]} (by simp;omega) h]
theorem Xh:∀(n:Nat)(f:AH),f.ek.length+n=f.p.d5.length->f.em=[]->(∀i:Int,0<=i->i<f.p.d5.length->PL.at_ f.mo.d5 i=PL.at_ q.d5 i)->(∀i:Int,0<=i->i<f.p.d7.length->PL.at_ f.mo.d7 i=PL.at_ q.d7 i)->Kl n f=Kl n {f with mo:=q}
 |0,f,_,he,_,h=>Xe f.p.d7.length f (by rw[he];simp) h|n+1,f,j,he,e,h=>by
  rw [Kl,Kl];refine congrArg (fun F=>(A7 f.g.d5.length).flatMap F) (funext fun k=>?_);have c:Se f k=Se {f with mo:=q} k:=by
   grind [Se]
  rw [c,Xh n {f with ek:=f.ek++[k]} (by simp;omega) he e h]
variable{n:Nat}{i v:Int}
theorem di(c:0<=i)(e:i<n):AA (List.replicate n v) i=v:=by
 unfold AA
 grind
def F0(t:ej)(p g:d6)(inj:Bool):AH:=⟨p,g,Li t,⟨none,none⟩,inj,5001,[],[],[]⟩
variable{t:ej}{p g:d6}{inj:Bool}
theorem g9:Kl p.d5.length (F0 t p g inj)=Kl p.d5.length (FF t p g (RZ p) inj):=
 Xh (q:=Lz.of (RZ p)) p.d5.length (F0 t p g inj) (by show 0+p.d5.length=p.d5.length;omega) rfl (fun i c e=>(di c e).symm) (fun i c e=>(di c e).symm)
theorem jC(o:A6 t)(hv:(A1 t).2=0)(j:Nr (FF t p g (RZ p) inj)):E6 t p g ⟨none,none⟩ inj 5001=some (Jz t p g (RZ p) inj):=by
 unfold E6;rw[cR o (C8 hv) hv,bs];have c:Nr (F0 t p g inj):=⟨trivial,trivial,j.ends,j.kinds,j.small⟩;have h:=ey (f:=F0 t p g inj) c ⟨by show(0:Int)<=5001;omega,by show(5001:Int)<=10000;omega,by show((0:Nat):Int)<=5001;omega⟩ rfl rfl;rw[Xf _ _ c rfl,show(F0 t p g inj).p.d5.length=p.d5.length from rfl,g9]at h;have e:AH.mk p g (Li t) ⟨none,none⟩ inj 5001 [] [] []=F0 t p g inj:=rfl;rw[e,h];rfl
def M1(t:ej)(p g:d6)(inj:Bool):List eb×Int:=
 if EE t p g≠0 then([],EE t p g)else if 5000<(Jz t p g (RZ p) inj).length then([],3)else(Jz t p g (RZ p) inj,0)
theorem qR(hf:A6 t)(p g:d6)(inj:Bool):I1 t p g inj=some (M1 t p g inj):=by
 unfold I1 M1;rw[TL hf,bs];refine FM fun c=>?_
 grind [Xz,RZ,Ho,jC,bs,Jz]
end Go.Sf.Sc
namespace Go.Sf.Sc
open Go Go.Sf
variable{α:Type}{f:Int->List α->Option (List α)}
theorem eR[Inhabited α]{x:List α}{p:α->Bool}(u:x.length<=5000)
  (hf:∀(i:Int)(s:List α),0<=i->i<x.length->s.length<=5000->f i s=some (if p (AA x i)=true then s++[AA x i]else s)):
  pq f 0 (x.length:Int) []=some (x.filter p):=by
 rw [Bz (a:=0) (b:=x.length) (s:=[]) (fun i=>(x.take i.toNat).filter p) (by omega) rfl,Int.toNat_natCast,List.take_length];intro i c e;have j:((x.take i.toNat).filter p).length<=5000:=by grind
 rw [hf i _ c e j,B3 c e,List.filter_append];cases o:p (AA x i)<;>simp[o]
def MI(t:ej)(p:ed)(h:gt)(inj:Bool):List AS×Int:=
 if NX t p h≠0 then([],NX t p h)else if(M1 t p.d6 h.d6 inj).2≠0 then([],(M1 t p.d6 h.d6 inj).2)else
 (((M1 t p.d6 h.d6 inj).1.filter fun y=>decide ((IW p h y).2=0)).map fun y=>⟨y,(IW p h y).1⟩,0)
variable{t:ej}{p g:d6}{inj:Bool}
theorem de(h:(M1 t p g inj).2=0):(M1 t p g inj).1.length<=5000/\∀m∈(M1 t p g inj).1,IK t p g m inj=0:=by grind[M1,eD]
theorem jE(hf:A6 t)(p:ed)(h:gt)(inj:Bool):D0 t p h inj=some (MI t p h inj):=by
 unfold D0 MI;rw[Wd hf,bs];refine FM fun u=>?_;rw[qR hf,bs];refine FM fun w=>?_;obtain⟨E,G⟩:=de w;rw[TW (F:=fun y=>((IW p h y).1,decide ((IW p h y).2=0))) E,bs];intro i s z D e;have j:Eu p h (AA (M1 t p.d6 h.d6 inj).1 i)=some (IW p h (AA (M1 t p.d6 h.d6 inj).1 i)):=by
  obtain ⟨hv,o,hh,c⟩:=Ti hf u (G _ (AF z D));exact aS o (fun s e=>Qv (C8 hv) o hh c e)
 grind [AD,bs,IW,AA,M1,AY,At]
variable{h:gt}
theorem Wa{p:ed}:(MI t p h inj).1.length<=5000:=by grind[MI,de,d3,Nat.le_trans,List.length_filter_le]
noncomputable def RJ(t:ej)(r:hO)(h:gt):Int:=if Cy t r≠0 then Cy t r else(Dg t h).2
variable{r:hO}
theorem aP(hf:A6 t)(fr:OC r)(h:gt):Gh t r h=some (RJ t r h):=by
 unfold Gh RJ;rw[Lv hf,bs];by_cases hv:¬(A1 t).2=0
 .grind[Cy,A1]
 have hv:=Classical.not_not.1 hv;rw[b6 (by simp[hv]),Yf hf fr,bs,Sh hf];exact FM fun _=>rfl
theorem iz(hf:A6 t)(fr:OC r)(c:EP r.ea<=40)(e:RJ t r h=0)(m:AS):Gg t r h m=some (Ju t r h m):=by
 have:=fE hf fr c h m;unfold Hq at this;rw[aP hf fr,bs,b6 (by simp[e])]at this;cases k:Gg t r h m with
 |none=>rw[k]at this;cases this
 |some x=>rw[k]at this;exact this
noncomputable def IJ(t:ej)(r:hO)(h:gt):List AS×Int:=
 if RJ t r h≠0 then([],RJ t r h)else if(MI t r.kl h r.po).2≠0 then([],(MI t r.kl h r.po).2)else
 ((MI t r.kl h r.po).1.filter fun m=>decide ((Ju t r h m).2=0),0)
theorem qT(hf:A6 t)(fr:OC r)(c:EP r.ea<=40)(h:gt):E8 t r h=some (IJ t r h):=by
 unfold E8 IJ;rw[aP hf fr,bs];refine FM fun e=>?_;rw[jE hf,bs];refine FM fun j=>?_;rw[eR (p:=fun m=>decide ((Ju t r h m).2=0)) Wa,bs]
 grind [AD,bs,iz,Ju,AA,MI,AY,At]
theorem mS:(IJ t r h).1.length<=5000:=by grind[IJ,Nat.le_trans,List.length_filter_le,Wa]
variable{m:AS}
theorem pY(c:m∈(IJ t r h).1):(Ju t r h m).2=0:=by
 unfold IJ at c
 grind
end Go.Sf.Sc
namespace Go.Sf
variable{σ ρ:Type}
theorem TX{f g:Int->σ->Option (Bu σ ρ)}:∀(n:Nat)(i:Int)(s:σ),(∀j s,i<=j->j<i+n->f j s=g j s)->Aaa f n i s=Aaa g n i s
 |0,_,_,_=>rfl|n+1,i,s,h=>by
  rw [EO,EO,h i s (by omega) (by omega)];cases g i s with
  |none=>rfl|some c=>
   cases c with
   |next s'=>exact TX n (i+1) s' fun j t e o=>h j t (by omega) (by omega)|brk _=>rfl|ret _=>rfl
variable{a b:Int}
theorem Ui{f g:Int->σ->Option (Bu σ ρ)}{s:σ}(h:∀j s,a<=j->j<b->f j s=g j s):kq f a b s=kq g a b s:=TX _ _ _ fun j t c e=>h j t c (by omega)
end Go.Sf
namespace Go.Sf.Sc
open Go Go.Sf
instance:Inhabited By:=⟨⟨0,default⟩⟩
noncomputable def TN(t:ej)(rules:List hO)(h:gt):Option (List By×Int):=
 fl (kq (ρ:=(List By×Int)) (fun(i0:Int)(s0:List By)=>
 (idx rules i0).bind fun x20=>
 if (!decide ((IJ t x20 h).2=0))=true then
 some (.ret ([],(IJ t x20 h).2))
 else
 (pq (fun(i2:Int)(s2:List By)=>
 (idx (IJ t x20 h).1 i2).bind fun x36=>
 (AZ s2 [By.mk i0 x36]).bind fun x43=>
 some x43) 0 ((IJ t x20 h).1.length:Int) s0).bind fun s2=>
 some (.next s2)) 0 (rules.length:Int) []) (fun s0=>
 some (s0,0)) (fun v0=>some v0)
variable{t:ej}{rules:List hO}
theorem qj(hf:A6 t)(c:Jd rules)(h:gt):DT t rules h=TN t rules h:=by
 unfold DT TN;congr 1;refine Ui fun j s e o=>?_;have:=c.each _ (AF e o)
 grind [AD,bs,qT]
variable{i:Int}
theorem g6{L:List AS}{s:List By}(z:s.length+L.length<=100000):pq (fun(w:Int)(y:List By)=>
 (idx L w).bind fun c=>
 (AZ y [By.mk i c]).bind fun e=>
 some e) 0 (L.length:Int) s=some (s++L.map (By.mk i)):=by
 rw [Bz (fun j=>s++(L.take j.toNat).map (By.mk i)) (by omega) (by simp),Int.toNat_natCast,List.take_length];intro j o u;rw[AD o u,bs,AY (by simp;unfold At;omega),bs,B3 o u,List.map_append,<-d4];rfl
theorem Yi(F:Jd rules)(h:gt):∃v,TN t rules h=some v/\v.1.length<=60000/\(∀m∈v.1,(Fx t rules h m).2=0)/\(v.2=0\/∃r∈rules,v.2=(IJ t r h).2):=by
 unfold TN;have D:=F.len;rcases O4 (f:=fun(j:Int)(G:List By)=>
  (idx rules j).bind fun c=>
  if (!decide ((IJ t c h).2=0))=true then
  some (.ret ([],(IJ t c h).2))
  else
  (pq (fun(H:Int)(u:List By)=>
  (idx (IJ t c h).1 H).bind fun w=>
  (AZ u [By.mk j w]).bind fun y=>
  some y) 0 ((IJ t c h).1.length:Int) G).bind fun u=>
  some (.next u)) (fun i s=>(s.length:Int)<=5000*i/\∀m∈s,(Fx t rules h m).2=0) (fun _=>False) (fun v=>v.1=[]/\∃r∈rules,v.2=(IJ t r h).2) (a:=0) (b:=rules.length) (s:=[]) (by omega) ⟨by simp,by simp⟩ (fun i s j z hi=>by
   have J:=mS (t:=t) (r:=AA rules i) (h:=h);rw[AD j z,bs];by_cases e:(IJ t (AA rules i) h).2=0
   .left;rw[b6 (by simp[e]),g6 (by omega),bs];refine⟨_,rfl,by rw[cE,d3];omega,fun m o=>?_⟩;rcases List.mem_append.1 o with o|o
    .exact hi.2 m o
    .obtain⟨x,I,rfl⟩:=List.mem_map.1 o;unfold Fx;rw[b6 (by dsimp only;omega)];exact pY I
   .right;right;rw[az (by simp[e])];exact⟨_,rfl,rfl,_,AF j z,rfl⟩)with⟨s',e,h1⟩|⟨v,e,h1⟩
 .rw[e,B6];have E:=h1.resolve_right id;exact⟨_,rfl,by have:=E.1;dsimp only;omega,E.2,.inl rfl⟩
 .rw[e,OA];exact⟨_,rfl,by rw[h1.1];simp,by rw[h1.1];simp,.inr h1.2⟩
theorem nU(c:Jd rules)(h:gt):∃v,TN t rules h=some v/\v.1.length<=60000/\∀m∈v.1,(Fx t rules h m).2=0:=by
 obtain ⟨v,e,j,o,_⟩:=Yi (t:=t) c h;exact⟨v,e,j,o⟩
def Pl(c n:Int):Int:=if c.tmod n<0 then c.tmod n+n else c.tmod n
theorem Vs{c n:Int}(h:0<n):-n<c.tmod n/\c.tmod n<n:=⟨Int.lt_tmod_of_pos c h,Int.tmod_lt_of_pos c h⟩
theorem aV{c n:Int}(h:0<n):0<=Pl c n/\Pl c n<n:=by
 have:=Vs (c:=c) h
 grind [Pl]
theorem jG{c n:Int}(h:0<n):(c.tmod n+n).tmod n=Pl c n:=by
 have:=Vs (c:=c) h;unfold Pl;rw[Int.tmod_eq_emod_of_nonneg (by omega)];split
 .exact Int.emod_eq_of_lt (by omega) (by omega)
 .rw[Int.add_emod_right];exact Int.emod_eq_of_lt (by omega) (by omega)
noncomputable def S7(t:ej)(rules:List hO)(choices:Fp)(i0:Int)(s0:gt×AQ×AQ):Option (Bu (gt×AQ×AQ) (AQ×Int)):=
 (TN t rules s0.1).bind fun x44=>
 if (!decide (x44.2=0))=true then
 some (.ret (zD,x44.2))
 else
 if (decide ((x44.1.length:Int)=0))=true then
 some (.brk (s0.1,s0.2.1,s0.2.2))
 else
 (AZ s0.2.2.j4 [AA x44.1 (Pl (AA choices i0) x44.1.length)]).bind fun x81=>
 some (.next ((Fx t rules s0.1 (AA x44.1 (Pl (AA choices i0) x44.1.length))).1.tc,s0.2.1,AQ.mk s0.2.2.kp x81))
noncomputable def S8(t:ej)(rules:List hO)(h:gt)(choices:Fp):Option (AQ×Int):=
 if Gb t rules h≠0 then some (zD,Gb t rules h)else if 30<choices.length then some (zD,3)else
 fl (kq (ρ:=(AQ×Int)) (S7 t rules choices) 0 (choices.length:Int) (h,zD,AQ.mk h [])) (fun s0=>some (s0.2.2,0)) (fun v0=>some v0)
theorem jA(hf:A6 t)(o:Jd rules)(h:gt)(choices:Fp):DK t rules h choices=S8 t rules h choices:=by
 unfold DK S8;rw[YW hf o,bs];by_cases u:Gb t rules h=0
 .rw[b6 (by simp[u]),b6 (show¬Gb t rules h≠0 from fun k=>k u)];by_cases E:30<choices.length
  .grind
  rw [b6 (by simp;omega),b6 E];obtain⟨_,K,_,I⟩:=Qn hf u;rw[Sg (OX hf (by assumption) I),bs];congr 1;refine Ui fun j s z D=>?_;unfold S7;obtain⟨v,e,N,O⟩:=nU (t:=t) o s.1;rw[AD z D,bs,qj hf o,e,bs,bs];by_cases F:v.2=0
  .have w:¬(!decide (v.2=0))=true:=by simp[F]
   rw [b6 w,b6 w];by_cases G:(v.1.length:Int)=0
   .grind
   have y:¬decide ((v.1.length:Int)=0)=true:=by rw[decide_eq_true_iff];exact G
   rw [b6 y,b6 y];have H:0<(v.1.length:Int):=by omega
   have J:=Vs (c:=AA choices j) H
   grind [aV,AA,Cj,bs,AW,jG,AD,Ya,AF]
  grind
 grind
end Go.Sf.Sc
