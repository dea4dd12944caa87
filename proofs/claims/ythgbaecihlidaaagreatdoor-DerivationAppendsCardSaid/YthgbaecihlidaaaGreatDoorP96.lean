/- Plain lemmas: what the functions of the program and of the reference compute. -/
import Derived.Test.YthgbaecihlidaaaGreatDoorSfF
import Derived.Test.YthgbaecihlidaaaGreatDoorP46
set_option linter.all false
set_option maxRecDepth 100000
namespace Go.Sf.Sc
open Go Go.Sf
def XG(p g:d6)(m:eb):d6:=⟨m.d5.map (AA g.d5),p.d7⟩
variable{l:Fp}
theorem Oa{n x:Int}:x∈BI l n↔(0<=x/\x<n)/\x∉l:=by
 unfold BI;rw[List.mem_filter];constructor
 .grind[Int.natCast_nonneg,CR]
 .rintro⟨⟨c,e⟩,j⟩;refine⟨List.mem_map.2 ⟨x.toNat,List.mem_range.2 (by omega),Int.toNat_of_nonneg c⟩,?_⟩
  grind [hasB,CR]
theorem Po(l:Fp)(n:Int):(BI l n).Pairwise (·<·):=by grind[BI,List.pairwise_lt_range.imp]
def FL(images fu:Fp):Fp:=(BI fu images.length).map (AA images)
theorem SM{images fu:Fp}{x:Int}:x∈FL images fu↔∃i:Int,(0<=i/\i<images.length)/\i∉fu/\AA images i=x:=by grind[FL,Oa]
def AaG(images fu:Fp):Bool:=n8 (fun a=>n8 (fun b=>decide (AA images a=AA images b)&&(!hasB fu a||!hasB fu b)) (a+1) images.length) 0 images.length
variable{a b:Int}
theorem bh{images fu:Fp}(h:AaG images fu=false)(a0:0<=a)(a1:a<images.length)(u:0<=b)(s:b<images.length)(w:a∈fu)(e:AA images a=AA images b):b∈fu:=by
 unfold AaG at h;rw[Bk]at h;by_cases j:a=b
 .exact j▸w
 by_cases y:a<b
 .have c:=h a a0 a1;rw[Bk]at c;have o:=c b (by omega) s;rw[decide_eq_true e,Bool.true_and,Bool.or_eq_false_iff]at o
  grind [CR]
 .have c:=h b u s;rw[Bk]at c;have o:=c a (by omega) a1;rw[decide_eq_true e.symm,Bool.true_and,Bool.or_eq_false_iff]at o
  grind [CR]
variable{i:Int}
theorem SO{images fu:Fp}(h:AaG images fu=false)(c:0<=i)(e:i<images.length)(j:i∈fu):AA images i∉FL images fu:=by grind[SM,bh]
def Q9(g:d6)(fu:Bo)(m:eb)(i:Int):Bool:=
 !hasB m.d7 i&&(hasB (FL m.d5 fu.d5) (AA g.d7 i).nd||hasB (FL m.d5 fu.d5) (AA g.d7 i).To)
def Nj(g:d6)(fu:Bo)(m:eb):Bo:=⟨BI (FL m.d5 fu.d5) g.d5.length,BI (FL m.d7 fu.d7) g.d7.length⟩
def Q7(l g:d6)(fu:Bo)(m:eb):Bo×Int:=
 if Hw l g m≠0 then(⟨[],[]⟩,Hw l g m)else if Dt l fu≠0 then(⟨[],[]⟩,Dt l fu)else
 if (AaG m.d5 fu.d5||AaG m.d7 fu.d7)=true then(⟨[],[]⟩,15)else
 if n8 (Q9 g fu m) 0 g.d7.length=true then(⟨[],[]⟩,14)else(Nj g fu m,0)
structure XS(l g:d6)(fu:Bo)(m:eb):Prop where
 mor:Q0 l g m
 part:Ns l fu
 ek:AaG m.d5 fu.d5=false
 em:AaG m.d7 fu.d7=false
 free:∀i:Int,0<=i->i<g.d7.length->Q9 g fu m i=false
variable{g:d6}
theorem Yf{p:Bo}(h:Dt g p=0):Bn g=0/\LS g p=0:=by grind[Dt]
theorem Z0{l g:d6}{fu:Bo}{m:eb}(h:(Q7 l g fu m).2=0):XS l g fu m/\Q7 l g fu m=(Nj g fu m,0):=by
 unfold Q7 at h|-;split at h
 .grind
 rename_i e;rw[b6 e];split at h
 .grind
 rename_i j;rw[b6 j];split at h
 .grind
 rename_i c;rw[b6 c];split at h
 .grind
 rename_i o;rw[b6 o];simp[not_or]at c;exact⟨⟨Ut (Classical.not_not.1 e),Sd (Yf (Classical.not_not.1 j)).2,c.1,c.2,Bk.1 (by simpa using o)⟩,rfl⟩
theorem fU{l g:d6}{fu:Bo}{m:eb}(h:XS l g fu m):LS g (Nj g fu m)=0:=by
 have w:=h.mor;have H:=w.gb;have I:∀x∈(Nj g fu m).d5,0<=x/\x<g.d5.length:=fun x o=>FH o;have J:∀x∈(Nj g fu m).d7,0<=x/\x<g.d7.length:=fun x o=>FH o;have j:∀{l:Fp}{n:Int},(∀x∈l,0<=x/\x<n)->l.Pairwise (·<·)->M1 l n=0:=by
  grind [M1,A5,AF,Gh]
 unfold LS;rw[j I (Po _ _),j J (Po _ _)];simp;rw[A5.2 fun i F G=>?_]
 .rfl
 have o:=AF F G;generalize AA (Nj g fu m).d7 i=x at o;have c:(0<=x/\x<g.d7.length)/\x∉FL m.d7 fu.d7:=Oa.1 o;have hf:=H.fit _ (AF c.1.1 c.1.2);have y:(AA g.d7 x).nd∉FL m.d5 fu.d5/\(AA g.d7 x).To∉FL m.d5 fu.d5:=by
  by_cases hi:x∈m.d7
  .obtain⟨k,D,E,e⟩:=Bh hi;have s:k∈fu.d7:=by
    by_cases s:k∈fu.d7
    .exact s
    .exact absurd (SM.2 ⟨k,⟨D,E⟩,s,e⟩) c.2
   have ends:=h.part.ends k s;have he:=w.edge k D E;rw[e]at he;have z:=h.part.ek.1;have K:=z _ ends.1;have N:=z _ ends.2;have P:=w.AaH;rw[<-he.2.2.1,<-he.2.2.2];exact⟨SO h.ek K.1 (by omega) ends.1,SO h.ek N.1 (by omega) ends.2⟩
  .have hd:=h.free x c.1.1 c.1.2;unfold Q9 at hd;rw[show hasB m.d7 x=false from by cases O:hasB m.d7 x with|false=>rfl|true=>exact absurd (CR.1 O) hi,Bool.not_false,Bool.true_and,Bool.or_eq_false_iff]at hd;exact⟨fun u=>by rw[CR.2 u]at hd;exact absurd hd.1 (by decide),fun u=>by rw[CR.2 u]at hd;exact absurd hd.2 (by decide)⟩
 grind [hasB,Nj,AA,CR,Oa]
def JK(n:Nat)(l:Fp):Fp:=(A7 n).map (EE l)
variable{v:Int}
theorem Vc(h:v∉l):EE l v=-1:=by grind[EE,A5,AF]
theorem S7(l:Fp)(v:Int):-1<=EE l v/\EE l v<l.length:=by
 by_cases h:v∈l
 .have:=HD h;omega
 .rw[Vc h];omega
theorem RO:0<=EE l v↔v∈l:=by grind[Vc,HD]
theorem OA(n:Nat)(l:Fp):(JK n l).length=n:=by unfold JK;rw[d3,BD]
variable{n:Nat}
theorem ZA(c:0<=i)(e:i<n):AA (JK n l) i=EE l i:=IY _ c e
theorem iR(h:l.Nodup)(c:0<=i)(e:i<l.length):EE l (AA l i)=i:=by
 have j:=HD (AF c e)
 grind [EE,AA,Gh]
def Q6(fu into at_:Fp)(n i:Int):Int:=if hasB into i=true then AA at_ (AA fu (EE into i))else n+(BI into i).length
def Tm(count:Nat)(fu into at_:Fp)(n:Int):Fp:=(A7 count).map (Q6 fu into at_ n)
theorem VW(count:Nat)(fu into at_:Fp)(n:Int):(Tm count fu into at_ n).length=count:=by unfold Tm;rw[d3,BD]
variable{count:Nat}
theorem di{fu into at_:Fp}{n i:Int}(c:0<=i)(e:i<count):AA (Tm count fu into at_ n) i=Q6 fu into at_ n i:=IY _ c e
theorem QA(h:0<=i):((BI l i).length:Int)<=i:=by grind[Pp]
end Go.Sf.Sc
namespace Go.Sf.Sc
open Go Go.Sf
variable{α:Type}
theorem UD{P:List α->Prop}(c:P [])(e:∀l a,P l->P (l++[a]))(l:List α):P l:=by
 have:∀l:List α,P l.reverse:=by
  intro l
  induction l with
  |nil=>exact c|cons a l j=>rw[List.reverse_cons];exact e _ _ j
 rw [<-List.reverse_reverse l];exact this _
def OK(L:BR):BR:=L.foldl (fun m p=>m.set p.1 p.2) []
theorem YI(L:BR)(p:(Int×Int)×Int):OK (L++[p])=(OK L).set p.1 p.2:=by
 unfold OK
 grind
def Qx(L:BR):Prop:=∀p∈L,∀q∈L,p.1=q.1->p.2=q.2
variable{k:Int×Int}{v:Int}
theorem SP:∀{m:BR},m.look k=some v->(k,v)∈m
 |[],h=>by cases h
 |p::r,h=>by
  unfold BR.look at h;split at h
  .grind
  .exact List.mem_cons_of_mem _ (SP h)
theorem WW:∀{m:BR},m.look k=none->∀p∈m,p.1≠k
 |[],_,p,c=>by cases c
 |q::r,h,p,c=>by
  unfold BR.look at h;split at h
  .cases h
  .rename_i e;rcases List.mem_cons.1 c with rfl|c
   .exact e
   .exact WW h p c
theorem ah:∀{m:BR},m.look k=none->m.set k v=m++[(k,v)]
 |[],_=>rfl|p::r,h=>by
  unfold BR.look at h;unfold BR.set;split at h
  .cases h
  .rename_i e;rw[b6 e,ah h];rfl
theorem Yz:∀{m:BR},m.look k=some v->m.set k v=m
 |[],h=>by cases h
 |p::r,h=>by
  unfold BR.look at h;unfold BR.set;split at h
  .grind
  .rename_i e;rw[b6 e,Yz h]
theorem bc(V:List Fp)(p:(Int×Int)×Int):CQ (CQ V p) p=CQ V p:=by
 unfold CQ;split
 .apply List.ext_getElem?
  grind [Option.map_eq_map,Option.map_map,List.set_set]
 .rfl
theorem hU{m:BR}(hd:m.Dis){p:(Int×Int)×Int}(c:p∈m)(V:List Fp):CQ (m.foldl CQ V) p=m.foldl CQ V:=by
 have e:m.Perm (m.erase p++[p]):=(List.perm_cons_erase c).trans (List.perm_append_singleton p (m.erase p)).symm;rw[<-Ua hd e V,List.foldl_append];exact bc _ _
theorem Qx.sub{L M:BR}(h:Qx L)(c:∀p∈M,p∈L):Qx M:=fun p e q j=>h p (c p e) q (c q j)
theorem aD(L:BR):Qx L->(OK L).Dis/\(∀p,p∈OK L↔p∈L)/\∀V,(OK L).foldl CQ V=L.foldl CQ V:=by
 refine UD (P:=fun L=>Qx L->(OK L).Dis/\(∀p,p∈OK L↔p∈L)/\∀V,(OK L).foldl CQ V=L.foldl CQ V) (fun _=>⟨List.Pairwise.nil,fun p=>Iff.rfl,fun V=>rfl⟩) (fun L p e c=>?_) L;obtain⟨w,u,y⟩:=e (c.sub fun q j=>List.mem_append_left _ j);rw[YI];cases o:(OK L).look p.1 with
 |none=>
  grind [ah,BR.set_dis]
 |some v=>
  have s:=SP o;have hv:v=p.2:=c (p.1,v) (List.mem_append_left _ ((u _).1 s)) p (by simp) rfl
  grind [Yz,List.mem_singleton,hU]
def PU(L:BR):Bool:=n8 (fun i=>n8 (fun k=>decide ((AA L k).1=(AA L i).1)&&!decide ((AA L k).2=(AA L i).2)) 0 i) 0 L.length
variable{L:BR}
theorem V3(h:PU L=false):Qx L:=by
 intro p o q s e;obtain⟨a,a0,a1,rfl⟩:=Bh o;obtain⟨b,u,w,rfl⟩:=Bh s;unfold PU at h;rw[Bk]at h;by_cases c:a=b
 .rw[c]
 by_cases y:a<b
 .have j:=h b u w;rw[Bk]at j
  grind
 .have j:=h a a0 a1;rw[Bk]at j
  grind
theorem iE(L:BR)(V:List Fp):KM (L.foldl CQ V) V:=by
 induction L generalizing V with
 |nil=>rfl|cons p r c=>exact(c (CQ V p)).trans (V9 V p)
end Go.Sf.Sc
namespace Go.Sf.Sc
open Go Go.Sf
variable{t:ej}{p g:d6}{inj:Bool}
theorem dh{m:eb}(h:IH t p g m inj=0):ED t p g=0/\Oc t p g m=0/\Vu t p g m:=by grind[Xp,IH]
variable{α:Type}
theorem Wy[Inhabited α](l:List α):(A7 l.length).map (AA l)=l:=by grind[db,d3,BD,IY]
variable{β:Type}
theorem pB[Inhabited α](l:List α)(f:α->β):l.map f=(A7 l.length).map fun j=>f (AA l j):=by
 rw [show(fun j=>f (AA l j))=f∘AA l from rfl,<-List.map_map,Wy]
theorem pS(hf:A6 t){m:eb}(h:IH t p g m inj=0):E3 t p g m=some (XG p g m,0):=by
 obtain ⟨c,s,e⟩:=dh h;obtain⟨_,j,y,_⟩:=RI c;unfold E3;rw[TH hf,bs,b6 (by simp[c]),Wd hf c,bs,b6 (by simp[s])];unfold DM;have:=j.ek;have:=j.em;have:=e.AaH;rw[Bq (by unfold AZ;omega),bs];rw[RJ (by omega) (fun x o=>?_) p.d7]
 .rfl
 .obtain⟨i,u,w,rfl⟩:=Bh o;exact(e.node i u w).1
variable{n:Nat}{f:Int->List α->Option (List α)}
theorem PX(q:Int->Bool)(F:Int->α)(h:∀i s,0<=i->i<(n:Int)->s.length<=i.toNat->f i s=some (if q i=true then s++[F i]else s)):pq f 0 n []=some (((A7 n).filter q).map F):=by
 have c:∀k:Nat,(((A7 k).filter q).map F).length<=k:=fun k=>by
  rw [d3];exact Nat.le_trans (List.length_filter_le _ _) (by rw[BD];exact bk _)
 have:=Bz (f:=f) (s:=[]) (fun i=>((A7 i.toNat).filter q).map F) (a:=0) (b:=n) (by omega) rfl (fun i e j=>by
  grind [I7])
 grind
theorem iA{q:Int->Bool}{F:Int->α}:decide (0<((((A7 n).filter q).map F).length:Int))=n8 q 0 n:=by
 rw [Bool.eq_iff_iff,zzX,Cf,d3];constructor
 .intro h;have c:(A7 n).filter q≠[]:=fun e=>by rw[e]at h;simp at h
  obtain ⟨x,u⟩:=List.exists_mem_of_ne_nil _ c
  grind [ES]
 .rintro⟨i,j,o,s⟩;have:i∈(A7 n).filter q:=List.mem_filter.2 ⟨ES.2 ⟨j,o⟩,s⟩
  grind
theorem ef{x:Bt}(c:x.m.d5.length<=1000):C5 x=some (FL x.m.d5 x.fu.d5):=by
 unfold C5;rw[PX (fun i=>!hasB x.fu.d5 i) (AA x.m.d5)]
 .rfl
 grind [AC,Kr,hasB,AY,AZ]
theorem cJ{x:Bt}(c:x.m.d5.length<=1000)(he:x.g.d7.length<=1000):Cz x=some ((A7 x.g.d7.length).filter (Q9 x.g x.fu x.m)):=by
 unfold Cz;rw[ef c,bs,PX (Q9 x.g x.fu x.m) id]
 .rw[bs,List.map_id]
 .intro i s e j o;rw[AC e j,bs,Kr,bs,Kr,bs,Kr,bs];unfold Q9;change (if(!hasB x.m.d7 i)=true then(if hasB (FL x.m.d5 x.fu.d5) (AA x.g.d7 i).nd=true then some true else some (hasB (FL x.m.d5 x.fu.d5) (AA x.g.d7 i).To)).bind _ else some false).bind _=_;cases hasB x.m.d7 i<;>cases hasB (FL x.m.d5 x.fu.d5) (AA x.g.d7 i).nd<;>cases hasB (FL x.m.d5 x.fu.d5) (AA x.g.d7 i).To<;>simp[AY (show s.length+[i].length<=AZ by simp;unfold AZ;omega)]
variable{a i:Int}
theorem PP{p:Int->Bool}(h:a<=i):n8 p a (i+1)=(n8 p a i||p i):=by
 rw [Bool.eq_iff_iff,Bool.or_eq_true,Cf,Cf]
 grind
theorem cO{images fu:Fp}(J:images.length<=100){f:Int->Int->List Jb->Option (List Jb)}(hf:∀(i j:Int)s,0<=i->i<images.length->i<j->j<images.length->s.length<=20000->f i j s=some (if(decide (AA images i=AA images j)&&(!hasB fu i||!hasB fu j))=true then s++[Jb.mk i j]else s)):
  ∃l,pq (fun(e:Int)(u:List Jb)=>(pq (fun(o:Int)(c:List Jb)=>f e o c) (AK (e+1)) (images.length:Int) u).bind fun c=>some c) 0 (images.length:Int) []=some l/\l.length<=10000/\decide (0<l.length)=AaG images fu:=by
 have key:=M6 (f:=fun(e:Int)(u:List Jb)=>(pq (fun(o:Int)(c:List Jb)=>f e o c) (AK (e+1)) (images.length:Int) u).bind fun c=>some c) (s:=[])
  (fun i s=>(s.length:Int)<=100*i/\decide (0<s.length)=n8 (fun a=>n8 (fun b=>decide (AA images a=AA images b)&&(!hasB fu a||!hasB fu b)) (a+1) images.length) 0 i) (a:=0) (b:=images.length) (by omega)
  (by refine⟨by simp,?_⟩;rw[Bk.2 (fun i z D=>by omega)];rfl) (fun i s e E F=>by
   have w:=M6 (f:=fun(o:Int)(c:List Jb)=>f i o c) (s:=s)
    (fun j s'=>(s'.length:Int)<=100*i+(j-(i+1))/\decide (0<s'.length)=(decide (0<s.length)||n8 (fun b=>decide (AA images i=AA images b)&&(!hasB fu i||!hasB fu b)) (i+1) j)) (a:=i+1) (b:=images.length) (by omega)
    (by refine⟨by have:=F.1;omega,?_⟩;rw[Bk.2 (fun i z D=>by omega),Bool.or_false]) (fun j s' K G y=>by
     refine ⟨_,hf i j s' e E (by omega) G (by have:=y.1;omega),?_,?_⟩
     .grind
     .rw[PP (by omega),<-Bool.or_assoc,<-y.2]
      grind)
   grind [AV,PP])
 obtain ⟨l,H,N,I⟩:=key;exact⟨l,H,by omega,I⟩
theorem aN{images fu:Fp}(G:images.length<=100):∃l,FX images fu=some l/\l.length<=10000/\decide (0<l.length)=AaG images fu:=by
 unfold FX;obtain⟨l,N,O⟩:=cO (fu:=fu) G (f:=fun c e F=>
  (idx images c).bind fun o=>
  (idx images e).bind fun u=>
  (if(decide (o=u))=true then((slices_Contains_int fu c).bind fun w=>
  (if(!w)=true then some true else((slices_Contains_int fu e).bind fun y=>
  some (!y))).bind fun z=>
  some (z))else some false).bind fun D=>
  if D=true then
  (Au F [Jb.mk c e]).bind fun E=>
  some E
  else
  some F) (fun i j s c H J I K=>by
   have hh:∀(l:Fp)(v:Int),slices_Contains_int l v=some (hasB l v):=Kr;simp[AC c H,AC (show 0<=j by omega) I,hh]
   grind [AA,hasB,AY,AZ])
 grind
theorem Yc{images fu:Fp}(z:n<=1000)(hi:∀x∈images,0<=x/\x<n):F9 n images fu=some (BI (FL images fu) n):=by
 unfold F9 J1;rw[az (by omega),bs];rw[Bz (fun i=>(A7 n).map fun k=>n8 (fun j=>!hasB fu j&&decide (AA images j=k)) 0 i) (by omega)]
 .rw[bs,d3,BD,PX (fun i=>!hasB (FL images fu) i) id]
  .rw[bs,List.map_id];rfl
  .intro i s c o F;rw[AC c (by rw[d3,BD];exact o),bs,IY _ c o];have e:n8 (fun j=>!hasB fu j&&decide (AA images j=i)) 0 images.length=hasB (FL images fu) i:=by
    rw [Bool.eq_iff_iff,Cf,CR,SM];constructor
    .rintro⟨j,w,y,h⟩;rw[tg,zzX]at h
     grind [CR]
    .rintro⟨j,⟨w,y⟩,H,h⟩;refine⟨j,w,y,?_⟩;rw[tg,zzX]
     grind [hasB,CR]
   grind [hasB,FL,AY,AZ]
 .refine List.ext_getElem (by simp[BD]) (fun k D E=>?_)
  grind [Int.toNat_natCast,Bk]
 .intro i c o;have u:=hi _ (AF c o);have hh:∀(l:Fp)(v:Int),slices_Contains_int l v=some (hasB l v):=Kr;rw[AC c o,bs,hh,bs];cases G:hasB fu i
  .rw[az (by decide),AC u.1 (by rw[d3,BD];exact u.2),bs,KF _ u.1]
   grind [Dv,PP,AA]
  grind [Dv,PP]
theorem nT{a b:Nat}(c:a<=10000)(e:b<=10000):decide (0<AK ((a:Int)+(b:Int)))=(decide (0<a)||decide (0<b)):=by
 rw [AV (by omega) (by omega),Bool.eq_iff_iff,Bool.or_eq_true]
 grind
theorem pN{l g:d6}{fu:Bo}{m:eb}(y:Qz fu):GH l g fu m=some (Q7 l g fu m):=by
 unfold GH Cn Q7;simp only[];rw[XK,bs,aO y,bs];by_cases j:¬Hw l g m=0
 .grind
 have j:=Classical.not_not.1 j;rw[b6 (by simp[j]),bs,b6 (show¬Hw l g m≠0 by simp[j])];refine FK fun J=>?_;have c:=Ut j;have a1:=c.ga.ek;have a2:=c.ga.em;have a3:=c.AaH;have O:=c.AaN;have P:=c.gb.ek;have Q:=c.gb.em;unfold DW;obtain⟨u,z,D,E⟩:=aN (fu:=fu.d5) (images:=m.d5) (by omega);obtain⟨v,G,H,I⟩:=aN (fu:=fu.d7) (images:=m.d7) (by omega);simp only[];rw[z,bs,G,bs,bs];simp only[];rw[nT D H,E,I];refine dg fun K=>?_;rw[cJ (by show m.d5.length<=1000;omega) (by show g.d7.length<=1000;omega),bs];have e:=iA (n:=g.d7.length) (q:=Q9 g fu m) (F:=id);rw[List.map_id]at e;rw[e];refine dg fun N=>?_;rw[Yc (by omega) (fun x o=>?_),bs,Yc (by omega) (fun x o=>?_),bs]
 .rfl
 .obtain⟨i,s,w,rfl⟩:=Bh o;exact(c.edge i s w).1
 .obtain⟨i,s,w,rfl⟩:=Bh o;exact(c.node i s w).1
end Go.Sf.Sc
namespace Go.Sf.Sc
open Go Go.Sf
variable{α β:Type}
theorem YH[Inhabited α]{l:List α}{F:α->β}{f:Int->List β->Option (List β)}(h:∀(i:Int)s,0<=i->i<l.length->s.length<=i.toNat->f i s=some (s++[F (AA l i)])):pq f 0 l.length []=some (l.map F):=by
 have:=Bz (f:=f) (s:=[]) (fun i=>(l.take i.toNat).map F) (a:=0) (b:=l.length) (by omega) (by simp) (fun i c e=>by
  grind [d3,ca,B3])
 rwa [Int.toNat_natCast,List.take_length]at this
variable{n:Nat}{l:Fp}
theorem aQ(G:n<=1000)(y:l.length<=1000)(o:l.Pairwise (·<·)):Kd n l=some (JK n l):=by
 unfold Kd J1;rw[az (by omega),bs,Int.toNat_natCast,List.length_replicate,Bz (fun i=>(A7 n).map fun j=>if j<i then EE l j else 0) (by omega)]
 .rw[bs];congr 1;exact Dv fun j z s=>az s
 .refine List.ext_getElem (by simp[BD]) (fun k D H=>?_);have e:(A7 n)[k]'(by simpa[BD]using D)=(k:Int):=by simp[A7]
  simp only[List.getElem_map,List.getElem_replicate,e];rw[b6 (by omega)]
 .intro i u F;rw[RY y o,bs,AC u (by rw[d3,BD];exact F),bs];have e:∀v:Int,v=EE l i->some (BN ((A7 n).map fun j=>if j<i then EE l j else 0) i v)=some ((A7 n).map fun j=>if j<i+1 then EE l j else 0):=by
   rintro v rfl;rw[KF _ u];congr 1;refine Dv fun j z s=>?_;by_cases e:j=i
   .rw[az e,az (by omega),e]
   .rw[b6 e];by_cases w:j<i
    .rw[az w,az (by omega)]
    .rw[b6 w,b6 (by omega)]
  cases c:hasB l i with
  |false=>
   rw [az (by rfl)];exact e _ (Vc fun E=>by rw[CR.2 E]at c;cases c).symm
  |true=>
   rw [b6 (by simp)];exact e _ (Tp o (CR.1 c))
structure UH(count:Nat)(fu into at_:Fp):Prop where
 few:count<=1000
 nodup:into.Nodup
 len:into.length=fu.length
 inn:∀x∈into,0<=x/\x<count
 kin:∀x∈fu,0<=x/\x<at_.length
 pos:∀x∈fu,0<=AA at_ x
theorem iW(c:l.Nodup)(h:∀x∈l,0<=x/\x<n):l.length<=n:=by
 have:=List.Nodup.length_le_of_subset (l₁:=l) (l₂:=A7 n) c (fun x e=>ES.2 (h x e))
 rwa [BD]at this
variable{i:Int}
theorem VG(h:0<=i):((BI l (i+1)).length:Int)=(BI l i).length+if i∈l then 0 else 1:=by grind[Mh,cE,hasB,CR]
theorem S5{fu into at_:Fp}{n i:Int}(h:i∈into):Q6 fu into at_ n i=AA at_ (AA fu (EE into i)):=by grind[Q6,CR]
theorem Tn{fu into at_:Fp}{n i:Int}(h:i∉into):Q6 fu into at_ n i=n+(BI into i).length:=by grind[Q6,CR]
variable{count:Nat}
theorem Wa{fu into c o:Fp}{n:Int}(h:UH count fu into (c.map (AA o)))(J:∀x∈c,0<=x/\x<o.length)(S:0<=n)(U:n<=1000):F7 count fu into c o n=some (Tm count fu into (c.map (AA o)) n):=by
 have X:=h.few;have K:=iW h.nodup h.inn;have N:=h.len;unfold F7 D6;rw[az (by refine⟨rfl,by omega,by omega⟩),bs,Int.toNat_natCast];rw[Bz (fun i=>(A7 count).map fun k=>if 0<=EE into k/\EE into k<i then Q6 fu into (c.map (AA o)) n k else -1) (by omega)]
 .rw[bs,d3,BD,Bz (fun i=>(n+((BI into i).length:Int),(A7 count).map fun k=>if k<i\/k∈into then Q6 fu into (c.map (AA o)) n k else -1)) (by omega)]
  .rw[bs];congr 1;exact Dv fun j G E=>az (.inl E)
  .show _=(n,_);congr 1
   .simp[BI]
   .refine Dv fun j G E=>?_;have I:=RO (l:=into) (v:=j);have O:=S7 into j;by_cases e:j∈into
    .rw[az (.inr e),az ⟨I.2 e,O.2⟩]
    .rw[b6 (by rintro(s|s);omega;exact e s),b6 fun s=>e (I.1 s.1)]
  .intro i w z;have Y:=QA (l:=into) w;rw[AC w (by rw[d3,BD];exact z),bs,IY _ w z];by_cases hi:i∈into
   .have P:=HD hi;have H:=AF (l:=fu) P.1 (by have:=h.len;omega);have Z:=h.pos _ H;rw[az (show i<i\/i∈into from .inr hi),S5 hi,b6 (by rw[zzX];omega),VG w,az hi,Int.add_zero];congr 2;refine Dv fun j G E=>?_;by_cases e:j<i\/j∈into
    .rw[az e,az (e.imp (fun h=>by omega) id)]
    .rw[b6 e,b6];rintro(s|s)
     .have:j=i:=by
       have:=fun hh=>e (.inl hh);omega
      exact e (.inr (this▸hi))
     .exact e (.inr s)
   .rw[b6 (show¬(i<i\/i∈into)by rintro(s|s);omega;exact hi s),az (by decide),bs,VG w,b6 hi,AV (by simp;omega) (by simp;omega),KF _ w,Int.add_assoc];congr 2;refine Dv fun j G E=>?_;by_cases y:j=i
    .rw[az y,az (.inl (by omega)),y,Tn hi]
    .rw[b6 y];by_cases e:j<i\/j∈into
     .rw[az e,az (e.imp (fun h=>by omega) id)]
     .rw[b6 e,b6];rintro(s|s)
      .exact e (.inl (by omega))
      .exact e (.inr s)
 .refine List.ext_getElem (by simp[BD]) (fun k V W=>?_);simp only[List.getElem_map,List.getElem_replicate];rw[b6 (by omega)];rfl
 .intro i w z;have D:=h.inn _ (AF w z);have H:=AF (l:=fu) w (by have:=h.len;omega);have u:=h.kin _ H;rw[d3]at u;have F:=J _ (AF u.1 u.2);rw[AC w z,bs,AC w (by have:=h.len;omega),bs,AC u.1 u.2,bs,AC F.1 F.2,bs,AC D.1 (by rw[d3,BD];exact D.2),bs,KF _ D.1];congr 1;refine Dv fun j G E=>?_;by_cases y:j=AA into i
  .have e:=iR h.nodup w z;rw[az y,y,e,az ⟨w,by omega⟩,S5 (AF w z),e,L3 u.1 u.2]
  .rw[b6 y];by_cases e:0<=EE into j/\EE into j<i
   .rw[az e,az ⟨e.1,by omega⟩]
   .rw[b6 e,b6];rintro⟨s,h2⟩;have Q:EE into j=i:=by
     have:=fun hh=>e ⟨s,hh⟩;omega
    have:=(HD (RO.1 s)).2.2.1;rw[Q]at this;exact y this.symm
end Go.Sf.Sc
namespace Go.Sf.Sc
open Go Go.Sf
def Fo(h:gt)(d:Bo):eb:=⟨JK h.d6.d5.length d.d5,JK h.d6.d7.length d.d7⟩
def uz(r:hO)(h:gt)(m:eb)(d:Bo):eb:=
 ⟨Tm r.gn.d6.d5.length r.tl.d5 r.sr.d5 (m.d5.map (AA (Fo h d).d5)) d.d5.length,
 Tm r.gn.d6.d7.length r.tl.d7 r.sr.d7 (m.d7.map (AA (Fo h d).d7)) d.d7.length⟩
def Tv(t:ej)(k:Int):Fp:=(At t k).map fun x=>x.Low
def Vd(tr:Fp)(e:Bc):Bc:=⟨e.mt,AA tr e.nd,AA tr e.To⟩
def SU(r:hO)(x:gt)(i:Int):Fp:=x.d6.d5++(BI r.sr.d5 i).map (AA r.gn.d6.d5)
def SV(t:ej)(r:hO)(x:gt)(i:Int):List Fp:=x.gp++(BI r.sr.d5 i).map fun k=>Tv t (AA r.gn.d6.d5 k)
def Tw(r:hO)(c:eb)(x:gt)(i:Int):List Bc:=x.d6.d7++(BI r.sr.d7 i).map fun k=>Vd c.d5 (AA r.gn.d6.d7 k)
def Cb(t:ej)(r:hO)(x:gt)(c:eb):gt:=⟨⟨SU r x r.gn.d6.d5.length,Tw r c x r.gn.d6.d7.length⟩,SV t r x r.gn.d6.d5.length⟩
def CM(h:gt)(d:Bo):gt:=⟨⟨d.d5.map (AA h.d6.d5),d.d7.map fun x=>Vd (Fo h d).d5 (AA h.d6.d7 x)⟩,d.d5.map (AA h.gp)⟩
structure Lz(x:gt):Prop where
 ek:x.d6.d5.length<=1000
 em:x.d6.d7.length<=1000
 vals:x.gp.length<=1000
 rows:∀v∈x.gp,v.length<=1000
structure dL(t:ej)(r:hO)(c:eb):Prop where
 hf:A6 t
 hv:(A1 t).2=0
 g:CN r.gn.d6
 kind:∀n∈r.gn.d6.d5,0<=n/\n<t.d5.length
 cn:c.d5.length=r.gn.d6.d5.length
variable{x:gt}
theorem cI(h:Lz x):JJ x=some x:=by
 have:=h.ek;have:=h.em;have:=h.vals;unfold JJ slices_Clone_int DM;rw[Bq (by unfold AZ;omega),bs,Bq (by unfold AZ;omega),bs];rw[Bz (fun i=>gt.mk x.d6 (x.gp.take i.toNat)) (by omega) (by rfl)]
 .rw[Int.toNat_natCast,List.take_length];rfl
 .intro i c e;have:=h.rows _ (AF c e)
  grind [AC,Bq,AZ,AY,B3]
variable{α:Type}{i:Int}
theorem HI(l:Fp)(F:Int->α)(h:0<=i):(BI l (i+1)).map F=(BI l i).map F++if i∈l then[]else[F i]:=by grind[Mh,hasB,CR]
variable{t:ej}
theorem ma(hf:A6 t)(hv:(A1 t).2=0){k:Int}(e:0<=k)(c:k<t.d5.length):I1 t k=some (Tv t k):=by
 have:=HM hf (Int.le_refl _) (C8 hv).par c;unfold I1;rw[Qq hf,Jt hv e c,bs];simp;rw[YH (F:=fun a=>a.Low) fun j s o u w=>?_]
 .rfl
 grind [AC,AY,AZ]
structure kc(h:gt)(d:Bo):Prop where
 sm:Lz h
 len:h.gp.length=h.d6.d5.length
 ek:(∀x∈d.d5,0<=x/\x<h.d6.d5.length)/\d.d5.length<=1000
 em:(∀x∈d.d7,0<=x/\x<h.d6.d7.length)/\d.d7.length<=1000
 ends:∀e∈h.d6.d7,(0≤e.nd/\e.nd<h.d6.d5.length)/\0≤e.To/\e.To<h.d6.d5.length
variable{R:hO}{M:AS}{h:gt}{C:eb}
theorem mW{d:Bo}(s:dL t R C)(hd:kc h d)(H:C.d7.length=R.gn.d6.d7.length)
  (y:∀i:Int,0<=i->i<R.gn.d6.d5.length->(AA C.d5 i=d.d5.length+(BI R.sr.d5 i).length↔i∉R.sr.d5))
  (z:∀i:Int,0<=i->i<R.gn.d6.d7.length->(AA C.d7 i=d.d7.length+(BI R.sr.d7 i).length↔i∉R.sr.d7)):
  Ho t (A9.mk R M h (gt.mk (d6.mk [] []) []) (Fo h d) C) d=some (A9.mk R M h (Cb t R (CM h d) C) (Fo h d) C):=by
 have I:=hd.ek.2;have J:=hd.em.2;have K:=s.g.ek;have N:=s.g.em;have F:=s.cn;unfold Ho;simp only[];rw[Bz (fun i=>A9.mk R M h (gt.mk (d6.mk ((d.d5.take i.toNat).map (AA h.d6.d5)) []) ((d.d5.take i.toNat).map (AA h.gp))) (Fo h d) C) (by omega) (by simp)]
 rotate_left
 .intro i c j;have o:=hd.ek.1 _ (AF c j);have u:=hd.len;have D:=hd.sm.rows _ (AF o.1 (by omega));rw[AC c j,bs,AC o.1 o.2,bs,AY (by simp;unfold AZ;omega),bs,AC o.1 (by omega),bs,Bq (by unfold AZ;omega),bs,AY (by simp;unfold AZ;omega),bs,JE c j,JE c j]
 rw [bs,Int.toNat_natCast,List.take_length];rw[Bz (fun i=>A9.mk R M h (gt.mk (d6.mk (d.d5.map (AA h.d6.d5)) ((d.d7.take i.toNat).map fun x=>Vd (Fo h d).d5 (AA h.d6.d7 x))) (d.d5.map (AA h.gp))) (Fo h d) C) (by omega) (by simp)]
 rotate_left
 .intro i c j;have o:=hd.em.1 _ (AF c j);have he:=hd.ends _ (AF o.1 o.2);have u:(Fo h d).d5.length=h.d6.d5.length:=OA _ _;simp only[];rw[AC c j,bs,AC o.1 o.2,bs,AC he.1.1 (by omega),bs,AC he.2.1 (by omega),bs,AY (by simp;unfold AZ;omega),bs,JE c j];rfl
 rw [bs,Int.toNat_natCast,List.take_length];rw[Bz (fun i=>A9.mk R M h (gt.mk (d6.mk (SU R (CM h d) i) (CM h d).d6.d7) (SV t R (CM h d) i)) (Fo h d) C) (by omega) (by unfold SU SV;simp[BI,CM])]
 rotate_left
 .intro i c j;have D:=QA (l:=R.sr.d5) c;have G:=AF c j;have E:=s.kind _ G;have u:(SU R (CM h d) i).length=d.d5.length+(BI R.sr.d5 i).length:=by unfold SU CM;simp
  have w:(SV t R (CM h d) i).length=d.d5.length+(BI R.sr.d5 i).length:=by unfold SV CM;simp
  simp only[u];rw[AC c j,bs,AC c (by omega),bs];by_cases hi:i∈R.sr.d5
  .rw[b6 (by rw[zzX];push_cast;exact fun e=>(y i c j).1 e hi)];unfold SU SV;rw[HI _ _ c,az hi,List.append_nil,HI _ _ c,az hi,List.append_nil]
  .rw[az (by rw[zzX];push_cast;exact(y i c j).2 hi),AY (by rw[u];simp;unfold AZ;omega),bs,ma s.hf s.hv E.1 E.2,bs,AY (by rw[w];simp;unfold AZ;omega),bs];unfold SU SV;rw[HI _ _ c,b6 hi,HI _ _ c,b6 hi,d4,d4]
 rw [bs];rw[Bz (fun i=>A9.mk R M h (gt.mk (d6.mk (SU R (CM h d) R.gn.d6.d5.length) (Tw R C (CM h d) i)) (SV t R (CM h d) R.gn.d6.d5.length)) (Fo h d) C) (by omega) (by unfold Tw;simp[BI,CM])]
 rotate_left
 .intro i c j;have D:=QA (l:=R.sr.d7) c;have he:=s.g.fit _ (AF c j);have u:(Tw R C (CM h d) i).length=d.d7.length+(BI R.sr.d7 i).length:=by unfold Tw CM;simp
  simp only[u];rw[AC c j,bs,AC c (by omega),bs];by_cases hi:i∈R.sr.d7
  .rw[b6 (by rw[zzX];push_cast;exact fun e=>(z i c j).1 e hi)];unfold Tw;rw[HI _ _ c,az hi,List.append_nil]
  .rw[az (by rw[zzX];push_cast;exact(z i c j).2 hi),AC he.2.1.1 (by omega),bs,AC he.2.2.1 (by omega),bs,AY (by rw[u];simp;unfold AZ;omega),bs];unfold Tw;rw[HI _ _ c,b6 hi,d4];rfl
 rw [bs];rfl
end Go.Sf.Sc
namespace Go.Sf.Sc
open Go Go.Sf
def XP(c:eb)(vars:Fp)(s:Bv):(Int×Int)×Int:=((AA c.d5 s.p0,s.mh),FN s.kg vars)
def Cs(r:hO)(c:eb)(vars:Fp):BR:=r.gn.ff.map (XP c vars)
def Ps(t:ej)(x:gt)(p:(Int×Int)×Int):Bool:=
 decide (p.2<(AA (At t (AA x.d6.d5 p.1.1)) p.1.2).Low)||decide ((AA (At t (AA x.d6.d5 p.1.1)) p.1.2).Aam<p.2)
structure UM(t:ej)(r:hO)(c:eb)(vars:Fp)(x:gt):Prop where
 hf:A6 t
 hv:(A1 t).2=0
 few:r.gn.ff.length<=1000
 fewv:vars.length<=1000
 slot:∀s∈r.gn.ff,(0<=s.p0/\s.p0<c.d5.length)/\(-1<=s.kg.Var/\s.kg.Var<vars.length)/\
  (0<=AA c.d5 s.p0/\AA c.d5 s.p0<x.d6.d5.length)/\(0<=s.mh/\s.mh<(At t (AA x.d6.d5 (AA c.d5 s.p0))).length)
 kind:∀n∈x.d6.d5,0<=n/\n<t.d5.length
 Ab5:x.gp.length=x.d6.d5.length
 rows:∀i:Int,0<=i->i<x.d6.d5.length->(AA x.gp i).length=(At t (AA x.d6.d5 i)).length
variable{L:BR}{i:Int}
theorem bU(c:0<=i)(e:i<=L.length)(h:∀j,0<=j->j<i->n8 (fun k=>decide ((AA L k).1=(AA L j).1)&&!decide ((AA L k).2=(AA L j).2)) 0 j=false):Qx (L.take i.toNat):=by grind[V3,PU,Bk,ca,UP,Oi]
def Xu(L:BR)(i:Int):Bool:=n8 (fun k=>decide ((AA L k).1=(AA L i).1)&&!decide ((AA L k).2=(AA L i).2)) 0 i
theorem gu(H:0<=i)(I:i<L.length)(w:Qx (L.take i.toNat)):
  (((OK (L.take i.toNat)).look (AA L i).1).isSome&&(!decide (((OK (L.take i.toNat)).look (AA L i).1).getD 0=(AA L i).2)))=Xu L i:=by
 obtain ⟨J,z,K⟩:=aD _ w;unfold Xu;cases y:(OK (L.take i.toNat)).look (AA L i).1 with
 |none=>
  rw [Option.isSome_none,Bool.false_and];refine Eq.symm (Bk.2 fun k s u=>?_);have o:AA L k∈L.take i.toNat:=by
   rw [<-Oi (n:=i.toNat) (by omega)]
   grind [AF,ca]
  rw [decide_eq_false (WW y _ ((z _).2 o)),Bool.false_and]
 |some v=>
  have o:=(z _).1 (SP y);rw[Option.isSome_some,Bool.true_and,Option.getD_some];have c:∀k,0<=k->k<i->(AA L k).1=(AA L i).1->(AA L k).2=v:=fun k s u e=>by
   have E:AA L k∈L.take i.toNat:=by
    rw [<-Oi (n:=i.toNat) (by omega)]
    grind [AF,ca]
   exact w _ E _ o e
  obtain ⟨k,s,u,D⟩:=Bh o;rw[ca]at u;rw[Oi (by omega)]at D;rw[Bool.eq_iff_iff,Cf];constructor
  .intro h;refine⟨k,s,by omega,?_⟩;rw[D,decide_eq_true rfl,Bool.true_and];exact h
  .rintro⟨j,F,G,h⟩;rw[tg,zzX]at h;rw[<-c j F G h.1];exact h.2
theorem Y3(r:hO)(c:eb)(vars:Fp)(e:0<=i)(j:i<r.gn.ff.length):AA (Cs r c vars) i=XP c vars (AA r.gn.ff i):=L3 e j
theorem PB(r:hO)(c:eb)(vars:Fp):(Cs r c vars).length=r.gn.ff.length:=d3 ..
variable{ρ:Type}
theorem gl(L:BR)(v:ρ):fst (fun i=>if Xu L i=true then some v else none) 0 L.length=if PU L=true then some v else none:=Nx
variable{t:ej}{R:hO}{M:AS}{B A:gt}{T C:eb}
theorem cH(h:UM t R C M.fq A):HK (A9.mk R M B A T C)=some (if PU (Cs R C M.fq)=true then([],11)else(OK (Cs R C M.fq),0)):=by
 unfold HK;simp only[];rw[M7 (a:=0) (s:=([]:BR)) (fun i=>OK ((Cs R C M.fq).take i.toNat)) (fun i=>if Xu (Cs R C M.fq) i=true then some ([],11)else none) (by omega) rfl]
 .have:=gl (Cs R C M.fq) (([],11):BR×Int);rw[PB]at this;rw[this];by_cases e:PU (Cs R C M.fq)=true
  .rw[az e,az e];rfl
  .rw[b6 e,b6 e,<-PB R C M.fq,Int.toNat_natCast,List.take_length];rfl
 .intro i c o D;have u:=h.slot _ (AF c o);have E:Qx ((Cs R C M.fq).take i.toNat):=bU c (by rw[PB];omega) fun j y z=>by
   have:=D j y z;split at this
   .cases this
   .rename_i e;exact Bool.eq_false_iff.2 e
  have w:=gu (L:=Cs R C M.fq) c (by rw[PB];exact o) E;rw[AC c o,bs,YS u.2.1.1 u.2.1.2 h.fewv,bs,b6 (by simp),AC u.1.1 u.1.2,bs];rw[Y3 R C M.fq c o]at w;simp[XP]at w;simp only[];by_cases e:Xu (Cs R C M.fq) i=true
  .refine(az (w.trans e)).trans ?_;rw[az e];rfl
  .refine(b6 (fun h=>e (w.symm.trans h))).trans ?_;rw[b6 e,B3 c (by rw[PB];exact o),YI,Y3 R C M.fq c o];rfl
variable{α:Type}
theorem aG{f:α->K1}{g:α->Bool}:∀{l:List α},(∀p∈l,f p=some (g p))->AaM f l=some (l.all g)
 |[],_=>rfl|p::r,h=>by
  unfold AaM;rw[h p List.mem_cons_self,bs,aG fun q c=>h q (List.mem_cons_of_mem _ c),bs,List.all_cons]
variable{r:hO}{x:gt}
theorem jS{c:eb}{vars:Fp}(h:UM t r c vars x){s:Bv}(w:s∈r.gn.ff){V:List Fp}(y:KM V x.gp):
  idx V (AA c.d5 s.p0)=some (AA V (AA c.d5 s.p0))/\idx (AA V (AA c.d5 s.p0)) s.mh=some (AA (AA V (AA c.d5 s.p0)) s.mh):=by
 have j:=h.slot s w;have hv:=h.Ab5;have F:=h.rows _ j.2.2.1.1 j.2.2.1.2;have z:idx x.gp (AA c.d5 s.p0)=some (AA x.gp (AA c.d5 s.p0)):=AC j.2.2.1.1 (by omega);have D:idx (AA x.gp (AA c.d5 s.p0)) s.mh=some (AA (AA x.gp (AA c.d5 s.p0)) s.mh):=AC j.2.2.2.1 (by omega);obtain⟨E,x',a,b⟩:=y.idx z D;have o:=GQ a;have u:=GQ b;have G:=(List.getElem?_eq_some_iff.1 o.2.2).1;have e:AA V (AA c.d5 s.p0)=E:=by
  grind [AC,Option.some.inj]
 have H:=(List.getElem?_eq_some_iff.1 u.2.2).1;refine⟨AC o.1 (by omega),?_⟩;rw[e];exact AC u.1 (by omega)
theorem g7(h:UM t R C M.fq A){p:(Int×Int)×Int}(o:p∈Cs R C M.fq):NR t (A9.mk R M B A T C) p=some (!Ps t A p):=by
 obtain ⟨s,j,rfl⟩:=List.mem_map.1 o;have c:=h.slot s j;have e:=h.kind _ (AF c.2.2.1.1 c.2.2.1.2);obtain⟨u,w⟩:=jS h j (V:=A.gp) rfl;unfold NR NQ XP Ps;simp;rw[AC c.2.2.1.1 c.2.2.1.2,bs,Qq h.hf,Jt h.hv e.1 e.2,bs];simp;simp[AC c.2.2.2.1 c.2.2.2.2,u,w,Vf]
 grind
def Iv(t:ej)(x:gt)(L:BR):gt×Int:=
 if PU L=true then(⟨⟨[],[]⟩,[]⟩,11)else if L.any (Ps t x)=true then(⟨⟨[],[]⟩,[]⟩,6)else(⟨x.d6,L.foldl CQ x.gp⟩,0)
theorem pQ(h:UM t R C M.fq A):KH t (A9.mk R M B A T C)=some ((Iv t A (Cs R C M.fq)).2,if(Iv t A (Cs R C M.fq)).2=0 then A9.mk R M B (Iv t A (Cs R C M.fq)).1 T C else A9.mk R M B A T C):=by
 unfold KH Iv;rw[cH h,bs];by_cases e:PU (Cs R C M.fq)=true
 .grind
 .rw[b6 e,b6 (by simp),b6 e];obtain⟨o,s,u⟩:=aD _ (V3 (Bool.eq_false_iff.2 e));have j:AaM (NR t (A9.mk R M B A T C)) (OK (Cs R C M.fq))=some (!(Cs R C M.fq).any (Ps t A)):=by
   rw [aG (g:=fun p=>!Ps t A p) fun p c=>g7 h ((s p).1 c)]
   grind
  rw [az (by simpa using(show List.Pairwise (fun x y:(Int×Int)×Int=>x.1≠y.1) _ from o)),j,bs]
  grind [Cs,Ps,Mk]
end Go.Sf.Sc
namespace Go.Sf.Sc
open Go Go.Sf
variable{t:ej}{r:hO}
theorem Rc(h:Cy t r=0):EG t r.kl=0/\Hj t r=0/\HP t r.kl r.ea=0:=by grind[Cy]
theorem Zi(h:Hj t r=0):r.gn.fq=r.kl.fq/\r.gn.ff.length<=10/\∀i:Int,0<=i->i<r.gn.ff.length->LX t r.gn i=0:=by
 unfold Hj at h;split at h
 .omega
 split at h
 .cases h
 split at h
 .cases h
 split at h
 .cases h
 rename_i c e j o;exact⟨by omega,by omega,SJ h⟩
variable{i:Int}
theorem cf{p:ed}(h:LX t p i=0):(0<=(AA p.ff i).p0/\(AA p.ff i).p0<p.d6.d5.length)/\
  (0<=(AA p.ff i).mh/\(AA p.ff i).mh<(EU t (AA p.d6.d5 (AA p.ff i).p0)).1.length)/\-1<=(AA p.ff i).kg.Var/\(AA p.ff i).kg.Var<p.fq:=by
 unfold LX at h;dsimp only at h;split at h
 .cases h
 split at h
 .cases h
 rename_i e c;simp[zzX]at c;omega
structure Gp(t:ej)(r:hO)(h:gt)(m:AS):Prop where
 hf:A6 t
 fr:OB r
 re:Cy t r=0
 he:(Df t h).2=0
 at_:Zo t r.kl h m
 co:XS (XG r.kl.d6 h.d6 m.eb) h.d6 r.tl m.eb
abbrev dS(r:hO)(h:gt)(m:AS):Bo:=Nj h.d6 r.tl m.eb
abbrev cS(r:hO)(h:gt)(m:AS):eb:=uz r h m.eb (dS r h m)
variable{h:gt}{m:AS}
theorem Gp.hv(s:Gp t r h m):(A1 t).2=0:=(af s.re).1
theorem Gp.ro(s:Gp t r h m):dP t r:=(af s.re).2
theorem Gp.hh(s:Gp t r h m):Ko t h:=(Qm s.hf s.he).2
theorem OU(hf:A6 t)(hv:(A1 t).2=0)(hh:Ko t h):Lz h:=by
 have j:=hh.g.ek;have o:=hh.g.em;have s:=hh.len;refine⟨by omega,by omega,by omega,fun v c=>?_⟩;obtain⟨i,e,y,rfl⟩:=Bh c;have u:=hh.row i e (by omega);have w:=HM hf (Int.le_refl _) (C8 hv).par (hh.kind i e (by omega)).2;omega
theorem Gp.rem(s:Gp t r h m):kc h (dS r h m):=by
 have hh:=s.hh;have j:=hh.g.ek;have o:=hh.g.em;have l1:=Pp (FL m.eb.d5 r.tl.d5) h.d6.d5.length;have l2:=Pp (FL m.eb.d7 r.tl.d7) h.d6.d7.length;exact⟨OU s.hf s.hv hh,hh.len,⟨fun x c=>FH c,by show(BI _ _).length<=1000;omega⟩,⟨fun x c=>FH c,by show(BI _ _).length<=1000;omega⟩,fun e he=>(hh.g.fit e he).2⟩
theorem Gp.part(s:Gp t r h m):Dt h.d6 (dS r h m)=0:=by
 unfold Dt;rw[b6 (by simp[s.hh.ge])];exact fU s.co
variable{count n:Nat}
theorem dj{fu into images:Fp}{BC:Fp}(few:count<=1000)(nodup:into.Nodup)(len:into.length=fu.length)(inn:∀x∈into,0<=x/\x<count)
  (kin:∀x∈fu,0<=x/\x<images.length)(j:∀x∈images,0<=x/\x<n)(hi:AaG images fu=false)(o:BC=FL images fu):
  UH count fu into (images.map (AA (JK n (BI BC n))))/\(∀x∈fu,AA (images.map (AA (JK n (BI BC n)))) x<(BI BC n).length)/\
  ∀x∈fu,AA (images.map (AA (JK n (BI BC n)))) x=EE (BI BC n) (AA images x)/\AA images x∈BI BC n:=by
 have e:∀x∈fu,AA (images.map (AA (JK n (BI BC n)))) x=EE (BI BC n) (AA images x)/\AA images x∈BI BC n:=fun x c=>by
  grind [AF,L3,ZA,Oa,SO]
 refine ⟨⟨few,nodup,len,inn,fun x c=>by rw[d3];exact kin x c,fun x c=>?_⟩,fun x c=>?_,e⟩
 .rw[(e x c).1];exact RO.2 (e x c).2
 .rw[(e x c).1];exact(S7 _ _).2
theorem Gp.left(s:Gp t r h m):m.eb.d5.length=r.kl.d6.d5.length/\m.eb.d7.length=r.kl.d6.d7.length:=⟨s.at_.m.AaH,s.at_.m.AaN⟩
theorem Gp.Ab7(s:Gp t r h m):UH r.gn.d6.d5.length r.tl.d5 r.sr.d5 (m.eb.d5.map (AA (Fo h (dS r h m)).d5))/\
  (∀x∈r.tl.d5,AA (m.eb.d5.map (AA (Fo h (dS r h m)).d5)) x<(dS r h m).d5.length)/\
  ∀x∈r.tl.d5,AA (m.eb.d5.map (AA (Fo h (dS r h m)).d5)) x=EE (dS r h m).d5 (AA m.eb.d5 x)/\AA m.eb.d5 x∈(dS r h m).d5:=by
 have ro:=s.ro;have o:=ro.right.ek;refine dj (by omega) ro.inj.1 ?_ (fun x c=>?_) (fun x c=>?_) (fun x c=>?_) s.co.ek rfl
 .have:=ro.mor.AaH;rw[this];exact d3 ..
 .obtain⟨i,e,j,rfl⟩:=Bh c;exact(ro.mor.node i e j).1
 .have:=ro.part.ek.1 x c;have:=s.left.1;omega
 .obtain⟨i,e,j,rfl⟩:=Bh c;exact(s.at_.m.node i e j).1
theorem Gp.comE(s:Gp t r h m):UH r.gn.d6.d7.length r.tl.d7 r.sr.d7 (m.eb.d7.map (AA (Fo h (dS r h m)).d7))/\
  (∀x∈r.tl.d7,AA (m.eb.d7.map (AA (Fo h (dS r h m)).d7)) x<(dS r h m).d7.length)/\
  ∀x∈r.tl.d7,AA (m.eb.d7.map (AA (Fo h (dS r h m)).d7)) x=EE (dS r h m).d7 (AA m.eb.d7 x)/\AA m.eb.d7 x∈(dS r h m).d7:=by
 have ro:=s.ro;have o:=ro.right.em;refine dj (by omega) ro.inj.2 ?_ (fun x c=>?_) (fun x c=>?_) (fun x c=>?_) s.co.em rfl
 .have:=ro.mor.AaN;rw[this];exact d3 ..
 .obtain⟨i,e,j,rfl⟩:=Bh c;exact(ro.mor.edge i e j).1
 .have:=ro.part.em.1 x c;have:=s.left.2;omega
 .obtain⟨i,e,j,rfl⟩:=Bh c;exact s.at_.m.edge i e j
theorem Zz{fu into at_:Fp}(h:UH count fu into at_)(c:∀x∈fu,AA at_ x<n)(j:0<=i)(o:i<count):AA (Tm count fu into at_ n) i=n+(BI into i).length↔i∉into:=by
 rw [di j o];constructor
 .intro e hi;rw[S5 hi]at e;have s:=HD hi;have:=c _ (AF (l:=fu) s.1 (by have:=h.len;omega));omega
 .exact Tn
theorem Gp.grow(s:Gp t r h m):dL t r (cS r h m):=
 ⟨s.hf,s.hv,s.ro.right,(GK s.ro.right s.ro.Abp).1,VW _ _ _ _ _⟩
theorem Tc(l:Fp)(c:0<=i):∀(k:Nat),∃s,BI l (i+k)=BI l i++s
 |0=>⟨[],by simp⟩|k+1=>by
  obtain ⟨s,e⟩:=Tc l c k
  grind [Mh,d4]
variable{l:Fp}
theorem jR{i n:Int}(c:0<=i)(j:i<n)(h:i∉l):AA (BI l n) (BI l i).length=i/\((BI l i).length:Int)<(BI l n).length:=by
 obtain ⟨s,e⟩:=Tc l (i:=i+1) (by omega) (n-(i+1)).toNat
 rw [show i+1+((n-(i+1)).toNat:Int)=n by omega,Mh l c]at e
 grind [hasB,CR,AA]
variable{α:Type}
theorem dZ[Inhabited α]{l m:List α}(c:0<=i)(e:i<l.length):AA (l++m) i=AA l i:=by grind[Lk]
theorem Xk[Inhabited α]{l m:List α}:AA (l++m) (l.length+n:Int)=AA m n:=by grind[Lk,AA,Int.toNat_natCast]
variable{a:Int}
theorem iI(h:0<=a):Gt t a a=true:=by
 unfold Gt;rw[show(a+1).toNat=a.toNat+1 by omega,IX,b6 (by omega)];simp
theorem Gp.AbO(s:Gp t r h m)(u:0<=i)(w:i<r.gn.d6.d5.length):
  (0<=AA (cS r h m).d5 i/\AA (cS r h m).d5 i<(Cb t r (CM h (dS r h m)) (cS r h m)).d6.d5.length)/\
  AA (Cb t r (CM h (dS r h m)) (cS r h m)).d6.d5 (AA (cS r h m).d5 i)<t.d5.length/\Gt t (AA (Cb t r (CM h (dS r h m)) (cS r h m)).d6.d5 (AA (cS r h m).d5 i)) (AA r.gn.d6.d5 i)=true:=by
 obtain ⟨G,N,c3⟩:=s.Ab7;have H:AA (cS r h m).d5 i=Q6 r.tl.d5 r.sr.d5 (m.eb.d5.map (AA (Fo h (dS r h m)).d5)) (dS r h m).d5.length i:=di u w;have el:(Cb t r (CM h (dS r h m)) (cS r h m)).d6.d5=(dS r h m).d5.map (AA h.d6.d5)++(D3 r).map (AA r.gn.d6.d5):=rfl;rw[H,el,cE,d3,d3];by_cases hi:i∈r.sr.d5
 .have c:=HD hi;have O:=G.len;have j:=AF (l:=r.tl.d5) c.1 (by omega);have D:=c3 _ j;have E:=N _ j;have y:=G.pos _ j;rw[S5 hi];refine⟨⟨y,by push_cast;omega⟩,?_⟩;rw[dZ y (by rw[d3];exact E),L3 y E,D.1,(HD D.2).2.2.1];have o:=s.ro.part.ek.1 _ j;have I:=s.left.1;have z:=s.at_.m.node _ o.1 (by omega);have J:=s.hh.kind _ z.1.1 z.1.2;have F:=s.ro.mor.node _ c.1 c.2.1;rw[c.2.2.1]at F;have K:AA (Cx r.kl.d6 r.tl).d5 (EE r.sr.d5 i)=AA r.kl.d6.d5 (AA r.tl.d5 (EE r.sr.d5 i)):=L3 c.1 (by omega);rw[F.2,K];exact⟨J.2,z.2⟩
 .have o:=jR u w hi;rw[Tn hi];have e:((dS r h m).d5.map (AA h.d6.d5)).length=(dS r h m).d5.length:=d3 ..;refine⟨⟨by omega,?_⟩,?_⟩
  .have:((D3 r).length:Int)=(BI r.sr.d5 r.gn.d6.d5.length).length:=rfl
   push_cast
   omega
  .rw[<-e,Xk,show D3 r=BI r.sr.d5 r.gn.d6.d5.length from rfl,L3 (by omega) o.2];show AA r.gn.d6.d5 (AA (BI r.sr.d5 r.gn.d6.d5.length) (BI r.sr.d5 i).length)<(t.d5.length:Int)/\Gt t (AA r.gn.d6.d5 (AA (BI r.sr.d5 r.gn.d6.d5.length) (BI r.sr.d5 i).length)) _=true;rw[o.1];have:=(GK s.ro.right s.ro.Abp).1 _ (AF u w);exact⟨this.2,iI this.1⟩
theorem Gp.rows(s:Gp t r h m):(Cb t r (CM h (dS r h m)) (cS r h m)).gp.map (fun v=>v.length)=(Cb t r (CM h (dS r h m)) (cS r h m)).d6.d5.map fun n=>(At t n).length:=by
 show (List.map _ (_++_))=List.map _ (_++_);rw[List.map_append,List.map_append];congr 1
 .show((dS r h m).d5.map (AA h.gp)).map _=((dS r h m).d5.map (AA h.d6.d5)).map _;rw[List.map_map,List.map_map];refine List.map_congr_left fun x c=>?_;have c:=s.rem.ek.1 x c;exact s.hh.row x c.1 c.2
 grind [List.map_map,List.map_congr_left,Tv,d3]
theorem Gp.put(s:Gp t r h m):UM t r (cS r h m) m.fq (Cb t r (CM h (dS r h m)) (cS r h m)):=by
 obtain ⟨P,H,Q⟩:=Rc s.re;obtain⟨hv,S,z⟩:=Zi H;have K:=s.at_.q.vars;have D:=s.at_.len;have w:=s.rows;have y:(Cb t r (CM h (dS r h m)) (cS r h m)).gp.length=(Cb t r (CM h (dS r h m)) (cS r h m)).d6.d5.length:=by
  grind [List.length,d3]
 refine ⟨s.hf,s.hv,by omega,by omega,fun x c=>?_,fun n e=>?_,y,fun i j u=>?_⟩
 .obtain⟨i,j,u,rfl⟩:=Bh c;obtain⟨o,I,U⟩:=cf (z i j u);have E:=(GK s.ro.right s.ro.Abp).1 _ (AF o.1 o.2);rw[Jt s.hv E.1 E.2]at I;obtain⟨V,J,F⟩:=s.AbO o.1 o.2;replace F:=WT (C8 s.hv) J F;have G:(cS r h m).d5.length=r.gn.d6.d5.length:=VW _ _ _ _ _
  grind
 .have e:n∈(dS r h m).d5.map (AA h.d6.d5)++(D3 r).map (AA r.gn.d6.d5):=e;rcases List.mem_append.1 e with e|e
  .obtain⟨x,c,rfl⟩:=List.mem_map.1 e;have c:=s.rem.ek.1 x c;exact s.hh.kind x c.1 c.2
  .obtain⟨x,c,rfl⟩:=List.mem_map.1 e;have c:=FH c;exact(GK s.ro.right s.ro.Abp).1 _ (AF c.1 c.2)
 .have N:=L3 (l:=(Cb t r (CM h (dS r h m)) (cS r h m)).gp) (g:=fun v=>v.length) j (by omega);have O:=L3 (l:=(Cb t r (CM h (dS r h m)) (cS r h m)).d6.d5) (g:=fun n=>(At t n).length) j u
  grind
end Go.Sf.Sc
namespace Go.Sf.Sc
open Go Go.Sf
abbrev tz:hO:=hO.mk (⟨#[]⟩:ByteArray) (ed.mk (d6.mk [] []) [] 0 []) (ed.mk (d6.mk [] []) [] 0 []) (Bo.mk [] []) (eb.mk [] []) false (ea.mk 0 [] (eb.mk [] []) (ed.mk (d6.mk [] []) [] 0 []))
abbrev zG:A9:=A9.mk tz (AS.mk (eb.mk [] []) []) (gt.mk (d6.mk [] []) []) (gt.mk (d6.mk [] []) []) (eb.mk [] []) (eb.mk [] [])
def XI(t:ej)(r:hO)(h:gt)(m:AS):A9×Int:=
 if (Iv t (Cb t r (CM h (dS r h m)) (cS r h m)) (Cs r (cS r h m) m.fq)).2≠0 then(zG,(Iv t (Cb t r (CM h (dS r h m)) (cS r h m)) (Cs r (cS r h m) m.fq)).2)else
 if 40<(Iv t (Cb t r (CM h (dS r h m)) (cS r h m)) (Cs r (cS r h m) m.fq)).1.d6.d5.length\/80<(Iv t (Cb t r (CM h (dS r h m)) (cS r h m)) (Cs r (cS r h m) m.fq)).1.d6.d7.length then(zG,3)else
 (A9.mk r m h (Iv t (Cb t r (CM h (dS r h m)) (cS r h m)) (Cs r (cS r h m) m.fq)).1 (Fo h (dS r h m)) (cS r h m),0)
noncomputable def Jr(t:ej)(r:hO)(h:gt)(m:AS):A9×Int:=
 if Cy t r≠0 then(zG,Cy t r)else if(Df t h).2≠0 then(zG,(Df t h).2)else
 if IH t r.kl.d6 h.d6 m.eb r.po≠0 then(zG,1)else
 if (IA t r.kl h m.eb).2≠0 then(zG,(IA t r.kl h m.eb).2)else if¬(IA t r.kl h m.eb).1=m.fq then(zG,11)else
 if (Q7 (XG r.kl.d6 h.d6 m.eb) h.d6 r.tl m.eb).2≠0 then(zG,(Q7 (XG r.kl.d6 h.d6 m.eb) h.d6 r.tl m.eb).2)else
 if (Vo t r.kl r.ea h m r.po).2≠0 then(zG,(Vo t r.kl r.ea h m r.po).2)else
 if (Vo t r.kl r.ea h m r.po).1=false then(zG,16)else XI t r h m
variable{t:ej}{r:hO}{h:gt}{m:AS}
theorem Zy(c:Cy t r=0)(e:(Df t h).2=0)(j:IH t r.kl.d6 h.d6 m.eb r.po=0)(o:(IA t r.kl h m.eb).2=0)(s:(IA t r.kl h m.eb).1=m.fq):V0 t r.kl r.ea h m r.po=0:=by
 unfold V0;rw[b6 (by simp[(Rc c).2.2]),b6 (by simp[e]),b6 (by simp[j]),b6 (by simp[o]),az s]
theorem mI{X:Option (A9×Int)}(c:(Iv t (Cb t r (CM h (dS r h m)) (cS r h m)) (Cs r (cS r h m) m.fq)).2=0->X=
   if ((decide (40<((Iv t (Cb t r (CM h (dS r h m)) (cS r h m)) (Cs r (cS r h m) m.fq)).1.d6.d5.length:Int)))||(decide (80<((Iv t (Cb t r (CM h (dS r h m)) (cS r h m)) (Cs r (cS r h m) m.fq)).1.d6.d7.length:Int))))=true then some (zG,3)else
   some (A9.mk r m h (Iv t (Cb t r (CM h (dS r h m)) (cS r h m)) (Cs r (cS r h m) m.fq)).1 (Fo h (dS r h m)) (cS r h m),0)):
  (if(!decide ((Iv t (Cb t r (CM h (dS r h m)) (cS r h m)) (Cs r (cS r h m) m.fq)).2=0))=true then some (zG,(Iv t (Cb t r (CM h (dS r h m)) (cS r h m)) (Cs r (cS r h m) m.fq)).2)else X)=some (XI t r h m):=by
 unfold XI;refine FK fun e=>?_;rw[c e];refine Nu (by simp;omega) fun _=>rfl
theorem ez(hf:A6 t)(fr:OB r)(F:EO r.ea<=40)(h:gt)(m:AS):Hn t r h m=some (Jr t r h m):=by
 unfold Hn Gf Jr;rw[Lu hf,bs];by_cases hv:¬(A1 t).2=0
 .grind[Cy,A1]
 have hv:=Classical.not_not.1 hv;rw[b6 (by simp[hv]),Yd hf fr,bs,Sb hf,bs];by_cases j:¬Cy t r=0
 .grind
 have j:=Classical.not_not.1 j;rw[b6 (by simp[j]),bs,b6 (show¬Cy t r≠0 by simp[j])];refine FK fun G=>?_;rw[Option.bind_fun_some];unfold Ge IW;rw[Vh hf,bs];by_cases o:¬IH t r.kl.d6 h.d6 m.eb r.po=0
 .grind
 have o:=Classical.not_not.1 o;rw[b6 (by simp[o]),aI hf,bs,b6 (show¬IH t r.kl.d6 h.d6 m.eb r.po≠0 by simp[o])];by_cases w:¬(IA t r.kl h m.eb).2=0
 .grind
 have w:=Classical.not_not.1 w;rw[b6 (by simp[w]),lC,bs,b6 (show¬(IA t r.kl h m.eb).2≠0 by simp[w])];by_cases y:¬(IA t r.kl h m.eb).1=m.fq
 .grind
 have y:=Classical.not_not.1 y;rw[b6 (by simp[y]),bs,b6 (by simp),b6 (show¬¬(IA t r.kl h m.eb).1=m.fq by simp[y])];rw[pS hf o,bs,b6 (by simp),pN fr.fu,bs];refine FK fun H=>?_;obtain⟨_,_,_,z⟩:=bQ hf F (Zy j G o w y);obtain⟨co,Q⟩:=Z0 H;rw[Zd hf _ fr.cond F,bs,Q];refine FK fun S=>?_;refine UV fun U=>?_;have s:Gp t r h m:=⟨hf,fr,j,G,z,co⟩;have u:=s.rem;have V:=s.hh.g.ek;have W:=s.hh.g.em;have l1:=s.left.1;have l2:=s.left.2;have X:=s.ro.left.ek;have Y:=s.ro.left.em;have J:=z.len;have K:=z.q.vars;have E:IV m=some m:=by
  unfold IV slices_Clone_int;rw[Bq (by unfold AZ;omega),bs,Bq (by unfold AZ;omega),bs,Bq (by unfold AZ;omega),bs]
 simp only[];rw[E,bs,cI u.sm,bs];rw[aQ (by omega) u.ek.2 (Po _ _),bs,aQ (by omega) u.em.2 (Po _ _),bs];have N:F7 r.gn.d6.d5.length r.tl.d5 r.sr.d5 m.eb.d5 (JK h.d6.d5.length (dS r h m).d5) (Nj h.d6 r.tl m.eb).d5.length=some (cS r h m).d5:=
  Wa s.Ab7.1 (fun x D=>by rw[OA];obtain⟨i,c,e,rfl⟩:=Bh D;exact(z.m.node i c e).1) (by omega) (Int.ofNat_le.2 u.ek.2)
 have O:F7 r.gn.d6.d7.length r.tl.d7 r.sr.d7 m.eb.d7 (JK h.d6.d7.length (dS r h m).d7) (Nj h.d6 r.tl m.eb).d7.length=some (cS r h m).d7:=
  Wa s.comE.1 (fun x D=>by rw[OA];obtain⟨i,c,e,rfl⟩:=Bh D;exact z.m.edge i c e) (by omega) (Int.ofNat_le.2 u.em.2)
 rw [N,bs,O,bs];have P:=mW (M:=m) s.grow u (VW _ _ _ _ _) (fun i c e=>Zz s.Ab7.1 s.Ab7.2.1 c e) (fun i c e=>Zz s.comE.1 s.comE.2.1 c e);change ((Ho t (A9.mk r m h (gt.mk (d6.mk [] []) []) (Fo h (dS r h m)) (cS r h m)) (dS r h m)).bind _)=_;rw[P,bs,pQ s.put,bs];exact mI fun I=>by rw[az I]
end Go.Sf.Sc
namespace Go.Sf.Sc
open Go Go.Sf
instance:Inhabited hO:=⟨tz⟩
instance:Inhabited By:=⟨⟨0,⟨⟨[],[]⟩,[]⟩⟩⟩
instance:Inhabited A9:=⟨zG⟩
structure Ja(rules:List hO):Prop where
 len:rules.length<=12
 each:∀r∈rules,OB r/\EO r.ea<=40
noncomputable def Fv(t:ej)(rules:List hO)(h:gt)(m:By):A9×Int:=if m.hO<0\/rules.length<=m.hO then(zG,6)else Jr t (AA rules m.hO) h m.pr
variable{t:ej}{rules:List hO}
theorem YY(hf:A6 t)(c:Ja rules)(h:gt)(m:By):DA t rules h m=some (Fv t rules h m):=by
 unfold DA Fv;refine Nu (by simp) fun e=>?_;have j:=c.each _ (AF (l:=rules) (i:=m.hO) (by omega) (by omega))
 grind [AC,ez]
noncomputable def LJ(t:ej)(rules:List hO):Int:=
 if (A1 t).2≠0 then(A1 t).2 else if 10<rules.length then 3 else(fst (fun i=>nz (Cy t (AA rules i))) 0 rules.length).getD 0
noncomputable def Ga(t:ej)(rules:List hO)(h:gt):Int:=if LJ t rules≠0 then LJ t rules else(Df t h).2
theorem eV{e v:Int}(h:nz e=some v):v≠0:=by grind[nz]
variable{a b v:Int}
theorem l7{c:Int->Int}(h:fst (fun i=>nz (c i)) a b=some v):v≠0:=by grind[DT,eV]
theorem fQ(hf:A6 t)(j:Ja rules):LG t rules=some (LJ t rules):=by
 unfold LG LJ;rw[On hf,bs];refine Dp fun o=>Nu (by simp;try omega) fun s=>?_;rw[Bb (fun i=>nz (Cy t (AA rules i))),Cc];intro i c e _;rw[AC c e,bs,py hf (j.each _ (AF c e)).1,bs,Kw]
theorem jE(hf:A6 t)(c:Ja rules)(h:gt):LH t rules h=some (Ga t rules h):=by
 unfold LH Ga;rw[fQ hf c,bs,pv hf,bs];exact Dp fun _=>rfl
theorem YU(hf:A6 t)(s:Ja rules)(h:gt):Di t rules h=some (Ga t rules h):=by
 unfold Di Ga LJ;rw[Lu hf,bs];by_cases c:¬(A1 t).2=0
 .grind
 have c:=Classical.not_not.1 c;rw[b6 (by simp[c]),b6 (show¬(A1 t).2≠0 by simp[c])];by_cases u:10<rules.length
 .grind
 rw [b6 (by simp;omega),b6 u,Bb (fun i=>nz (Cy t (AA rules i))),DN]
 .cases e:fst (fun i=>nz (Cy t (AA rules i))) 0 (rules.length:Int)with
  |none=>
   grind [Sb]
  |some v=>
   have:=l7 e
   grind
 .intro i j o _;rw[AC j o,bs,Yd hf (s.each _ (AF j o)).1,bs,Kw]
noncomputable def FU(t:ej)(rules:List hO)(h0:gt)(ms:List By):List A9×gt:=
 ms.foldl (fun s m=>(s.1++[(Fv t rules s.2 m).1],(Fv t rules s.2 m).1.tc)) ([],h0)
noncomputable def Mv(t:ej)(rules:List hO)(h0:gt)(ms:List By)(i:Int):Int:=(Fv t rules (FU t rules h0 (ms.take i.toNat)).2 (AA ms i)).2
theorem Lg(t:ej)(rules:List hO)(c:gt)(e:List By)(m:By):FU t rules c (e++[m])=((FU t rules c e).1++[(Fv t rules (FU t rules c e).2 m).1],(Fv t rules (FU t rules c e).2 m).1.tc):=by
 unfold FU
 grind
theorem NE(t:ej)(rules:List hO)(e:gt)(c:List By):(FU t rules e c).1.length=c.length:=by
 refine UD (P:=fun c=>(FU t rules e c).1.length=c.length) rfl (fun c m j=>?_) c
 grind [Lg,cE]
variable{α:Type}{i:Int}
theorem M2[Inhabited α]{l m:List α}(c:0<=i)(e:i<l.length):AA (l++m) i=AA l i:=by grind[Lk]
theorem da[Inhabited α](l:List α)(a:α):AA (l++[a]) l.length=a:=by
 rw [Lk,b6 (by simp),Int.toNat_natCast,Nat.sub_self];rfl
theorem fi(t:ej)(rules:List hO)(e:gt)(c:List By):∀i:Int,0<=i->i<c.length->AA (FU t rules e c).1 i=(Fv t rules (FU t rules e (c.take i.toNat)).2 (AA c i)).1:=by
 refine UD (P:=fun c=>∀i:Int,0<=i->i<c.length->AA (FU t rules e c).1 i=(Fv t rules (FU t rules e (c.take i.toNat)).2 (AA c i)).1) (fun i o j=>by simp at j;omega) (fun c m s i o j=>?_) c;rw[Lg];have u:=NE t rules e c;rw[cE,List.length_singleton]at j
 grind [M2,da,Int.toNat_natCast,List.take_left']
theorem Xv{c:gt}{a b:List By}(e:0<=i)(j:i<a.length):Mv t rules c (a++b) i=Mv t rules c a i:=by grind[Mv,M2]
noncomputable def Rb(t:ej)(rules:List hO)(d:AP):List A9×Int×Int:=
 if Ga t rules d.kp≠0 then([],0,Ga t rules d.kp)else if 30<d.j4.length then([],0,3)else
 match fst (fun i=>(nz (Mv t rules d.kp d.j4 i)).map fun e=>([],i,e)) 0 d.j4.length with
 |some r=>r|none=>((FU t rules d.kp d.j4).1,(d.j4.length:Int),0)
variable{d:AP}
theorem jP(hd:d.j4.length<=1000){f:gt->By->Option (A9×Int)}(hf:∀h m,f h m=some (Fv t rules h m)):
  fl (kq (ρ:=(List A9×Int×Int)) (fun(j:Int)(o:List A9×gt)=>
  (idx d.j4 j).bind fun u=>
  (f o.2 u).bind fun c=>
  if (!decide (c.2=0))=true then
  some (.ret ([],j,c.2))
  else
  (Au o.1 [c.1]).bind fun w=>
  some (.next (w,c.1.tc))) 0 (d.j4.length:Int) ([],d.kp)) (fun o=>
  some (o.1,(o.1.length:Int),(0:Int))) (fun z=>some z)=some (match fst (fun i=>(nz (Mv t rules d.kp d.j4 i)).map fun e=>([],i,e)) 0 d.j4.length with
   |some r=>r|none=>((FU t rules d.kp d.j4).1,(d.j4.length:Int),0)):=by
 rw [M7 (a:=0) (s:=(([],d.kp):List A9×gt)) (fun i=>FU t rules d.kp (d.j4.take i.toNat)) (fun i=>(nz (Mv t rules d.kp d.j4 i)).map fun e=>([],i,e)) (by omega) rfl]
 .cases fst (fun i=>(nz (Mv t rules d.kp d.j4 i)).map fun e=>(([],i,e):List A9×Int×Int)) 0 (d.j4.length:Int)with
  |some r=>rfl|none=>
   show some _=some _;rw[Int.toNat_natCast,List.take_length,NE]
 .intro i j y _;have D:=NE t rules d.kp (d.j4.take i.toNat);rw[AC j y,bs,hf,bs];show(if(!decide (Mv t rules d.kp d.j4 i=0))=true then _ else _)=_;by_cases e:Mv t rules d.kp d.j4 i=0
  .rw[b6 (by simp[e]),AY (by rw[D,ca];simp;unfold AZ;omega),bs,B3 j y,Lg,Fg.2 e];rfl
  .rw[az (by simp[e])];unfold nz;rw[b6 e];rfl
theorem Yb(hf:A6 t)(c:Ja rules)(d:AP):DL t rules d=some (Rb t rules d):=by
 unfold DL Rb;rw[YU hf c,bs];refine FK fun e=>Nu (by simp;try omega) fun j=>?_;exact jP (by omega) (YY hf c)
structure KL(t:ej)(rules:List hO)(d:AP):Prop where
 given:Ga t rules d.kp=0
 few:d.j4.length<=30
 moves:∀i:Int,0<=i->i<d.j4.length->Mv t rules d.kp d.j4 i=0
theorem VJ:(Rb t rules d).2.2=0↔KL t rules d:=by
 unfold Rb;constructor
 .intro h;split at h
  .grind
  rename_i c;split at h
  .cases h
  rename_i j;split at h
  .grind[DT,nz,Mv,eV]
  .rename_i e;rw[A5]at e;refine⟨Classical.not_not.1 c,by omega,fun i o s=>?_⟩
   grind [Ld,Fg]
 .rintro⟨c,j,u⟩
  grind [A5,Fg]
theorem fR(h:KL t rules d):Rb t rules d=((FU t rules d.kp d.j4).1,(d.j4.length:Int),0):=by
 unfold Rb;rw[b6 (by simp[h.given]),b6 (by have:=h.few;omega),A5.2 fun i c e=>by rw[Fg.2 (h.moves i c e)];rfl]
structure bJ(h:gt)(s:A9):Prop where
 AaH:s.Aao.d5.length=h.d6.d5.length
 AaN:s.Aao.d7.length=h.d6.d7.length
 node:∀x∈s.Aao.d5,-1<=x/\x<s.tc.d6.d5.length
 edge:∀x∈s.Aao.d7,-1<=x/\x<s.tc.d6.d7.length
 sm:Lz s.tc
variable{x:gt}{L:BR}
theorem fC(h:(Iv t x L).2=0):Iv t x L=(⟨x.d6,L.foldl CQ x.gp⟩,0)/\L.any (Ps t x)=false:=by
 unfold Iv at h|-
 grind
structure Ou(t:ej)(r:hO)(h:gt)(m:AS):Prop where
 f:Gp t r h m
 sat:Vo t r.kl r.ea h m r.po=(true,0)
 solve:IA t r.kl h m.eb=(m.fq,0)
 chk:IH t r.kl.d6 h.d6 m.eb r.po=0
 put:(Iv t (Cb t r (CM h (dS r h m)) (cS r h m)) (Cs r (cS r h m) m.fq)).2=0
 few:(Cb t r (CM h (dS r h m)) (cS r h m)).d6.d5.length<=40/\(Cb t r (CM h (dS r h m)) (cS r h m)).d6.d7.length<=80
def Nt(t:ej)(r:hO)(h:gt)(m:AS):gt:=⟨(Cb t r (CM h (dS r h m)) (cS r h m)).d6,(Cs r (cS r h m) m.fq).foldl CQ (Cb t r (CM h (dS r h m)) (cS r h m)).gp⟩
def VM(t:ej)(r:hO)(h:gt)(m:AS):A9:=A9.mk r m h (Nt t r h m) (Fo h (dS r h m)) (cS r h m)
variable{r:hO}{h:gt}{m:AS}
theorem gh(hf:A6 t)(fr:OB r)(H:EO r.ea<=40)(e:(Jr t r h m).2=0):Ou t r h m/\Jr t r h m=(VM t r h m,0):=by
 unfold Jr at e|-;split at e
 .rename_i j;exact absurd e j
 rename_i j;rw[b6 j];split at e
 .rename_i o;exact absurd e o
 rename_i o;rw[b6 o];split at e
 .cases e
 rename_i D;rw[b6 D];split at e
 .rename_i u;exact absurd e u
 rename_i u;rw[b6 u];split at e
 .cases e
 rename_i E;rw[b6 E];split at e
 .rename_i y;exact absurd e y
 rename_i y;rw[b6 y];split at e
 .rename_i z;exact absurd e z
 rename_i z;rw[b6 z];split at e
 .cases e
 rename_i F;rw[b6 F];have j:=Classical.not_not.1 j;have o:=Classical.not_not.1 o;have D:=Classical.not_not.1 D;have u:=Classical.not_not.1 u;have E:=Classical.not_not.1 E;have y:=Classical.not_not.1 y;have z:=Classical.not_not.1 z;obtain⟨_,_,_,I⟩:=bQ hf H (Zy j o D u E);have s:Gp t r h m:=⟨hf,fr,j,o,I,(Z0 y).1⟩;unfold XI at e|-;split at e
 .rename_i w;exact absurd e w
 rename_i w;rw[b6 w];have w:=Classical.not_not.1 w;obtain⟨G,J⟩:=fC w;split at e
 .cases e
 rename_i c;rw[b6 c];rw[G]at c;refine⟨⟨s,?_,?_,D,w,?_⟩,?_⟩
 .exact Prod.ext (by simpa using F) z
 .exact Prod.ext E u
 .simp[not_or]at c;exact c
 .rw[G];rfl
theorem Ou.trk(s:Ou t r h m):bJ h (VM t r h m):=by
 have D:=s.f.rem;have c:=s.f.put;have E:((Cb t r (CM h (dS r h m)) (cS r h m)).d6.d5.length)=(dS r h m).d5.length+(D3 r).length:=by
  show (List.length (_++_))=_;rw[cE,d3];show((dS r h m).d5.map _).length+_=_;rw[d3];rfl
 have he:((Cb t r (CM h (dS r h m)) (cS r h m)).d6.d7.length)=(dS r h m).d7.length+(Im r).length:=by
  show (List.length (_++_))=_;rw[cE,d3];show((dS r h m).d7.map _).length+_=_;rw[d3];rfl
 have u:KM (Nt t r h m).gp (Cb t r (CM h (dS r h m)) (cS r h m)).gp:=iE _ _;have y:(Nt t r h m).gp.length=(Cb t r (CM h (dS r h m)) (cS r h m)).d6.d5.length:=by
  have:=congrArg List.length u;rw[d3,d3]at this;rw[this,c.Ab5]
 refine ⟨OA _ _,OA _ _,fun x j=>?_,fun x j=>?_,⟨?_,?_,?_,fun v hv=>?_⟩⟩
 .obtain⟨i,hi,rfl⟩:=List.mem_map.1 j;have:=S7 (dS r h m).d5 i;have z:(VM t r h m).tc.d6.d5.length=(Cb t r (CM h (dS r h m)) (cS r h m)).d6.d5.length:=rfl
  grind
 .obtain⟨i,hi,rfl⟩:=List.mem_map.1 j;have:=S7 (dS r h m).d7 i;have z:(VM t r h m).tc.d6.d7.length=(Cb t r (CM h (dS r h m)) (cS r h m)).d6.d7.length:=rfl
  grind
 .have:=s.few.1;show(Cb t r (CM h (dS r h m)) (cS r h m)).d6.d5.length<=1000;omega
 .have:=s.few.2;show(Cb t r (CM h (dS r h m)) (cS r h m)).d6.d7.length<=1000;omega
 .have:=s.few.1;show(Nt t r h m).gp.length<=1000;omega
 .have w:v.length∈(Nt t r h m).gp.map List.length:=List.mem_map.2 ⟨v,hv,rfl⟩;rw[u,s.f.rows]at w;obtain⟨n,o,e⟩:=List.mem_map.1 w;have:=HM c.hf (Int.le_refl _) (C8 c.hv).par (c.kind n o).2;omega
end Go.Sf.Sc
namespace Go.Sf.Sc
open Go Go.Sf
def IE(l by':Fp):Fp:=l.map fun x=>if x<0 then -1 else AA by' x
def dA(m tr:eb):eb:=⟨IE m.d5 tr.d5,IE m.d7 tr.d7⟩
def O0(m:eb)(l:List A9):eb:=l.foldl (fun m s=>dA m s.Aao) m
def Kt(g:d6):eb:=⟨A7 g.d5.length,A7 g.d7.length⟩
variable{l by':Fp}
theorem aJ(u:l.length<=1000)(h:∀x∈l,-1<=x/\x<by'.length):FZ l by'=some (IE l by'):=by
 unfold FZ slices_Clone_int;rw[Bq (by unfold AZ;omega),bs,Bz (fun i=>(A7 l.length).map fun j=>if j<i then(if AA l j<0 then -1 else AA by' (AA l j))else AA l j) (by omega)]
 .grind[IE,pB,Dv]
 .conv=>rhs;rw[<-Wy l]
  grind [Dv]
 .intro i c o;have s:=h _ (AF c o);rw[AC c (by rw[d3,BD];exact o),bs,IY _ c o,b6 (show¬i<i by omega)];by_cases e:0<=AA l i
  .rw[az (by simpa using e),AC e s.2,bs,bs,KF _ c]
   grind
  grind
variable{i:Int}
theorem Rj(n:Nat)(c:0<=i)(e:i<n):AA (A7 n) i=i:=by
 have:=IY (n:=n) (fun x=>x) c e
 rwa [List.map_id']at this
variable{n:Nat}
theorem Wc(h:n<=1000):Ff n=some (A7 n):=by
 unfold Ff J1;rw[az (by omega),bs,Int.toNat_natCast,List.length_replicate,Bz (fun i=>(A7 n).map fun j=>if j<i then j else 0) (by omega)]
 .rw[bs];congr 1
  conv=>rhs;rw[<-List.map_id' (A7 n)]
  exact Dv fun j w o=>az o
 .refine List.ext_getElem (by simp[BD]) (fun k y D=>?_);have e:(A7 n)[k]'(by simpa[BD]using y)=(k:Int):=by simp[A7]
  simp only[List.getElem_map,List.getElem_replicate,e];rw[b6 (by omega)]
 .intro i s z;rw[AC s (by rw[d3,BD];exact z),bs,KF _ s];congr 1;refine Dv fun j w o=>?_;by_cases c:j=i
  .rw[az c,az (by omega),c]
  .rw[b6 c];by_cases u:j<i
   .rw[az u,az (show j<i+1 by omega)]
   .rw[b6 u,b6 (show¬j<i+1 by omega)]
variable{g:d6}
theorem cK(h:Bn g=0):DQ g=some (Kt g):=by
 have c:=Cp h;have:=c.ek;have:=c.em;unfold DQ E9;rw[KW,bs,b6 (by simp[h]),Wc (by omega),bs,Wc (by omega),bs,bs];rfl
theorem Yj(h:n<=1000):IN n=some (A7 n):=by
 unfold IN;rw[PX (fun _=>true) id]
 .rw[bs,List.map_id,List.filter_eq_self.2 fun _ _=>rfl]
 .intro i s c e j;rw[AY (by simp;unfold AZ;omega),bs,az rfl];rfl
theorem jG(h:Bn g=0):Lf g=some (Kt g):=by
 have c:=Cp h;have:=c.ek;have:=c.em;unfold Lf;rw[Yj (by omega),bs,Yj (by omega),bs];rfl
structure dM(m:eb)(g:d6):Prop where
 AaH:m.d5.length<=1000
 AaN:m.d7.length<=1000
 node:∀x∈m.d5,-1<=x/\x<g.d5.length
 edge:∀x∈m.d7,-1<=x/\x<g.d7.length
theorem sE(h:Bn g=0):dM (Kt g) g:=by
 have e:=Cp h;have:=e.ek;have:=e.em;refine⟨by show(A7 _).length<=1000;rw[BD];omega,by show(A7 _).length<=1000;rw[BD];omega,fun x c=>?_,fun x c=>?_⟩
 .have:=ES.1 c;omega
 .have:=ES.1 c;omega
theorem Xg(e:∀x∈l,-1<=x/\x<by'.length)(j:∀x∈by',-1<=x/\x<n):∀x∈IE l by',-1<=x/\x<n:=by
 intro x c;obtain⟨y,o,rfl⟩:=List.mem_map.1 c
 grind [AF]
variable{h:gt}
theorem nV{m:eb}{s:A9}(c:dM m h.d6)(e:bJ h s):dM (dA m s.Aao) s.tc.d6:=by
 refine ⟨by show(List.map _ _).length<=1000;rw[d3];exact c.AaH,by show(List.map _ _).length<=1000;rw[d3];exact c.AaN,?_,?_⟩
 .exact Xg (fun x j=>by have:=c.node x j;rw[e.AaH];exact this) e.node
 .exact Xg (fun x j=>by have:=c.edge x j;rw[e.AaN];exact this) e.edge
variable{t:ej}{rules:List hO}
theorem Oj(hf:A6 t)(j:Ja rules){m:By}(e:(Fv t rules h m).2=0):
  (0<=m.hO/\m.hO<rules.length)/\Ou t (AA rules m.hO) h m.pr/\Fv t rules h m=(VM t (AA rules m.hO) h m.pr,0):=by
 unfold Fv at e|-;split at e
 .cases e
 rename_i o;rw[b6 o];have c:=j.each _ (AF (l:=rules) (i:=m.hO) (by omega) (by omega));exact⟨by omega,gh hf c.1 c.2 e⟩
theorem Ql(hf:A6 t)(e:Ga t rules h=0):LJ t rules=0/\(Df t h).2=0/\(A1 t).2=0/\Ko t h:=by grind[Ga,Qm]
variable{d:AP}
theorem Pn(hf:A6 t)(j:Ja rules)(h:KL t rules d):∀n:Nat,n<=d.j4.length ->
  Lz (FU t rules d.kp (d.j4.take n)).2/\dM (O0 (Kt d.kp.d6) (FU t rules d.kp (d.j4.take n)).1) (FU t rules d.kp (d.j4.take n)).2.d6
 |0,_=>by
  obtain ⟨_,u,c,o⟩:=Ql hf h.given;exact⟨OU hf c o,sE o.ge⟩
 |n+1,y=>by
  obtain ⟨u,c⟩:=Pn hf j h n (by omega);have he:=h.moves n (by omega) (by omega);have e:=B3 (l:=d.j4) (i:=(n:Int)) (by omega) (by omega);rw[show((n:Int)+1).toNat=n+1 by omega,Int.toNat_natCast]at e;unfold Mv at he;rw[Int.toNat_natCast]at he;obtain⟨_,s,w⟩:=Oj hf j he;rw[e,Lg,w];refine⟨s.trk.sm,?_⟩;unfold O0 at c|-;rw[List.foldl_append];exact nV c s.trk
noncomputable def OD(t:ej)(rules:List hO)(d:AP):gt×eb×Int:=
 if (Rb t rules d).2.2≠0 then(⟨⟨[],[]⟩,[]⟩,⟨[],[]⟩,(Rb t rules d).2.2)else((FU t rules d.kp d.j4).2,O0 (Kt d.kp.d6) (FU t rules d.kp d.j4).1,0)
variable{x:gt}
theorem Sa(h:Lz x):D4 x=some x:=by
 have:=h.ek;have:=h.em;have:=h.vals;unfold D4 slices_Clone_int DM;rw[Bq (by unfold AZ;omega),bs,Bq (by unfold AZ;omega),bs];rw[Bz (fun i=>gt.mk x.d6 (x.gp.take i.toNat)) (by omega) (by rfl)]
 .rw[Int.toNat_natCast,List.take_length];rfl
 .intro i c e;have:=h.rows _ (AF c e)
  grind [AC,Bq,AZ,AY,B3]
theorem iB(hf:A6 t)(o:Ja rules)(h:KL t rules d){f:Int->gt×eb->Option (gt×eb)}
  (w:∀(i:Int)(s:gt×eb),0<=i->i<d.j4.length->dM s.2 s.1.d6->bJ s.1 (AA (FU t rules d.kp d.j4).1 i)->f i s=some ((AA (FU t rules d.kp d.j4).1 i).tc,dA s.2 (AA (FU t rules d.kp d.j4).1 i).Aao)):
  pq f 0 ((FU t rules d.kp d.j4).1.length:Int) (d.kp,Kt d.kp.d6)=some ((FU t rules d.kp d.j4).2,O0 (Kt d.kp.d6) (FU t rules d.kp d.j4).1):=by
 rw [NE,Bz (fun i=>((FU t rules d.kp (d.j4.take i.toNat)).2,O0 (Kt d.kp.d6) (FU t rules d.kp (d.j4.take i.toNat)).1)) (by omega) (by rfl)]
 .rw[Int.toNat_natCast,List.take_length]
 .intro i c e;obtain⟨z,y⟩:=Pn hf o h i.toNat (by omega);have he:=h.moves i c e;unfold Mv at he;obtain⟨_,s,u⟩:=Oj hf o he;have j:=fi t rules d.kp d.j4 i c e;rw[u]at j;rw[w i _ c e y (by rw[j];exact s.trk),B3 c e,Lg,u,j];unfold O0;rw[List.foldl_append];rfl
theorem aL(hf:A6 t)(e:Ja rules)(d:AP):C9 t rules d=some (OD t rules d):=by
 unfold C9 OD;rw[Yb hf e,bs];refine FK fun u=>?_;have h:=VJ.1 u;obtain⟨_,_,_,hh⟩:=Ql hf h.given;rw[cK hh.ge,bs,fR h];simp;rw[iB hf e h fun i s w y c o=>?_]
 .have:=(Pn hf e h d.j4.length (bk _)).1
  grind [List.take_length,Sa]
 .rw[AC w (by rw[NE];exact y),bs,aJ c.AaH (fun x j=>by rw[o.AaH];exact c.node x j),bs,aJ c.AaN (fun x j=>by rw[o.AaN];exact c.edge x j),bs];rfl
structure XY(m:AS):Prop where
 ek:m.eb.d5.length<=1000
 em:m.eb.d7.length<=1000
 vars:m.fq.length<=1000
structure dQ(d:AP):Prop where
 start:Lz d.kp
 len:d.j4.length<=1000
 moves:∀m∈d.j4,XY m.pr
variable{r:hO}{m:AS}
theorem Ou.small(s:Ou t r h m):XY m:=by
 have e:=s.f.left;have c:=s.f.ro.left;have j:=s.f.at_.len;have o:=s.f.at_.q.vars;have:=c.ek;have:=c.em;exact⟨by omega,by omega,by omega⟩
theorem KL.small(hf:A6 t)(c:Ja rules)(h:KL t rules d):dQ d:=by
 obtain ⟨_,_,j,o⟩:=Ql hf h.given;refine⟨OU hf j o,by have:=h.few;omega,fun m e=>?_⟩;obtain⟨i,s,u,rfl⟩:=Bh e;have he:=h.moves i s u;unfold Mv at he;exact(Oj hf c he).2.1.small
theorem ew(h:XY m):Fa m=some m:=by
 have:=h.ek;have:=h.em;have:=h.vars;unfold Fa slices_Clone_int;rw[Bq (by unfold AZ;omega),bs,Bq (by unfold AZ;omega),bs,Bq (by unfold AZ;omega),bs]
variable{α σ:Type}
theorem ib[Inhabited α]{l:List α}(c:l.length<=1000)(g:List α->σ){f:Int->σ->Option σ}(h:∀(i:Int)s,0<=i->i<l.length->s.length<=1000->f i (g s)=some (g (s++[AA l i]))):pq f 0 l.length (g [])=some (g l):=by
 have:=Bz (f:=f) (s:=g []) (fun i=>g (l.take i.toNat)) (a:=0) (b:=l.length) (by omega) rfl (fun i e j=>by
  grind [ca,B3])
 rwa [Int.toNat_natCast,List.take_length]at this
theorem pW(h:dQ d):Dk d=some d:=by
 unfold Dk;rw[Sa h.start,bs];have:=ib (l:=d.j4) h.len (fun l=>AP.mk d.kp l) (f:=fun(e:Int)(u:AP)=>
  (idx d.j4 e).bind fun c=>
  (Fa c.pr).bind fun j=>
  (Au u.j4 [By.mk c.hO j]).bind fun o=>
  some (AP.mk u.kp o)) (fun i s e w y=>by
   rw [AC e w,bs,ew (h.moves _ (AF e w)),bs,AY (by simp;unfold AZ;omega),bs])
 rw [this];rfl
abbrev zD:AP:=AP.mk (gt.mk (d6.mk [] []) []) []
noncomputable def bN(t:ej)(rules:List hO)(d:AP)(m:By):AP×Int:=
 if (OD t rules d).2.2≠0 then(zD,(OD t rules d).2.2)else if d.j4.length=30 then(zD,17)else
 if (Fv t rules (OD t rules d).1 m).2≠0 then(zD,(Fv t rules (OD t rules d).1 m).2)else(⟨d.kp,d.j4++[m]⟩,0)
theorem l4:(OD t rules d).2.2=(Rb t rules d).2.2:=by grind[OD]
theorem ic(hf:A6 t)(c:Ja rules)(d:AP)(m:By):GP t rules d m=some (bN t rules d m):=by
 unfold GP bN;rw[aL hf c,bs];refine FK fun e=>Nu (by simp;try omega) fun o=>?_;rw[YY hf c,bs];refine FK fun j=>?_;rw[l4]at e;have h:=(VJ.1 e).small hf c;have:=h.len;rw[pW h,bs,ew (Oj hf c j).2.1.small,bs,AY (by simp;unfold AZ;omega),bs]
theorem li{m:By}(h:KL t rules d)(o:d.j4.length<30)(e:(Fv t rules (FU t rules d.kp d.j4).2 m).2=0):KL t rules ⟨d.kp,d.j4++[m]⟩:=by
 refine ⟨h.given,by simp;omega,fun i c j=>?_⟩;simp at j;show Mv t rules d.kp (d.j4++[m]) i=0;by_cases hi:i<d.j4.length
 .rw[Xv c hi];exact h.moves i c hi
 grind [Mv,da,Int.toNat_natCast,List.take_left']
theorem kO(h:KL t rules d)(n:Nat):KL t rules ⟨d.kp,d.j4.take n⟩:=by
 have:=h.few;refine⟨h.given,by simp;omega,fun i e c=>?_⟩;show Mv t rules d.kp (d.j4.take n) i=0;have c:i<(d.j4.take n).length:=c;rw[ca]at c;have:=h.moves i e (by omega)
 grind [List.take_append_drop,Xv,ca]
end Go.Sf.Sc
namespace Go.Sf.Sc
open Go Go.Sf
end Go.Sf.Sc
namespace Go.Sf.Sc
open Go Go.Sf
end Go.Sf.Sc
namespace Go.Sf.Sc
open Go Go.Sf
variable{ρ:Type}
theorem ql{f:Int×Int->Option (Bu (Int×Int) ρ)}(I:Int->Int->Prop)(b:Int){s a:Int}(u:I a s)
  (step:∀i s,a<=i->I i s->(i<b/\∃s',f (s,i)=some (.next (s',i+1))/\I (i+1) s')\/f (s,i)=some (.brk (s,i))):∃i s',a<=i/\I i s'/\C7 f (s,a)=some (.inl (s',i)):=by
 have key:∀(n:Nat)(i s:Int),a<=i->I i s->b-i<=n->∃j s',i<=j/\I j s'/\Kj f (s,i) (.inl (s',j)):=by
  intro n
  induction n with
  |zero=>
   intro i s hi c w;rcases step i s hi c with⟨h,_⟩|h
   .omega
   .exact⟨i,s,Int.le_refl _,c,.brk h⟩
  |succ n F=>
   intro i s hi c w;rcases step i s hi c with⟨_,s',e,o⟩|h
   .obtain⟨j,y,G,z,D⟩:=F (i+1) s' (by omega) o (by omega);exact⟨j,y,by omega,z,.next e D⟩
   .exact⟨i,s,Int.le_refl _,c,.brk h⟩
 obtain ⟨j,s',e,o,E⟩:=key (b-a).toNat a s (Int.le_refl _) u (by omega);exact⟨j,s',e,o,E.eq⟩
theorem Wz{q w k:Int}(c:Int)(H:q<=1000)(y:0<=k)(o:k<=1000)(u:1<=c/\c<=80)(z:1<=w/\w<=400000):∃w' D,(1<=w'/\w'<=400000)/\C7 (ρ:=ρ) (fun(j:Int×Int)=>
  if ((decide (j.2<q))&&(decide (j.1<=5000)))=true then
  some (.next (AK (j.1*c),AK (j.2+1)))
  else
  some (.brk (j.1,j.2))) (w,k)=some (.inl (w',D)):=by
 obtain ⟨i,s',K,F,G⟩:=ql (ρ:=ρ) (f:=fun(j:Int×Int)=>
  if ((decide (j.2<q))&&(decide (j.1<=5000)))=true then
  some (.next (AK (j.1*c),AK (j.2+1)))
  else
  some (.brk (j.1,j.2))) (fun i s=>(1<=s/\s<=400000)/\0<=i/\i<=1000) q (s:=w) (a:=k) ⟨z,y,o⟩ (fun i s hi E=>by
   by_cases e:i<q/\s<=5000
   .left;have I:1*1<=s*c:=Int.mul_le_mul E.1.1 u.1 (by omega) (by omega);have J:s*c<=5000*80:=Int.mul_le_mul e.2 u.2 (by omega) (by omega)
    grind [AV]
   grind)
 exact ⟨s',i,F.1,G⟩
theorem ai:∀(N:Nat)(c:ea)(p:ed)(w:Int),SizeOf.sizeOf c<=N->Da c->My p->EO c<=1000->1<=w->w<=5000->∃b,∀n,N<=n->C0 n p c w=some b
 |0,c,_,_,h,_,_,_,_,_=>by have:=Dm c;omega|N+1,c,p,w,h,W,Q,hk,w0,w1=>by
  have key:∀q:ed,My q->∃b,∀n,N<=n->fl (C7 (ρ:=Bool) (fun(o:Int×Int)=>
    if ((decide (o.2<(q.d6.d5.length:Int)))&&(decide (o.1<=5000)))=true then
    some (.next (AK (o.1*40),AK (o.2+1)))
    else
    some (.brk (o.1,o.2))) (w,(p.d6.d5.length:Int))) (fun o=>
    fl (C7 (ρ:=Bool) (fun(j:Int×Int)=>
    if ((decide (j.2<(q.d6.d7.length:Int)))&&(decide (j.1<=5000)))=true then
    some (.next (AK (j.1*80),AK (j.2+1)))
    else
    some (.brk (j.1,j.2))) (o.1,(p.d6.d7.length:Int))) (fun j=>
    fl (C7 (ρ:=Bool) (fun(u:Int)=>
    if ((decide (u<(c.hT.length:Int)))&&(decide (j.1<=5000)))=true then
    (idx c.hT u).bind fun D=>
    (C0 n q D j.1).bind fun E=>
    if (!E)=true then
    some (.ret false)
    else
    some (.next (AK (u+1)))
    else
    some (.brk u)) 0) (fun u=>
    some (decide (j.1<=5000))) (fun X=>some X)) (fun Y=>some Y)) (fun Z=>some Z)=some b:=by
   intro q y;have q1:=y.ek;have q2:=y.em;have p1:=Q.ek;have p2:=Q.em;obtain⟨a,k,ha,V⟩:=Wz (ρ:=Bool) (q:=q.d6.d5.length) (w:=w) (k:=p.d6.d5.length) 40 (by omega) (by omega) (by omega) (by omega) (by omega);obtain⟨a',k',K,z⟩:=Wz (ρ:=Bool) (q:=q.d6.d7.length) (w:=a) (k:=p.d6.d7.length) 80 (by omega) (by omega) (by omega) (by omega) ha;have hkl:c.hT.length<=1000:=by have:=R7 c.hT;have:=R8 c;omega
   by_cases J:a'<=5000
   .have kids:∀x∈c.hT,∃b,∀n,N<=n->C0 n q x a'=some b:=fun x F=>by
     have G:=EQ F;have H:=Tl F;have h3:=R8 c;exact ai N x q a' (by omega) (W.k x F) y (by omega) K.1 J
    have s:∀i:Int,∃b:Bool,0<=i->i<c.hT.length->∀n,N<=n->C0 n q (AA c.hT i) a'=some b:=fun i=>by
     by_cases e:0<=i/\i<c.hT.length
     .obtain⟨b,O⟩:=kids _ (AF e.1 e.2);exact⟨b,fun _ _=>O⟩
     .exact⟨true,fun G H=>absurd ⟨G,H⟩ e⟩
    obtain ⟨g,hg⟩:=Classical.axiomOfChoice s;refine⟨(fst (fun i=>if g i=true then none else some (Sum.inr false:Int ⊕ Bool)) 0 c.hT.length).isNone,fun n I=>?_⟩;rw[V,B6];simp only[];rw[z,B6];simp only[];rw[Lw (fun i=>if g i=true then none else some (.inr false)) (b:=c.hT.length) (by omega)]
    .cases e:fst (fun i=>if g i=true then none else some (Sum.inr false:Int ⊕ Bool)) 0 (c.hT.length:Int)with
     |none=>
      show some (decide (a'<=5000))=some true;rw[decide_eq_true J]
     |some r=>
      obtain ⟨i,_,_,P,_⟩:=DT e;split at P
      .cases P
      .cases P;rfl
    .intro i S U _;rw[az (by simp;omega),AC S U,bs,hg i S U n I,bs,AV (by omega) (by omega)];cases g i<;>rfl
    .rw[b6 (by simp)]
   .refine⟨false,fun n I=>?_⟩;rw[V,B6];simp only[];rw[z,B6];simp only[];rw[Lw (fun _=>none) (b:=0) (by omega) (fun i G H _=>by omega) (by rw[b6 (by simp;omega)])];rw[d9 (by omega)];show some _=some _;rw[decide_eq_false J]
  have y:My (if c.o3=5 then c.ed else p):=by split;exact W.q;exact Q
  obtain ⟨b,O⟩:=key _ y;refine⟨b,fun n I=>?_⟩;obtain⟨n,rfl⟩:∃k,n=k+1:=⟨n-1,by omega⟩;rw[C0,show(if decide (c.o3=5)=true then some c.ed else some p)=some (if c.o3=5 then c.ed else p)by by_cases e:c.o3=5<;>simp[e],bs];exact O n (by omega)
end Go.Sf.Sc
namespace Go.Sf.Sc
open Go Go.Sf
variable{r:hO}
theorem Yw(c:(CP r).Sm):(AI r.ea).Sm:=by
 have e:TV.Sms [_,_,_,_,_,_,_,_,_,_,_,_,_,_,_,_,_,_,_,_,_,_,_,_,_]:=c;obtain⟨_,_,_,_,_,_,_,_,_,_,_,s,u,w,y,_,j,o,c3,c4,c5,c6,c7,c8,c9,_⟩:=e;exact⟨j,o,c3,c4,c5,c6,c7,c8,c9,trivial⟩
variable{t:ej}
theorem mL(hf:A6 t)(st:(AN t).Sm)(c:(CP r).Sm)(h:gt):∃b,JV t r h=some b/\(b=true->OB r/\EO r.ea<=40):=by
 obtain ⟨e,j,_⟩:=SD st;obtain⟨o,s,u⟩:=g6 c;obtain⟨w,y,z⟩:=fL hf st r.kl (Yw c) h;unfold JV
 grind
variable{rules:List hO}
theorem mM(st:(AN t).Sm)(V:∀r∈rules,(CP r).Sm)(h:gt):∃b,LF t rules h=some b/\(b=true->A6 t/\Ja rules):=by
 obtain ⟨b1,e1,f1⟩:=SD st;obtain⟨b2,e2⟩:=Xy h;unfold LF;by_cases Q:(((decide (4<(rules.length:Int)))&&(decide ((rules.length:Int)<=10)))||(decide (12<(rules.length:Int))))=true
 .rw[az Q,bs,az rfl,bs,az rfl];exact⟨false,rfl,fun h=>by cases h⟩
 rw [b6 Q,e1,bs,bs];cases b1 with
 |false=>exact⟨false,rfl,fun h=>by cases h⟩
 |true=>
 rw [b6 (by decide),e2,bs,bs];cases b2 with
 |false=>exact⟨false,rfl,fun h=>by cases h⟩
 |true=>
 rw [b6 (by decide)];have hf:=f1 rfl;have Y:rules.length<=12:=by
  simp only[Bool.or_eq_true,tg,zzX,not_or]at Q;omega
 rcases O1 (f:=fun(c:Int)(W:Bool)=>
  (idx rules c).bind fun y=>
  (JV t y h).bind fun z=>
  if (!z)=true then
  some (.ret false)
  else
  (if W=true then((idx rules c).bind fun D=>
  some (decide ((D.kl.d6.d5.length:Int)<=3)))else some false).bind fun E=>
  (if E=true then((idx rules c).bind fun F=>
  some (decide ((F.kl.d6.d7.length:Int)<=2)))else some false).bind fun G=>
  (if G=true then((idx rules c).bind fun H=>
  some (decide ((H.gn.d6.d5.length:Int)<=5)))else some false).bind fun I=>
  (if I=true then((idx rules c).bind fun J=>
  (idx rules c).bind fun K=>
  (LU J.kl K.ea 1).bind fun N=>
  some (N))else some false).bind fun O=>
  some (.next O)) (fun i _=>∀j:Int,0<=j->j<i->OB (AA rules j)/\EO (AA rules j).ea<=40) (fun _=>False) (fun r=>r=false) (a:=0) (b:=rules.length) (s:=true) (by omega) (fun j h1 h2=>by omega) (fun i s c u P=>by
   have Z:=AF c u;obtain⟨b3,o,f3⟩:=mL hf st (V _ Z) h;simp only[AC c u,bs];rw[o,bs];cases b3 with
   |false=>exact .inr (.inr ⟨false,rfl,rfl⟩)|true=>
    obtain ⟨S,k2⟩:=f3 rfl;obtain⟨U,e4⟩:=ai _ (AA rules i).ea (AA rules i).kl 1 (bk _) S.cond S.left (by omega) (by decide) (by decide);have e5:LU (AA rules i).kl (AA rules i).ea 1=some U:=Ey _ e4;left;refine⟨(((s&&decide (((AA rules i).kl.d6.d5.length:Int)<=3))&&decide (((AA rules i).kl.d6.d7.length:Int)<=2))&&decide (((AA rules i).gn.d6.d5.length:Int)<=5))&&U,?_,fun j X j1=>?_⟩
    .rw[b6 (by decide),e5];cases s<;>cases decide (((AA rules i).kl.d6.d5.length:Int)<=3)<;>cases decide (((AA rules i).kl.d6.d7.length:Int)<=2)<;>cases decide (((AA rules i).gn.d6.d5.length:Int)<=5)<;>rfl
    .by_cases e:j=i
     .rw[e];exact⟨S,k2⟩
     .exact P j X (by omega))with⟨s',o,h3⟩|⟨r,o,h3⟩
 .rw[o,B6];have P:=h3.resolve_right id;have w:Ja rules:=⟨Y,fun r w=>by
   obtain ⟨i,c,u,rfl⟩:=Bh w;exact P i c u⟩
  rw [jE hf w,bs];exact⟨_,rfl,fun _=>⟨hf,w⟩⟩
 .rw[o,N9,h3];exact⟨false,rfl,fun h=>by cases h⟩
theorem iv(g:d6):MS g g=some true:=by
 unfold MS;rw[Vk,bs,b6 (by simp),Br (fun _=>false) false]
 .rw[show n8 (fun _=>false) 0 (g.d7.length:Int)=false from Bk.2 fun _ _ _=>rfl];rfl
 grind [AC]
variable{l:Fp}
theorem fD(j:l.length<=1000):JH l l=some 0:=by
 unfold JH;rw[Lw (fun _=>none) (b:=l.length) (by omega)]
 .rw[show fst (fun _=>(none:Option (Int ⊕ Int))) 0 (l.length:Int)=none from A5.2 fun _ _ _=>rfl];show some (AK ((l.length:Int)-l.length))=some 0;rw[AV (by omega) (by omega),Int.sub_self]
 .intro i e c _;rw[az (by simp[c]),AC e c,bs,bs,b6 (by simp),AV (by omega) (by omega)];rfl
 .rw[b6 (by simp)]
variable{h:gt}
theorem pj(j:Lz h):MV h h=some true:=by
 unfold MV;rw[iv,bs,b6 (by simp),Br (fun _=>false) false]
 .rw[show n8 (fun _=>false) 0 (h.gp.length:Int)=false from Bk.2 fun _ _ _=>rfl];rfl
 .intro i c e _;rw[AC c e,bs,bs,fD (j.rows _ (AF c e)),bs];simp
theorem ml(l:List By):Hh l l=some true:=by
 unfold Hh;rw[b6 (by simp),Br (fun _=>false) false]
 .rw[show n8 (fun _=>false) 0 (l.length:Int)=false from Bk.2 fun _ _ _=>rfl];rfl
 .intro i c e _;simp only[AC c e,bs];unfold Iw;simp only[aT,Vk,bs];simp
variable{d:AP}
theorem sg(h:Lz d.kp):Mg d d=some true:=by grind[Mg,pj,ml]
end Go.Sf.Sc
namespace Go.Sf.Sc
open Go Go.Sf
theorem mj(m:eb):Iw m m=some true:=by grind[Iw,aT,Vk,bs]
end Go.Sf.Sc
namespace Go.Sf.Sc
open Go Go.Sf
variable{q:Ly}
theorem Xb:∀(n:Nat)(f:AH),f.em.length+n=f.p.d7.length->(∀i:Int,0<=i->i<f.p.d7.length->PL.at_ f.mo.d7 i=PL.at_ q.d7 i)->FV n f=FV n {f with mo:=q}
 |0,_,_,_=>rfl|n+1,f,e,h=>by
  rw [FV,FV];refine congrArg (fun F=>(A7 f.g.d7.length).flatMap F) (funext fun k=>?_);have c:Ro f k=Ro {f with mo:=q} k:=by
   grind [Ro,I0]
  rw [c,Xb n {f with em:=f.em++[k]} (by simp;omega) h]
theorem Xe:∀(n:Nat)(f:AH),f.ek.length+n=f.p.d5.length->f.em=[]->(∀i:Int,0<=i->i<f.p.d5.length->PL.at_ f.mo.d5 i=PL.at_ q.d5 i)->(∀i:Int,0<=i->i<f.p.d7.length->PL.at_ f.mo.d7 i=PL.at_ q.d7 i)->Kk n f=Kk n {f with mo:=q}
 |0,f,_,he,_,h=>Xb f.p.d7.length f (by rw[he];simp) h|n+1,f,j,he,e,h=>by
  rw [Kk,Kk];refine congrArg (fun F=>(A7 f.g.d5.length).flatMap F) (funext fun k=>?_);have c:SZ f k=SZ {f with mo:=q} k:=by
   grind [SZ]
  rw [c,Xe n {f with ek:=f.ek++[k]} (by simp;omega) he e h]
variable{n:Nat}{i v:Int}
theorem dc(c:0<=i)(e:i<n):AA (List.replicate n v) i=v:=by
 unfold AA
 grind
def F0(t:ej)(p g:d6)(inj:Bool):AH:=⟨p,g,Lh t,⟨none,none⟩,inj,5001,[],[],[]⟩
variable{t:ej}{p g:d6}{inj:Bool}
theorem gf:Kk p.d5.length (F0 t p g inj)=Kk p.d5.length (FF t p g (RX p) inj):=
 Xe (q:=Ly.of (RX p)) p.d5.length (F0 t p g inj) (by show 0+p.d5.length=p.d5.length;omega) rfl (fun i c e=>(dc c e).symm) (fun i c e=>(dc c e).symm)
theorem im(o:A6 t)(hv:(A1 t).2=0)(j:Nq (FF t p g (RX p) inj)):E4 t p g ⟨none,none⟩ inj 5001=some (Jw t p g (RX p) inj):=by
 unfold E4;rw[cN o (C8 hv) hv,bs];have c:Nq (F0 t p g inj):=⟨trivial,trivial,j.ends,j.kinds,j.small⟩;have h:=eh (f:=F0 t p g inj) c ⟨by show(0:Int)<=5001;omega,by show(5001:Int)<=10000;omega,by show((0:Nat):Int)<=5001;omega⟩ rfl rfl;rw[Xc _ _ c rfl,show(F0 t p g inj).p.d5.length=p.d5.length from rfl,gf]at h;have e:AH.mk p g (Lh t) ⟨none,none⟩ inj 5001 [] [] []=F0 t p g inj:=rfl;rw[e,h];rfl
def M0(t:ej)(p g:d6)(inj:Bool):List eb×Int:=
 if ED t p g≠0 then([],ED t p g)else if 5000<(Jw t p g (RX p) inj).length then([],3)else(Jw t p g (RX p) inj,0)
theorem pK(hf:A6 t)(p g:d6)(inj:Bool):Iz t p g inj=some (M0 t p g inj):=by
 unfold Iz M0;rw[TH hf,bs];refine FK fun c=>?_
 grind [Xx,RX,Hl,im,bs,Jw]
end Go.Sf.Sc
namespace Go.Sf.Sc
open Go Go.Sf
variable{α:Type}{f:Int->List α->Option (List α)}
theorem eJ[Inhabited α]{x:List α}{p:α->Bool}(u:x.length<=5000)
  (hf:∀(i:Int)(s:List α),0<=i->i<x.length->s.length<=5000->f i s=some (if p (AA x i)=true then s++[AA x i]else s)):
  pq f 0 (x.length:Int) []=some (x.filter p):=by
 rw [Bz (a:=0) (b:=x.length) (s:=[]) (fun i=>(x.take i.toNat).filter p) (by omega) rfl,Int.toNat_natCast,List.take_length];intro i c e;have j:((x.take i.toNat).filter p).length<=5000:=by grind
 rw [hf i _ c e j,B3 c e,List.filter_append];cases o:p (AA x i)<;>simp[o]
def MH(t:ej)(p:ed)(h:gt)(inj:Bool):List AS×Int:=
 if NW t p h≠0 then([],NW t p h)else if(M0 t p.d6 h.d6 inj).2≠0 then([],(M0 t p.d6 h.d6 inj).2)else
 (((M0 t p.d6 h.d6 inj).1.filter fun y=>decide ((IU p h y).2=0)).map fun y=>⟨y,(IU p h y).1⟩,0)
variable{t:ej}{p g:d6}{inj:Bool}
theorem dY(h:(M0 t p g inj).2=0):(M0 t p g inj).1.length<=5000/\∀m∈(M0 t p g inj).1,IH t p g m inj=0:=by grind[M0,dz]
theorem ip(hf:A6 t)(p:ed)(h:gt)(inj:Bool):Dz t p h inj=some (MH t p h inj):=by
 unfold Dz MH;rw[Wb hf,bs];refine FK fun u=>?_;rw[pK hf,bs];refine FK fun w=>?_;obtain⟨E,G⟩:=dY w;rw[TS (F:=fun y=>((IU p h y).1,decide ((IU p h y).2=0))) E,bs];intro i s z D e;have j:Et p h (AA (M0 t p.d6 h.d6 inj).1 i)=some (IU p h (AA (M0 t p.d6 h.d6 inj).1 i)):=by
  obtain ⟨hv,o,hh,c⟩:=Tf hf u (G _ (AF z D));exact aP o (fun s e=>Qt (C8 hv) o hh c e)
 grind [AC,bs,IU,AA,M0,AY,AZ]
variable{h:gt}
theorem WY{p:ed}:(MH t p h inj).1.length<=5000:=by grind[MH,dY,d3,Nat.le_trans,List.length_filter_le]
noncomputable def RH(t:ej)(r:hO)(h:gt):Int:=if Cy t r≠0 then Cy t r else(Df t h).2
variable{r:hO}
theorem aM(hf:A6 t)(fr:OB r)(h:gt):Gf t r h=some (RH t r h):=by
 unfold Gf RH;rw[Lu hf,bs];by_cases hv:¬(A1 t).2=0
 .grind[Cy,A1]
 have hv:=Classical.not_not.1 hv;rw[b6 (by simp[hv]),Yd hf fr,bs,Sb hf];exact FK fun _=>rfl
theorem ig(hf:A6 t)(fr:OB r)(c:EO r.ea<=40)(e:RH t r h=0)(m:AS):Ge t r h m=some (Jr t r h m):=by
 have:=ez hf fr c h m;unfold Hn at this;rw[aM hf fr,bs,b6 (by simp[e])]at this;cases k:Ge t r h m with
 |none=>rw[k]at this;cases this
 |some x=>rw[k]at this;exact this
noncomputable def IG(t:ej)(r:hO)(h:gt):List AS×Int:=
 if RH t r h≠0 then([],RH t r h)else if(MH t r.kl h r.po).2≠0 then([],(MH t r.kl h r.po).2)else
 ((MH t r.kl h r.po).1.filter fun m=>decide ((Jr t r h m).2=0),0)
theorem pM(hf:A6 t)(fr:OB r)(c:EO r.ea<=40)(h:gt):E6 t r h=some (IG t r h):=by
 unfold E6 IG;rw[aM hf fr,bs];refine FK fun e=>?_;rw[ip hf,bs];refine FK fun j=>?_;rw[eJ (p:=fun m=>decide ((Jr t r h m).2=0)) WY,bs]
 grind [AC,bs,ig,Jr,AA,MH,AY,AZ]
theorem ln:(IG t r h).1.length<=5000:=by grind[IG,Nat.le_trans,List.length_filter_le,WY]
variable{m:AS}
theorem oX(c:m∈(IG t r h).1):(Jr t r h m).2=0:=by
 unfold IG at c
 grind
end Go.Sf.Sc
namespace Go.Sf
variable{σ ρ:Type}
theorem TT{f g:Int->σ->Option (Bu σ ρ)}:∀(n:Nat)(i:Int)(s:σ),(∀j s,i<=j->j<i+n->f j s=g j s)->Aaa f n i s=Aaa g n i s
 |0,_,_,_=>rfl|n+1,i,s,h=>by
  rw [EN,EN,h i s (by omega) (by omega)];cases g i s with
  |none=>rfl|some c=>
   cases c with
   |next s'=>exact TT n (i+1) s' fun j t e o=>h j t (by omega) (by omega)|brk _=>rfl|ret _=>rfl
variable{a b:Int}
theorem Ue{f g:Int->σ->Option (Bu σ ρ)}{s:σ}(h:∀j s,a<=j->j<b->f j s=g j s):kq f a b s=kq g a b s:=TT _ _ _ fun j t c e=>h j t c (by omega)
end Go.Sf
namespace Go.Sf.Sc
open Go Go.Sf
instance:Inhabited By:=⟨⟨0,default⟩⟩
noncomputable def TJ(t:ej)(rules:List hO)(h:gt):Option (List By×Int):=
 fl (kq (ρ:=(List By×Int)) (fun(i0:Int)(s0:List By)=>
 (idx rules i0).bind fun x20=>
 if (!decide ((IG t x20 h).2=0))=true then
 some (.ret ([],(IG t x20 h).2))
 else
 (pq (fun(i2:Int)(s2:List By)=>
 (idx (IG t x20 h).1 i2).bind fun x36=>
 (Au s2 [By.mk i0 x36]).bind fun x43=>
 some x43) 0 ((IG t x20 h).1.length:Int) s0).bind fun s2=>
 some (.next s2)) 0 (rules.length:Int) []) (fun s0=>
 some (s0,0)) (fun v0=>some v0)
variable{t:ej}{rules:List hO}
theorem pY(hf:A6 t)(c:Ja rules)(h:gt):DR t rules h=TJ t rules h:=by
 unfold DR TJ;congr 1;refine Ue fun j s e o=>?_;have:=c.each _ (AF e o)
 grind [AC,bs,pM]
variable{i:Int}
theorem gZ{L:List AS}{s:List By}(z:s.length+L.length<=100000):pq (fun(w:Int)(y:List By)=>
 (idx L w).bind fun c=>
 (Au y [By.mk i c]).bind fun e=>
 some e) 0 (L.length:Int) s=some (s++L.map (By.mk i)):=by
 rw [Bz (fun j=>s++(L.take j.toNat).map (By.mk i)) (by omega) (by simp),Int.toNat_natCast,List.take_length];intro j o u;rw[AC o u,bs,AY (by simp;unfold AZ;omega),bs,B3 o u,List.map_append,<-d4];rfl
theorem Yg(F:Ja rules)(h:gt):∃v,TJ t rules h=some v/\v.1.length<=60000/\(∀m∈v.1,(Fv t rules h m).2=0)/\(v.2=0\/∃r∈rules,v.2=(IG t r h).2):=by
 unfold TJ;have D:=F.len;rcases O1 (f:=fun(j:Int)(G:List By)=>
  (idx rules j).bind fun c=>
  if (!decide ((IG t c h).2=0))=true then
  some (.ret ([],(IG t c h).2))
  else
  (pq (fun(H:Int)(u:List By)=>
  (idx (IG t c h).1 H).bind fun w=>
  (Au u [By.mk j w]).bind fun y=>
  some y) 0 ((IG t c h).1.length:Int) G).bind fun u=>
  some (.next u)) (fun i s=>(s.length:Int)<=5000*i/\∀m∈s,(Fv t rules h m).2=0) (fun _=>False) (fun v=>v.1=[]/\∃r∈rules,v.2=(IG t r h).2) (a:=0) (b:=rules.length) (s:=[]) (by omega) ⟨by simp,by simp⟩ (fun i s j z hi=>by
   have J:=ln (t:=t) (r:=AA rules i) (h:=h);rw[AC j z,bs];by_cases e:(IG t (AA rules i) h).2=0
   .left;rw[b6 (by simp[e]),gZ (by omega),bs];refine⟨_,rfl,by rw[cE,d3];omega,fun m o=>?_⟩;rcases List.mem_append.1 o with o|o
    .exact hi.2 m o
    .obtain⟨x,I,rfl⟩:=List.mem_map.1 o;unfold Fv;rw[b6 (by dsimp only;omega)];exact oX I
   .right;right;rw[az (by simp[e])];exact⟨_,rfl,rfl,_,AF j z,rfl⟩)with⟨s',e,h1⟩|⟨v,e,h1⟩
 .rw[e,B6];have E:=h1.resolve_right id;exact⟨_,rfl,by have:=E.1;dsimp only;omega,E.2,.inl rfl⟩
 .rw[e,N9];exact⟨_,rfl,by rw[h1.1];simp,by rw[h1.1];simp,.inr h1.2⟩
theorem mg(c:Ja rules)(h:gt):∃v,TJ t rules h=some v/\v.1.length<=60000/\∀m∈v.1,(Fv t rules h m).2=0:=by
 obtain ⟨v,e,j,o,_⟩:=Yg (t:=t) c h;exact⟨v,e,j,o⟩
def Ph(c n:Int):Int:=if c.tmod n<0 then c.tmod n+n else c.tmod n
theorem Vp{c n:Int}(h:0<n):-n<c.tmod n/\c.tmod n<n:=⟨Int.lt_tmod_of_pos c h,Int.tmod_lt_of_pos c h⟩
theorem aS{c n:Int}(h:0<n):0<=Ph c n/\Ph c n<n:=by
 have:=Vp (c:=c) h
 grind [Ph]
theorem ir{c n:Int}(h:0<n):(c.tmod n+n).tmod n=Ph c n:=by
 have:=Vp (c:=c) h;unfold Ph;rw[Int.tmod_eq_emod_of_nonneg (by omega)];split
 .exact Int.emod_eq_of_lt (by omega) (by omega)
 .rw[Int.add_emod_right];exact Int.emod_eq_of_lt (by omega) (by omega)
noncomputable def S3(t:ej)(rules:List hO)(choices:Fp)(i0:Int)(s0:gt×AP×AP):Option (Bu (gt×AP×AP) (AP×Int)):=
 (TJ t rules s0.1).bind fun x44=>
 if (!decide (x44.2=0))=true then
 some (.ret (zD,x44.2))
 else
 if (decide ((x44.1.length:Int)=0))=true then
 some (.brk (s0.1,s0.2.1,s0.2.2))
 else
 (Au s0.2.2.j4 [AA x44.1 (Ph (AA choices i0) x44.1.length)]).bind fun x81=>
 some (.next ((Fv t rules s0.1 (AA x44.1 (Ph (AA choices i0) x44.1.length))).1.tc,s0.2.1,AP.mk s0.2.2.kp x81))
noncomputable def S4(t:ej)(rules:List hO)(h:gt)(choices:Fp):Option (AP×Int):=
 if Ga t rules h≠0 then some (zD,Ga t rules h)else if 30<choices.length then some (zD,3)else
 fl (kq (ρ:=(AP×Int)) (S3 t rules choices) 0 (choices.length:Int) (h,zD,AP.mk h [])) (fun s0=>some (s0.2.2,0)) (fun v0=>some v0)
theorem ij(hf:A6 t)(o:Ja rules)(h:gt)(choices:Fp):DK t rules h choices=S4 t rules h choices:=by
 unfold DK S4;rw[YU hf o,bs];by_cases u:Ga t rules h=0
 .rw[b6 (by simp[u]),b6 (show¬Ga t rules h≠0 from fun k=>k u)];by_cases E:30<choices.length
  .grind
  rw [b6 (by simp;omega),b6 E];obtain⟨_,K,_,I⟩:=Ql hf u;rw[Sa (OU hf (by assumption) I),bs];congr 1;refine Ue fun j s z D=>?_;unfold S3;obtain⟨v,e,N,O⟩:=mg (t:=t) o s.1;rw[AC z D,bs,pY hf o,e,bs,bs];by_cases F:v.2=0
  .have w:¬(!decide (v.2=0))=true:=by simp[F]
   rw [b6 w,b6 w];by_cases G:(v.1.length:Int)=0
   .grind
   have y:¬decide ((v.1.length:Int)=0)=true:=by rw[decide_eq_true_iff];exact G
   rw [b6 y,b6 y];have H:0<(v.1.length:Int):=by omega
   have J:=Vp (c:=AA choices j) H
   grind [aS,AA,Cj,bs,AV,ir,AC,YY,AF]
  grind
 grind
end Go.Sf.Sc
