/- Plain lemmas: what the functions of the program and of the reference compute. -/
import Derived.Test.YtagcclhejecceaaGreatSfF
import Derived.Test.YtagcclhejecceaaGreatP46
set_option linter.all false
set_option maxRecDepth 100000
namespace Go.Sf.Sc
open Go Go.Sf
def RL(p g:c9)(m:d3):c9:=⟨m.ca.map (AA g.ca),p.ci⟩
variable{l:Fp}
theorem O7{n x:Int}:x∈BG l n↔(0<=x/\x<n)/\x∉l:=by
 unfold BG;rw[List.mem_filter];constructor
 .grind[Int.natCast_nonneg,CH]
 .rintro⟨⟨b,e⟩,f⟩;refine⟨List.mem_map.2 ⟨x.toNat,List.mem_range.2 (by omega),Int.toNat_of_nonneg b⟩,?_⟩
  grind [hasB,CH]
theorem MT(l:Fp)(n:Int):(BG l n).Pairwise (·<·):=by grind[BG,List.pairwise_lt_range.imp]
def EZ(images ff:Fp):Fp:=(BG ff images.length).map (AA images)
theorem Sb{images ff:Fp}{x:Int}:x∈EZ images ff↔∃i:Int,(0<=i/\i<images.length)/\i∉ff/\AA images i=x:=by grind[EZ,O7]
def w4(images ff:Fp):Bool:=kx (fun a=>kx (fun b=>decide (AA images a=AA images b)&&(!hasB ff a||!hasB ff b)) (a+1) images.length) 0 images.length
theorem dE{images ff:Fp}(h:w4 images ff=false){a b:Int}(a0:0<=a)(a1:a<images.length)(s:0<=b)(q:b<images.length)(u:a∈ff)(e:AA images a=AA images b):b∈ff:=by
 unfold w4 at h;rw[By]at h;by_cases j:a=b
 .exact j▸u
 by_cases w:a<b
 .have f:=h a a0 a1;rw[By]at f;have o:=f b (by omega) q;rw[decide_eq_true e,Bool.true_and,Bool.or_eq_false_iff]at o
  grind [CH]
 .have f:=h b s q;rw[By]at f;have o:=f a (by omega) a1;rw[decide_eq_true e.symm,Bool.true_and,Bool.or_eq_false_iff]at o
  grind [CH]
variable{i:Int}
theorem Se{images ff:Fp}(h:w4 images ff=false)(b:0<=i)(e:i<images.length)(f:i∈ff):AA images i∉EZ images ff:=by grind[Sb,dE]
def Mj(g:c9)(ff:Bh)(m:d3)(i:Int):Bool:=
 !hasB m.ci i&&(hasB (EZ m.ca ff.ca) (AA g.ci i).kg||hasB (EZ m.ca ff.ca) (AA g.ci i).To)
def Ly(g:c9)(ff:Bh)(m:d3):Bh:=⟨BG (EZ m.ca ff.ca) g.ca.length,BG (EZ m.ci ff.ci) g.ci.length⟩
def Mh(l g:c9)(ff:Bh)(m:d3):Bh×Int:=
 if HH l g m≠0 then(⟨[],[]⟩,HH l g m)else if Ea l ff≠0 then(⟨[],[]⟩,Ea l ff)else
 if (w4 m.ca ff.ca||w4 m.ci ff.ci)=true then(⟨[],[]⟩,15)else
 if kx (Mj g ff m) 0 g.ci.length=true then(⟨[],[]⟩,14)else(Ly g ff m,0)
structure Yi(l g:c9)(ff:Bh)(m:d3):Prop where
 mor:YQ l g m
 part:Ym l ff
 d7:w4 m.ca ff.ca=false
 ei:w4 m.ci ff.ci=false
 free:∀i:Int,0<=i->i<g.ci.length->Mj g ff m i=false
variable{g:c9}
theorem ip{p:Bh}(h:Ea g p=0):B4 g=0/\N7 g p=0:=by grind[Ea]
theorem Wn{l g:c9}{ff:Bh}{m:d3}(h:(Mh l g ff m).2=0):Yi l g ff m/\Mh l g ff m=(Ly g ff m,0):=by
 unfold Mh at h|-;split at h
 .grind
 rename_i e;rw[ae e];split at h
 .grind
 rename_i f;rw[ae f];split at h
 .grind
 rename_i b;rw[ae b];split at h
 .grind
 rename_i j;rw[ae j];simp[not_or]at b;exact⟨⟨QA (Classical.not_not.1 e),WM (ip (Classical.not_not.1 f)).2,b.1,b.2,By.1 (by simpa using j)⟩,rfl⟩
theorem fz{l g:c9}{ff:Bh}{m:d3}(h:Yi l g ff m):N7 g (Ly g ff m)=0:=by
 have s:=h.mor;have F:=s.gb;have G:∀x∈(Ly g ff m).ca,0<=x/\x<g.ca.length:=fun x j=>Gx j;have H:∀x∈(Ly g ff m).ci,0<=x/\x<g.ci.length:=fun x j=>Gx j;have f:∀{l:Fp}{n:Int},(∀x∈l,0<=x/\x<n)->l.Pairwise (·<·)->Pa l n=0:=by
  grind [Pa,CW,AJ,Jl]
 unfold N7;rw[f G (MT _ _),f H (MT _ _)];simp;rw[CW.2 fun i D E=>?_]
 .rfl
 have j:=AJ D E;generalize AA (Ly g ff m).ci i=x at j;have b:(0<=x/\x<g.ci.length)/\x∉EZ m.ci ff.ci:=O7.1 j;have hf:=F.fit _ (AJ b.1.1 b.1.2);have u:(AA g.ci x).kg∉EZ m.ca ff.ca/\(AA g.ci x).To∉EZ m.ca ff.ca:=by
  by_cases hi:x∈m.ci
  .obtain⟨k,y,z,e⟩:=Be hi;have o:k∈ff.ci:=by
    by_cases o:k∈ff.ci
    .exact o
    .exact absurd (Sb.2 ⟨k,⟨y,z⟩,o,e⟩) b.2
   have ends:=h.part.ends k o;have he:=s.edge k y z;rw[e]at he;have w:=h.part.d7.1;have I:=w _ ends.1;have J:=w _ ends.2;have N:=s.w9;rw[<-he.2.2.1,<-he.2.2.2];exact⟨Se h.d7 I.1 (by omega) ends.1,Se h.d7 J.1 (by omega) ends.2⟩
  .have hd:=h.free x b.1.1 b.1.2;unfold Mj at hd;rw[show hasB m.ci x=false from by cases K:hasB m.ci x with|false=>rfl|true=>exact absurd (CH.1 K) hi,Bool.not_false,Bool.true_and,Bool.or_eq_false_iff]at hd;exact⟨fun q=>by rw[CH.2 q]at hd;exact absurd hd.1 (by decide),fun q=>by rw[CH.2 q]at hd;exact absurd hd.2 (by decide)⟩
 grind [hasB,Ly,AA,CH,O7]
def HV(n:Nat)(l:Fp):Fp:=(A3 n).map (DC l)
variable{v:Int}
theorem Wv(h:v∉l):DC l v=-1:=by grind[DC,CW,AJ]
theorem PJ(l:Fp)(v:Int):-1<=DC l v/\DC l v<l.length:=by
 by_cases h:v∈l
 .have:=Il h;omega
 .rw[Wv h];omega
theorem Mr:0<=DC l v↔v∈l:=by grind[Wv,Il]
theorem I4(n:Nat)(l:Fp):(HV n l).length=n:=by unfold HV;rw[c7,BN]
variable{n:Nat}
theorem VU(b:0<=i)(e:i<n):AA (HV n l) i=DC l i:=I0 _ b e
theorem ZT(h:l.Nodup)(b:0<=i)(e:i<l.length):DC l (AA l i)=i:=by
 have f:=Il (AJ b e)
 grind [DC,AA,Jl]
def Pb(ff into at_:Fp)(n i:Int):Int:=if hasB into i=true then AA at_ (AA ff (DC into i))else n+(BG into i).length
def SQ(count:Nat)(ff into at_:Fp)(n:Int):Fp:=(A3 count).map (Pb ff into at_ n)
theorem Wm(count:Nat)(ff into at_:Fp)(n:Int):(SQ count ff into at_ n).length=count:=by unfold SQ;rw[c7,BN]
variable{count:Nat}
theorem eg{ff into at_:Fp}{n i:Int}(b:0<=i)(e:i<count):AA (SQ count ff into at_ n) i=Pb ff into at_ n i:=I0 _ b e
theorem Jv(h:0<=i):((BG l i).length:Int)<=i:=by grind[QL]
end Go.Sf.Sc
namespace Go.Sf.Sc
open Go Go.Sf
variable{α:Type}
theorem jh{P:List α->Prop}(b:P [])(e:∀l a,P l->P (l++[a]))(l:List α):P l:=by
 have:∀l:List α,P l.reverse:=by
  intro l
  induction l with
  |nil=>exact b|cons a l f=>rw[List.reverse_cons];exact e _ _ f
 rw [<-List.reverse_reverse l];exact this _
def Oq(L:BT):BT:=L.foldl (fun m p=>m.set p.1 p.2) []
theorem Za(L:BT)(p:(Int×Int)×Int):Oq (L++[p])=(Oq L).set p.1 p.2:=by
 unfold Oq
 grind
def Qz(L:BT):Prop:=∀p∈L,∀q∈L,p.1=q.1->p.2=q.2
variable{k:Int×Int}{v:Int}
theorem Sg:∀{m:BT},m.look k=some v->(k,v)∈m
 |[],h=>by cases h
 |p::r,h=>by
  unfold BT.look at h;split at h
  .grind
  .exact List.mem_cons_of_mem _ (Sg h)
theorem Xm:∀{m:BT},m.look k=none->∀p∈m,p.1≠k
 |[],_,p,b=>by cases b
 |q::r,h,p,b=>by
  unfold BT.look at h;split at h
  .cases h
  .rename_i e;rcases List.mem_cons.1 b with rfl|b
   .exact e
   .exact Xm h p b
theorem cA:∀{m:BT},m.look k=none->m.set k v=m++[(k,v)]
 |[],_=>rfl|p::r,h=>by
  unfold BT.look at h;unfold BT.set;split at h
  .cases h
  .rename_i e;rw[ae e,cA h];rfl
theorem Z8:∀{m:BT},m.look k=some v->m.set k v=m
 |[],h=>by cases h
 |p::r,h=>by
  unfold BT.look at h;unfold BT.set;split at h
  .grind
  .rename_i e;rw[ae e,Z8 h]
theorem cw(V:List Fp)(p:(Int×Int)×Int):Ca (Ca V p) p=Ca V p:=by
 unfold Ca;split
 .apply List.ext_getElem?
  grind [Option.map_eq_map,Option.map_map,List.set_set]
 .rfl
theorem iJ{m:BT}(hd:m.zF){p:(Int×Int)×Int}(b:p∈m)(V:List Fp):Ca (m.foldl Ca V) p=m.foldl Ca V:=by
 have e:m.Perm (m.erase p++[p]):=(List.perm_cons_erase b).trans (List.perm_append_singleton p (m.erase p)).symm;rw[<-Vp hd e V,List.foldl_append];exact cw _ _
theorem Qz.sub{L M:BT}(h:Qz L)(b:∀p∈M,p∈L):Qz M:=fun p e q f=>h p (b p e) q (b q f)
theorem bf(L:BT):Qz L->(Oq L).zF/\(∀p,p∈Oq L↔p∈L)/\∀V,(Oq L).foldl Ca V=L.foldl Ca V:=by
 refine jh (P:=fun L=>Qz L->(Oq L).zF/\(∀p,p∈Oq L↔p∈L)/\∀V,(Oq L).foldl Ca V=L.foldl Ca V) (fun _=>⟨List.Pairwise.nil,fun p=>Iff.rfl,fun V=>rfl⟩) (fun L p e b=>?_) L;obtain⟨u,s,w⟩:=e (b.sub fun q f=>List.mem_append_left _ f);rw[Za];cases j:(Oq L).look p.1 with
 |none=>
  grind [cA,BT.set_dis]
 |some v=>
  have o:=Sg j;have hv:v=p.2:=b (p.1,v) (List.mem_append_left _ ((s _).1 o)) p (by simp) rfl
  grind [Z8,List.mem_singleton,iJ]
def O1(L:BT):Bool:=kx (fun i=>kx (fun k=>decide ((AA L k).1=(AA L i).1)&&!decide ((AA L k).2=(AA L i).2)) 0 i) 0 L.length
variable{L:BT}
theorem XJ(h:O1 L=false):Qz L:=by
 intro p o q s e;obtain⟨a,a0,a1,rfl⟩:=Be o;obtain⟨b,u,w,rfl⟩:=Be s;unfold O1 at h;rw[By]at h;by_cases f:a=b
 .rw[f]
 by_cases y:a<b
 .have j:=h b u w;rw[By]at j
  grind
 .have j:=h a a0 a1;rw[By]at j
  grind
theorem ZL(L:BT)(V:List Fp):Km (L.foldl Ca V) V:=by
 induction L generalizing V with
 |nil=>rfl|cons p r b=>exact(b (Ca V p)).trans (XO V p)
end Go.Sf.Sc
namespace Go.Sf.Sc
open Go Go.Sf
variable{t:AC}{p g:c9}{inj:Bool}
theorem SP{m:d3}(h:GV t p g m inj=0):F9 t p g=0/\OJ t p g m=0/\XC t p g m:=by grind[Yz,GV]
theorem ef{m:d3}(h:GV t p g m inj=0):GV t p g m false=0:=by grind[SP,GV]
variable{α:Type}
theorem T1[Inhabited α](l:List α):(A3 l.length).map (AA l)=l:=by grind[Ys,c7,BN,I0]
variable{β:Type}
theorem ox[Inhabited α](l:List α)(f:α->β):l.map f=(A3 l.length).map fun j=>f (AA l j):=by
 rw [show(fun j=>f (AA l j))=f∘AA l from rfl,<-List.map_map,T1]
theorem pH(hf:Aw t){m:d3}(h:GV t p g m inj=0):FI t p g m=some (RL p g m,0):=by
 obtain ⟨b,o,e⟩:=SP h;obtain⟨_,f,u,_⟩:=Nh b;unfold FI;rw[W5 hf,bs,ae (by simp[b]),Xp hf b,bs,ae (by simp[o])];unfold C6;have:=f.d7;have:=f.ei;have:=e.w9;rw[Bs (by unfold Aj;omega),bs];rw[RI (by omega) (fun x j=>?_) p.ci]
 .rfl
 .obtain⟨i,q,s,rfl⟩:=Be j;exact(e.node i q s).1
theorem pk(hf:Aw t){m:d3}(h:GV t p g m inj=0):Ir t p g m=some (RL p g m,0):=by
 obtain ⟨w,z,s⟩:=SP h;obtain⟨_,u,D,_⟩:=Nh w;have:=u.d7;have:=u.ei;have y:=s.w9;unfold Ir HK;rw[W6 hf,bs,ae (by simp[ef h]),Bs (by unfold Aj;omega),bs,Bs (by unfold Aj;omega),bs,bs];rw[Qx (fun i=>c9.mk ((A3 p.ca.length).map fun j=>if j<i then AA g.ca (AA m.ca j)else AA p.ca j) p.ci) (a:=0) (b:=p.ca.length) (by omega)]
 .have e:((A3 p.ca.length).map fun j=>if j<(p.ca.length:Int)then AA g.ca (AA m.ca j)else AA p.ca j)=m.ca.map (AA g.ca):=by
   grind [ox,C7]
  rw [e];rfl
 .congr 1;rw[<-T1 p.ca,c7,BN]
  grind [C7,T1]
 .intro i f o;have q:=s.node i f (by omega);simp[BN];rw[a6 (by simpa using o),AD f (by omega),bs,AD q.1.1 q.1.2,bs,AD f (by rw[c7,BN];exact o),bs,I3 _ f,At (by omega) (by omega)]
  grind
 grind [c7,BN]
variable{n:Nat}
theorem OS{f:Int->List α->Option (List α)}(q:Int->Bool)(F:Int->α)(h:∀i s,0<=i->i<(n:Int)->s.length<=i.toNat->f i s=some (if q i=true then s++[F i]else s)):o4 f 0 n []=some (((A3 n).filter q).map F):=by
 have e:∀k:Nat,(((A3 k).filter q).map F).length<=k:=fun k=>by
  rw [c7];exact Nat.le_trans (List.length_filter_le _ _) (by rw[BN];exact az _)
 have:=B0 (f:=f) (s:=[]) (fun i=>((A3 i.toNat).filter q).map F) (a:=0) (b:=n) (by omega) rfl (fun i j o=>by
  grind [F2])
 grind
theorem ZH{q:Int->Bool}{F:Int->α}:decide (0<((((A3 n).filter q).map F).length:Int))=kx q 0 n:=by
 rw [Bool.eq_iff_iff,wq,D9,c7];constructor
 .intro h;have b:(A3 n).filter q≠[]:=fun e=>by rw[e]at h;simp at h
  obtain ⟨x,s⟩:=List.exists_mem_of_ne_nil _ b
  grind [Eh]
 .rintro⟨i,f,j,o⟩;have:i∈(A3 n).filter q:=List.mem_filter.2 ⟨Eh.2 ⟨f,j⟩,o⟩
  grind
theorem fS{x:Ck}(b:x.m.ca.length<=1000):DN x=some (EZ x.m.ca x.ff.ca):=by
 unfold DN;rw[OS (fun i=>!hasB x.ff.ca i) (AA x.m.ca)]
 .rfl
 grind [AD,LN,hasB,Aq,Aj]
theorem VJ{images ff:Fp}(b:images.length<=1000):JH images ff=some (EZ images ff):=by
 unfold JH;rw[OS (fun i=>!hasB ff i) (AA images)]
 .rfl
 grind [Dt,hasB,Ni,AD,Aq,Aj]
theorem dY{x:Ck}(b:x.m.ca.length<=1000)(he:x.g.ci.length<=1000):DA x=some ((A3 x.g.ci.length).filter (Mj x.g x.ff x.m)):=by
 unfold DA;rw[fS b,bs,OS (Mj x.g x.ff x.m) id]
 .rw[bs,List.map_id]
 .intro i s e f j;rw[AD e f,bs,LN,bs,LN,bs,LN,bs];unfold Mj;change (if(!hasB x.m.ci i)=true then(if hasB (EZ x.m.ca x.ff.ca) (AA x.g.ci i).kg=true then some true else some (hasB (EZ x.m.ca x.ff.ca) (AA x.g.ci i).To)).bind _ else some false).bind _=_;cases hasB x.m.ci i<;>cases hasB (EZ x.m.ca x.ff.ca) (AA x.g.ci i).kg<;>cases hasB (EZ x.m.ca x.ff.ca) (AA x.g.ci i).To<;>simp[Aq (show s.length+[i].length<=Aj by simp;unfold Aj;omega)]
theorem de{l g:c9}{ff:Bh}{m:d3}(b:m.ca.length<=1000)(he:g.ci.length<=1000):Iq l g ff m=some ((A3 g.ci.length).filter (Mj g ff m)):=by
 unfold Iq;rw[VJ b,bs,OS (Mj g ff m) id]
 .rw[bs,List.map_id]
 .intro i s e f j;have hh:∀(l:Fp)(v:Int),Dt l v=some (hasB l v):=Ni;simp[AD e f,hh];unfold Mj;cases hasB m.ci i<;>cases hasB (EZ m.ca ff.ca) (AA g.ci i).kg<;>cases hasB (EZ m.ca ff.ca) (AA g.ci i).To<;>simp[Aq (show s.length+[i].length<=Aj by simp;unfold Aj;omega)]
variable{a i:Int}
theorem Pu{p:Int->Bool}(h:a<=i):kx p a (i+1)=(kx p a i||p i):=by
 rw [Bool.eq_iff_iff,Bool.or_eq_true,D9,D9]
 grind
theorem WL{images ff:Fp}(I:images.length<=100){f:Int->Int->List IH->Option (List IH)}(hf:∀(i j:Int)s,0<=i->i<images.length->i<j->j<images.length->s.length<=20000->f i j s=some (if(decide (AA images i=AA images j)&&(!hasB ff i||!hasB ff j))=true then s++[IH.mk i j]else s)):
  ∃l,o4 (fun(e:Int)(q:List IH)=>(o4 (fun(o:Int)(s2:List IH)=>f e o s2) (AY (e+1)) (images.length:Int) q).bind fun s2=>some s2) 0 (images.length:Int) []=some l/\l.length<=10000/\decide (0<l.length)=w4 images ff:=by
 have key:=Pd (f:=fun(e:Int)(q:List IH)=>(o4 (fun(o:Int)(s2:List IH)=>f e o s2) (AY (e+1)) (images.length:Int) q).bind fun s2=>some s2) (s:=[])
  (fun i s=>(s.length:Int)<=100*i/\decide (0<s.length)=kx (fun a=>kx (fun b=>decide (AA images a=AA images b)&&(!hasB ff a||!hasB ff b)) (a+1) images.length) 0 i) (a:=0) (b:=images.length) (by omega)
  (by refine⟨by simp,?_⟩;rw[By.2 (fun i y z=>by omega)];rfl) (fun i s e D E=>by
   have u:=Pd (f:=fun(o:Int)(s2:List IH)=>f i o s2) (s:=s)
    (fun j s'=>(s'.length:Int)<=100*i+(j-(i+1))/\decide (0<s'.length)=(decide (0<s.length)||kx (fun b=>decide (AA images i=AA images b)&&(!hasB ff i||!hasB ff b)) (i+1) j)) (a:=i+1) (b:=images.length) (by omega)
    (by refine⟨by have:=E.1;omega,?_⟩;rw[By.2 (fun i y z=>by omega),Bool.or_false]) (fun j s' J F w=>by
     refine ⟨_,hf i j s' e D (by omega) F (by have:=w.1;omega),?_,?_⟩
     .grind
     .rw[Pu (by omega),<-Bool.or_assoc,<-w.2]
      grind)
   grind [At,Pu])
 obtain ⟨l,G,K,H⟩:=key;exact⟨l,G,by omega,H⟩
theorem bm{images ff:Fp}(E:images.length<=100):∃l,Fd images ff=some l/\l.length<=10000/\decide (0<l.length)=w4 images ff:=by
 unfold Fd;obtain⟨l,J,K⟩:=WL (ff:=ff) E (f:=fun b e s2=>
  (idx images b).bind fun o=>
  (idx images e).bind fun q=>
  (if(decide (o=q))=true then((slices_Contains_int ff b).bind fun u=>
  (if(!u)=true then some true else((slices_Contains_int ff e).bind fun w=>
  some (!w))).bind fun y=>
  some (y))else some false).bind fun z=>
  if z=true then
  (Ai s2 [IH.mk b e]).bind fun D=>
  some D
  else
  some s2) (fun i j s b F H G I=>by
   have hh:∀(l:Fp)(v:Int),slices_Contains_int l v=some (hasB l v):=LN;simp[AD b F,AD (show 0<=j by omega) G,hh]
   grind [AA,hasB,Aq,Aj])
 grind
theorem b7{images ff:Fp}(E:images.length<=100):∃l,Fo images ff=some l/\l.length<=10000/\decide (0<l.length)=w4 images ff:=by
 unfold Fo;obtain⟨l,J,K⟩:=WL (ff:=ff) E (f:=fun b e s2=>
  (idx images b).bind fun o=>
  (idx images e).bind fun q=>
  (if(decide (o=q))=true then((Dt ff b).bind fun u=>
  (if(!u)=true then some true else((Dt ff e).bind fun w=>
  some (!w))).bind fun y=>
  some (y))else some false).bind fun z=>
  if z=true then
  (Ai s2 [IH.mk b e]).bind fun D=>
  some D
  else
  some s2) (fun i j s b F H G I=>by
   have hh:∀(l:Fp)(v:Int),Dt l v=some (hasB l v):=Ni;simp[AD b F,AD (show 0<=j by omega) G,hh]
   grind [AA,hasB,Aq,Aj])
 grind
variable{l:Fp}
theorem Zy(h:n<=1000):Kz n l=some (BG l n):=by
 unfold Kz;rw[S1 (f:=Dt l) (by omega) (by omega) (fun i=>Ni l i)];rfl
theorem Zp{images ff:Fp}(w:n<=1000)(hi:∀x∈images,0<=x/\x<n):GK n images ff=some (BG (EZ images ff) n):=by
 unfold GK GO;rw[a6 (by omega),bs];rw[B0 (fun i=>(A3 n).map fun k=>kx (fun j=>!hasB ff j&&decide (AA images j=k)) 0 i) (by omega)]
 .rw[bs,c7,BN,OS (fun i=>!hasB (EZ images ff) i) id]
  .rw[bs,List.map_id];rfl
  .intro i s b f D;rw[AD b (by rw[c7,BN];exact f),bs,I0 _ b f];have e:kx (fun j=>!hasB ff j&&decide (AA images j=i)) 0 images.length=hasB (EZ images ff) i:=by
    rw [Bool.eq_iff_iff,D9,CH,Sb];constructor
    .rintro⟨j,q,u,h⟩;rw[pr,wq]at h
     grind [CH]
    .rintro⟨j,⟨q,u⟩,F,h⟩;refine⟨j,q,u,?_⟩;rw[pr,wq]
     grind [hasB,CH]
   grind [hasB,EZ,Aq,Aj]
 .refine List.ext_getElem (by simp[BN]) (fun k y z=>?_)
  grind [Int.toNat_natCast,By]
 .intro i b f;have o:=hi _ (AJ b f);have hh:∀(l:Fp)(v:Int),slices_Contains_int l v=some (hasB l v):=LN;rw[AD b f,bs,hh,bs];cases E:hasB ff i
  .rw[a6 (by decide),AD o.1 (by rw[c7,BN];exact o.2),bs,I3 _ o.1]
   grind [C7,Pu,AA]
  grind [C7,Pu]
theorem cK{a b:Nat}(e:a<=10000)(f:b<=10000):decide (0<AY ((a:Int)+(b:Int)))=(decide (0<a)||decide (0<b)):=by
 rw [At (by omega) (by omega),Bool.eq_iff_iff,Bool.or_eq_true]
 grind
theorem o9{l g:c9}{ff:Bh}{m:d3}(w:QO ff):GW l g ff m=some (Mh l g ff m):=by
 unfold GW Cz Mh;simp only[];rw[UN,bs,bn w,bs];by_cases f:¬HH l g m=0
 .grind
 have f:=Classical.not_not.1 f;rw[ae (by simp[f]),bs,ae (show¬HH l g m≠0 by simp[f])];refine D1 fun I=>?_;have b:=QA f;have a1:=b.ga.d7;have a2:=b.ga.ei;have N:=b.w9;have O:=b.xr;have P:=b.gb.d7;have Q:=b.gb.ei;unfold De;obtain⟨u,y,z,D⟩:=bm (ff:=ff.ca) (images:=m.ca) (by omega);obtain⟨v,E,G,H⟩:=bm (ff:=ff.ci) (images:=m.ci) (by omega);simp only[];rw[y,bs,E,bs,bs];simp only[];rw[cK z G,D,H];refine XH fun J=>?_;rw[dY (by show m.ca.length<=1000;omega) (by show g.ci.length<=1000;omega),bs];have e:=ZH (n:=g.ci.length) (q:=Mj g ff m) (F:=id);rw[List.map_id]at e;rw[e];refine XH fun K=>?_;rw[Zp (by omega) (fun x j=>?_),bs,Zp (by omega) (fun x j=>?_),bs]
 .rfl
 .obtain⟨i,o,s,rfl⟩:=Be j;exact(b.edge i o s).1
 .obtain⟨i,o,s,rfl⟩:=Be j;exact(b.node i o s).1
theorem pW{l g:c9}{ff:Bh}{m:d3}(j:QO ff):Pl l g ff m=some (Mh l g ff m):=by
 unfold Pl OC Mh;rw[UP,bs,W7 j,bs];by_cases f:¬HH l g m=0
 .grind
 have f:=Classical.not_not.1 f;rw[ae (by simp[f]),bs,ae (show¬HH l g m≠0 by simp[f])];refine D1 fun E=>?_;have b:=QA f;have a1:=b.ga.d7;have a2:=b.ga.ei;have I:=b.w9;have J:=b.xr;have K:=b.gb.d7;have N:=b.gb.ei;obtain⟨u,o,s,w⟩:=b7 (ff:=ff.ca) (images:=m.ca) (by omega);obtain⟨v,y,z,D⟩:=b7 (ff:=ff.ci) (images:=m.ci) (by omega);rw[o,bs,y,bs,cK s z,w,D];refine XH fun G=>?_;rw[de (by omega) (by omega),bs];have e:=ZH (n:=g.ci.length) (q:=Mj g ff m) (F:=id);rw[List.map_id]at e;rw[e];refine XH fun H=>?_;rw[VJ (by omega),bs,Zy (by omega),bs,VJ (by omega),bs,Zy (by omega),bs];rfl
end Go.Sf.Sc
namespace Go.Sf.Sc
open Go Go.Sf
variable{α β:Type}
theorem VB[Inhabited α]{l:List α}{F:α->β}{f:Int->List β->Option (List β)}(h:∀(i:Int)s,0<=i->i<l.length->s.length<=i.toNat->f i s=some (s++[F (AA l i)])):o4 f 0 l.length []=some (l.map F):=by
 have:=B0 (f:=f) (s:=[]) (fun i=>(l.take i.toNat).map F) (a:=0) (b:=l.length) (by omega) (by simp) (fun i e j=>by
  grind [c7,bq,DF])
 rwa [Int.toNat_natCast,List.take_length]at this
variable{n:Nat}{l:Fp}
theorem bu(E:n<=1000)(u:l.length<=1000)(f:l.Pairwise (·<·)):LA n l=some (HV n l):=by
 unfold LA GO;rw[a6 (by omega),bs,Int.toNat_natCast,List.length_replicate,B0 (fun i=>(A3 n).map fun j=>if j<i then DC l j else 0) (by omega)]
 .rw[bs];congr 1;exact C7 fun j w o=>a6 o
 .refine List.ext_getElem (by simp[BN]) (fun k y F=>?_);have e:(A3 n)[k]'(by simpa[BN]using y)=(k:Int):=by simp[A3]
  simp only[List.getElem_map,List.getElem_replicate,e];rw[ae (by omega)]
 .intro i q D;rw[RY u f,bs,AD q (by rw[c7,BN];exact D),bs];have e:∀v:Int,v=DC l i->some (BF ((A3 n).map fun j=>if j<i then DC l j else 0) i v)=some ((A3 n).map fun j=>if j<i+1 then DC l j else 0):=by
   rintro v rfl;rw[I3 _ q];congr 1;refine C7 fun j w o=>?_;by_cases e:j=i
   .rw[a6 e,a6 (by omega),e]
   .rw[ae e];by_cases s:j<i
    .rw[a6 s,a6 (by omega)]
    .rw[ae s,ae (by omega)]
  cases b:hasB l i with
  |false=>
   rw [a6 (by rfl)];exact e _ (Wv fun z=>by rw[CH.2 z]at b;cases b).symm
  |true=>
   rw [ae (by simp)];exact e _ (U1 f (CH.1 b))
theorem Sw(H:n<=1000)(I:l.length<=1000)(z:l.Nodup):H8 l n=some (HV n l):=by
 unfold H8;rw[B0 (fun k=>(A3 k.toNat).map (DC l)) (by omega) (by rfl)]
 .rfl
 .intro k o J;have f:((A3 k.toNat).map (DC l)).length=k.toNat:=by rw[c7,BN]
  have G:(A3 k.toNat).map (DC l)++[-1]=(A3 (k+1).toNat).map fun j=>if j<k then DC l j else if DC l k<0 then DC l k else -1:=by
   rw [F2 o,List.map_append];congr 1
   .grind[List.map_congr_left,Eh]
   .rw[List.map_singleton,ae (by omega)];have:=PJ l k
    grind
  rw [Aq (by rw[f];simp;unfold Aj;omega),bs,G,B0 (fun i=>(A3 (k+1).toNat).map fun j=>if j<k then DC l j else if DC l k<i then DC l k else -1) (by omega) rfl]
  .rw[bs];congr 1;refine List.map_congr_left fun j D=>?_;have:=Eh.1 D;split
   .rfl
   .have e:j=k:=by omega
    rw [a6 (PJ l k).2,e]
  .intro i q s;rw[AD q s,bs];by_cases e:AA l i=k
   .have u:DC l k=i:=by rw[<-e];exact ZT z q s
    rw [a6 (by simp[e]),AD o (by rw[c7,BN];omega),bs,I3 _ o];congr 1;refine C7 fun j E F=>?_;by_cases w:j=k
    .rw[a6 w,ae (by omega),a6 (by omega),u]
    .rw[ae w];by_cases b:j<k
     .rw[a6 b,a6 b]
     .omega
   .have u:DC l k≠i:=fun h=>by
     have:=(Il (Mr.1 (show 0<=DC l k by omega))).2.2.1;rw[h]at this;exact e this
    rw [ae (by simp[e])];congr 1;refine C7 fun j E F=>?_;by_cases b:j<k
    .rw[a6 b,a6 b]
    .rw[ae b,ae b];by_cases y:DC l k<i
     .rw[a6 y,a6 (by omega)]
     .rw[ae y,ae (by omega)]
structure T7(count:Nat)(ff into at_:Fp):Prop where
 few:count<=1000
 nodup:into.Nodup
 len:into.length=ff.length
 inn:∀x∈into,0<=x/\x<count
 kin:∀x∈ff,0<=x/\x<at_.length
 pos:∀x∈ff,0<=AA at_ x
theorem RP(b:l.Nodup)(h:∀x∈l,0<=x/\x<n):l.length<=n:=by
 have:=List.Nodup.length_le_of_subset (l₁:=l) (l₂:=A3 n) b (fun x e=>Eh.2 (h x e))
 rwa [BN]at this
variable{i:Int}
theorem O8(h:0<=i):((BG l (i+1)).length:Int)=(BG l i).length+if i∈l then 0 else 1:=by grind[NB,bk,hasB,CH]
theorem Qd{ff into at_:Fp}{n i:Int}(h:i∈into):Pb ff into at_ n i=AA at_ (AA ff (DC into i)):=by grind[Pb,CH]
theorem RA{ff into at_:Fp}{n i:Int}(h:i∉into):Pb ff into at_ n i=n+(BG into i).length:=by grind[Pb,CH]
variable{count:Nat}
theorem Xu{ff into at_:Fp}{n:Int}(h:T7 count ff into at_)(w:0<=n)(y:n<=1000):FQ ff into count at_ n=some (SQ count ff into at_ n):=by
 have z:=h.few;have q:=RP h.nodup h.inn;have s:=h.len;unfold FQ;rw[Sw h.few (by omega) h.nodup,bs,B0 (fun i=>(n+((BG into i).length:Int),(A3 i.toNat).map (Pb ff into at_ n))) (by omega) (by simp[BG,A3])]
 .rfl
 .intro i e o;have D:=Jv (l:=into) e;have b:((A3 i.toNat).map (Pb ff into at_ n)).length=i.toNat:=by rw[c7,BN]
  rw [AD e (by rw[I4];exact o),bs,VU e o];by_cases hi:i∈into
  .have j:=Il hi;have u:=AJ (l:=ff) j.1 (by omega);have f:=h.kin _ u;rw[a6 (by simpa using j.1),bs,AD j.1 (by omega),bs,AD f.1 f.2,bs,Aq (by rw[b];simp;unfold Aj;omega),bs,F2 e,List.map_append,O8 e,a6 hi,Int.add_zero,List.map_singleton,Qd hi]
  .rw[ae (by rw[wq,Mr];exact hi),Aq (by rw[b];simp;unfold Aj;omega),bs,F2 e,List.map_append,O8 e,ae hi,List.map_singleton,RA hi,At (by omega) (by omega),Int.add_assoc]
theorem Xo{ff into b f:Fp}{n:Int}(h:T7 count ff into (b.map (AA f)))(H:∀x∈b,0<=x/\x<f.length)(P:0<=n)(Q:n<=1000):GF count ff into b f n=some (SQ count ff into (b.map (AA f)) n):=by
 have W:=h.few;have I:=RP h.nodup h.inn;have J:=h.len;unfold GF ED;rw[a6 (by refine⟨rfl,by omega,by omega⟩),bs,Int.toNat_natCast];rw[B0 (fun i=>(A3 count).map fun k=>if 0<=DC into k/\DC into k<i then Pb ff into (b.map (AA f)) n k else -1) (by omega)]
 .rw[bs,c7,BN,B0 (fun i=>(n+((BG into i).length:Int),(A3 count).map fun k=>if k<i\/k∈into then Pb ff into (b.map (AA f)) n k else -1)) (by omega)]
  .rw[bs];congr 1;exact C7 fun j E z=>a6 (.inl z)
  .show _=(n,_);congr 1
   .simp[BG]
   .refine C7 fun j E z=>?_;have G:=Mr (l:=into) (v:=j);have K:=PJ into j;by_cases e:j∈into
    .rw[a6 (.inr e),a6 ⟨G.2 e,K.2⟩]
    .rw[ae (by rintro(o|o);omega;exact e o),ae fun o=>e (G.1 o.1)]
  .intro i s w;have X:=Jv (l:=into) s;rw[AD s (by rw[c7,BN];exact w),bs,I0 _ s w];by_cases hi:i∈into
   .have N:=Il hi;have F:=AJ (l:=ff) N.1 (by have:=h.len;omega);have Y:=h.pos _ F;rw[a6 (show i<i\/i∈into from .inr hi),Qd hi,ae (by rw[wq];omega),O8 s,a6 hi,Int.add_zero];congr 2;refine C7 fun j E z=>?_;by_cases e:j<i\/j∈into
    .rw[a6 e,a6 (e.imp (fun h=>by omega) id)]
    .rw[ae e,ae];rintro(o|o)
     .have:j=i:=by
       have:=fun hh=>e (.inl hh);omega
      exact e (.inr (this▸hi))
     .exact e (.inr o)
   .rw[ae (show¬(i<i\/i∈into)by rintro(o|o);omega;exact hi o),a6 (by decide),bs,O8 s,ae hi,At (by simp;omega) (by simp;omega),I3 _ s,Int.add_assoc];congr 2;refine C7 fun j E z=>?_;by_cases u:j=i
    .rw[a6 u,a6 (.inl (by omega)),u,RA hi]
    .rw[ae u];by_cases e:j<i\/j∈into
     .rw[a6 e,a6 (e.imp (fun h=>by omega) id)]
     .rw[ae e,ae];rintro(o|o)
      .exact e (.inl (by omega))
      .exact e (.inr o)
 .refine List.ext_getElem (by simp[BN]) (fun k S U=>?_);simp only[List.getElem_map,List.getElem_replicate];rw[ae (by omega)];rfl
 .intro i s w;have y:=h.inn _ (AJ s w);have F:=AJ (l:=ff) s (by have:=h.len;omega);have q:=h.kin _ F;rw[c7]at q;have D:=H _ (AJ q.1 q.2);rw[AD s w,bs,AD s (by have:=h.len;omega),bs,AD q.1 q.2,bs,AD D.1 D.2,bs,AD y.1 (by rw[c7,BN];exact y.2),bs,I3 _ y.1];congr 1;refine C7 fun j E z=>?_;by_cases u:j=AA into i
  .have e:=ZT h.nodup s w;rw[a6 u,u,e,a6 ⟨s,by omega⟩,Qd (AJ s w),e,OO q.1 q.2]
  .rw[ae u];by_cases e:0<=DC into j/\DC into j<i
   .rw[a6 e,a6 ⟨e.1,by omega⟩]
   .rw[ae e,ae];rintro⟨o,Z⟩;have O:DC into j=i:=by
     have:=fun hh=>e ⟨o,hh⟩;omega
    have:=(Il (Mr.1 o)).2.2.1;rw[O]at this;exact u this.symm
theorem WR{images b:Fp}(e:images.length<=1000)(f:∀x∈images,0<=x/\x<b.length):G0 images b=some (images.map (AA b)):=by
 unfold G0
 grind [VB,AA,AJ,AD,Aq,Aj]
end Go.Sf.Sc
namespace Go.Sf.Sc
open Go Go.Sf
def Ha(h:AH)(d:Bh):d3:=⟨HV h.c9.ca.length d.ca,HV h.c9.ci.length d.ci⟩
def vJ(r:gp)(h:AH)(m:d3)(d:Bh):d3:=
 ⟨SQ r.ec.c9.ca.length r.sr.ca r.pc.ca (m.ca.map (AA (Ha h d).ca)) d.ca.length,
 SQ r.ec.c9.ci.length r.sr.ci r.pc.ci (m.ci.map (AA (Ha h d).ci)) d.ci.length⟩
def dI(t:AC)(k:Int):Fp:=(BB t k).map fun x=>x.xt
def dK(tr:Fp)(e:Bw):Bw:=⟨e.j4,AA tr e.kg,AA tr e.To⟩
def Mv(r:gp)(x:AH)(i:Int):Fp:=x.c9.ca++(BG r.pc.ca i).map (AA r.ec.c9.ca)
def L9(t:AC)(r:gp)(x:AH)(i:Int):List Fp:=x.eo++(BG r.pc.ca i).map fun k=>dI t (AA r.ec.c9.ca k)
def Ol(r:gp)(c:d3)(x:AH)(i:Int):List Bw:=x.c9.ci++(BG r.pc.ci i).map fun k=>dK c.ca (AA r.ec.c9.ci k)
def Cb(t:AC)(r:gp)(x:AH)(c:d3):AH:=⟨⟨Mv r x r.ec.c9.ca.length,Ol r c x r.ec.c9.ci.length⟩,L9 t r x r.ec.c9.ca.length⟩
def B1(h:AH)(d:Bh):AH:=⟨⟨d.ca.map (AA h.c9.ca),d.ci.map fun x=>dK (Ha h d).ca (AA h.c9.ci x)⟩,d.ca.map (AA h.eo)⟩
structure MZ(x:AH):Prop where
 d7:x.c9.ca.length<=1000
 ei:x.c9.ci.length<=1000
 vals:x.eo.length<=1000
 rows:∀v∈x.eo,v.length<=1000
structure Vb(t:AC)(r:gp)(c:d3):Prop where
 hf:Aw t
 hv:(A8 t).2=0
 g:Di r.ec.c9
 kind:∀n∈r.ec.c9.ca,0<=n/\n<t.ca.length
 cn:c.ca.length=r.ec.c9.ca.length
variable{t:AC}{r:gp}{c:d3}
theorem mI(h:Vb t r c){n:Int}(b:n∈r.ec.c9.ca):(BB t n).length<=600:=by
 have:=h.kind n b;exact Gh h.hf (Int.le_refl _) (Cs h.hv).par this.2
variable{x:AH}
theorem fe(h:MZ x):KV x=some x:=by
 have:=h.d7;have:=h.ei;have:=h.vals;unfold KV HK;rw[Bs (by unfold Aj;omega),bs,Bs (by unfold Aj;omega),bs,bs];rw[B0 (fun i=>AH.mk x.c9 (x.eo.take i.toNat)) (by omega) (by rfl)]
 .rw[Int.toNat_natCast,List.take_length];rfl
 .intro i b e;have:=h.rows _ (AJ b e)
  grind [AD,Bs,Aj,Aq,DF]
theorem dX(h:MZ x):Jf x=some x:=by
 have:=h.d7;have:=h.ei;have:=h.vals;unfold Jf slices_Clone_int C6;rw[Bs (by unfold Aj;omega),bs,Bs (by unfold Aj;omega),bs];rw[B0 (fun i=>AH.mk x.c9 (x.eo.take i.toNat)) (by omega) (by rfl)]
 .rw[Int.toNat_natCast,List.take_length];rfl
 .intro i b e;have:=h.rows _ (AJ b e)
  grind [AD,Bs,Aj,Aq,DF]
variable{α:Type}{i:Int}
theorem DU(l:Fp)(F:Int->α)(h:0<=i):(BG l (i+1)).map F=(BG l i).map F++if i∈l then[]else[F i]:=by grind[NB,hasB,CH]
theorem Uo(l:Fp)(i:Int):Hm l i=some (!hasB l i):=by
 unfold Hm hasB;rw[BJ (fun j=>decide (i=AA l j)) false,FX]
 .cases kx (fun j=>decide (i=AA l j)) 0 l.length<;>rfl
 grind [AD,AA]
theorem pi(h:Vb t r c)(q:MZ x):K3 t r x c=some (Cb t r x c):=by
 have H:=h.g.d7;have I:=h.g.ei;have x1:=q.d7;have J:=q.ei;have K:=q.vals;unfold K3;rw[Qx (fun i=>AH.mk (c9.mk (Mv r x i) x.c9.ci) (L9 t r x i)) (a:=0) (b:=r.ec.c9.ca.length) (by omega)]
 .rw[CX,Qx (fun i=>AH.mk (c9.mk (Mv r x r.ec.c9.ca.length) (Ol r c x i)) (L9 t r x r.ec.c9.ca.length)) (a:=0) (b:=r.ec.c9.ci.length) (by omega)]
  .rfl
  .grind[Ol,BG]
  .intro i e f;have y:=Jv (l:=r.pc.ci) e;have he:=h.g.fit _ (AJ e f);have z:=h.cn;rw[a6 (by simpa using f),Uo,bs];by_cases hi:i∈r.pc.ci
   .grind[CH,Ol,DU,At]
   .have o:hasB r.pc.ci i=false:=by cases o:hasB r.pc.ci i with|false=>rfl|true=>exact absurd (CH.1 o) hi
    rw [o,a6 (by decide),AD e f,bs,AD he.2.1.1 (by omega),bs,AD he.2.2.1 (by omega),bs,Aq (by unfold Ol;simp;unfold Aj;omega),bs];unfold Ol;rw[DU _ _ e,ae hi,At (by simp;omega) (by simp;omega),c8];rfl
  .rw[ae (by simp)]
 .unfold Mv L9;simp[BG]
 .intro i e f;have y:=Jv (l:=r.pc.ca) e;have u:=AJ e f;have w:=h.kind _ u;have N:=mI h u;rw[a6 (by simpa using f),Uo,bs];by_cases hi:i∈r.pc.ca
  .grind[CH,Mv,L9,DU,At]
  .have o:hasB r.pc.ca i=false:=by cases o:hasB r.pc.ca i with|false=>rfl|true=>exact absurd (CH.1 o) hi
   rw [o,ae (by decide),AD e f,bs,Aq (by unfold Mv;simp;unfold Aj;omega),bs,bs,Ql h.hf,I1 h.hv w.1 w.2,bs];simp;rw[VB (F:=fun a=>a.xt) fun j s D E G=>?_]
   .rw[bs,Aq (by unfold L9;simp;unfold Aj;omega),bs];unfold Mv L9;rw[DU _ _ e,ae hi,DU _ _ e,ae hi,At (by omega) (by omega),c8,c8];rfl
   grind [AD,Aq,Aj]
 .rw[ae (by simp)]
theorem mU(hf:Aw t)(hv:(A8 t).2=0){k:Int}(e:0<=k)(b:k<t.ca.length):JO t k=some (dI t k):=by
 have:=Gh hf (Int.le_refl _) (Cs hv).par b;unfold JO;rw[Qk hf,I1 hv e b,bs];simp;rw[VB (F:=fun a=>a.xt) fun j s f o q=>?_]
 .rfl
 grind [AD,Aq,Aj]
structure YR(h:AH)(d:Bh):Prop where
 sm:MZ h
 len:h.eo.length=h.c9.ca.length
 d7:(∀x∈d.ca,0<=x/\x<h.c9.ca.length)/\d.ca.length<=1000
 ei:(∀x∈d.ci,0<=x/\x<h.c9.ci.length)/\d.ci.length<=1000
 ends:∀e∈h.c9.ci,(0≤e.kg/\e.kg<h.c9.ca.length)/\0≤e.To/\e.To<h.c9.ca.length
variable{h:AH}{d:Bh}
theorem X2(hd:YR h d):MZ (B1 h d):=by
 have e:=hd.d7.2;have f:=hd.ei.2;refine⟨by unfold B1;simp;omega,by unfold B1;simp;omega,by unfold B1;simp;omega,fun v hv=>?_⟩;obtain⟨x,b,rfl⟩:=List.mem_map.1 hv;have:=hd.d7.1 x b;exact hd.sm.rows _ (AJ this.1 (by rw[hd.len];exact this.2))
variable{R:gp}{M:AU}{C:d3}
theorem mQ(o:Vb t R C)(hd:YR h d)(F:C.ci.length=R.ec.c9.ci.length)
  (u:∀i:Int,0<=i->i<R.ec.c9.ca.length->(AA C.ca i=d.ca.length+(BG R.pc.ca i).length↔i∉R.pc.ca))
  (w:∀i:Int,0<=i->i<R.ec.c9.ci.length->(AA C.ci i=d.ci.length+(BG R.pc.ci i).length↔i∉R.pc.ci)):
  IE t (BS.mk R M h (AH.mk (c9.mk [] []) []) (Ha h d) C) d=some (BS.mk R M h (Cb t R (B1 h d) C) (Ha h d) C):=by
 have G:=hd.d7.2;have H:=hd.ei.2;have I:=o.g.d7;have J:=o.g.ei;have D:=o.cn;unfold IE;simp only[];rw[B0 (fun i=>BS.mk R M h (AH.mk (c9.mk ((d.ca.take i.toNat).map (AA h.c9.ca)) []) ((d.ca.take i.toNat).map (AA h.eo))) (Ha h d) C) (by omega) (by simp)]
 rotate_left
 .intro i b f;have j:=hd.d7.1 _ (AJ b f);have q:=hd.len;have y:=hd.sm.rows _ (AJ j.1 (by omega));rw[AD b f,bs,AD j.1 j.2,bs,Aq (by simp;unfold Aj;omega),bs,AD j.1 (by omega),bs,Bs (by unfold Aj;omega),bs,Aq (by simp;unfold Aj;omega),bs,Hk b f,Hk b f]
 rw [bs,Int.toNat_natCast,List.take_length];rw[B0 (fun i=>BS.mk R M h (AH.mk (c9.mk (d.ca.map (AA h.c9.ca)) ((d.ci.take i.toNat).map fun x=>dK (Ha h d).ca (AA h.c9.ci x))) (d.ca.map (AA h.eo))) (Ha h d) C) (by omega) (by simp)]
 rotate_left
 .intro i b f;have j:=hd.ei.1 _ (AJ b f);have he:=hd.ends _ (AJ j.1 j.2);have q:(Ha h d).ca.length=h.c9.ca.length:=I4 _ _;simp only[];rw[AD b f,bs,AD j.1 j.2,bs,AD he.1.1 (by omega),bs,AD he.2.1 (by omega),bs,Aq (by simp;unfold Aj;omega),bs,Hk b f];rfl
 rw [bs,Int.toNat_natCast,List.take_length];rw[B0 (fun i=>BS.mk R M h (AH.mk (c9.mk (Mv R (B1 h d) i) (B1 h d).c9.ci) (L9 t R (B1 h d) i)) (Ha h d) C) (by omega) (by unfold Mv L9;simp[BG,B1])]
 rotate_left
 .intro i b f;have y:=Jv (l:=R.pc.ca) b;have E:=AJ b f;have z:=o.kind _ E;have q:(Mv R (B1 h d) i).length=d.ca.length+(BG R.pc.ca i).length:=by unfold Mv B1;simp
  have s:(L9 t R (B1 h d) i).length=d.ca.length+(BG R.pc.ca i).length:=by unfold L9 B1;simp
  simp only[q];rw[AD b f,bs,AD b (by omega),bs];by_cases hi:i∈R.pc.ca
  .rw[ae (by rw[wq];push_cast;exact fun e=>(u i b f).1 e hi)];unfold Mv L9;rw[DU _ _ b,a6 hi,List.append_nil,DU _ _ b,a6 hi,List.append_nil]
  .rw[a6 (by rw[wq];push_cast;exact(u i b f).2 hi),Aq (by rw[q];simp;unfold Aj;omega),bs,mU o.hf o.hv z.1 z.2,bs,Aq (by rw[s];simp;unfold Aj;omega),bs];unfold Mv L9;rw[DU _ _ b,ae hi,DU _ _ b,ae hi,c8,c8]
 rw [bs];rw[B0 (fun i=>BS.mk R M h (AH.mk (c9.mk (Mv R (B1 h d) R.ec.c9.ca.length) (Ol R C (B1 h d) i)) (L9 t R (B1 h d) R.ec.c9.ca.length)) (Ha h d) C) (by omega) (by unfold Ol;simp[BG,B1])]
 rotate_left
 .intro i b f;have y:=Jv (l:=R.pc.ci) b;have he:=o.g.fit _ (AJ b f);have q:(Ol R C (B1 h d) i).length=d.ci.length+(BG R.pc.ci i).length:=by unfold Ol B1;simp
  simp only[q];rw[AD b f,bs,AD b (by omega),bs];by_cases hi:i∈R.pc.ci
  .rw[ae (by rw[wq];push_cast;exact fun e=>(w i b f).1 e hi)];unfold Ol;rw[DU _ _ b,a6 hi,List.append_nil]
  .rw[a6 (by rw[wq];push_cast;exact(w i b f).2 hi),AD he.2.1.1 (by omega),bs,AD he.2.2.1 (by omega),bs,Aq (by rw[q];simp;unfold Aj;omega),bs];unfold Ol;rw[DU _ _ b,ae hi,c8];rfl
 rw [bs];rfl
theorem al(hf:Aw t)(hh:(He t h).2=0)(q:Ea h.c9 d=0)(hd:YR h d):Jb t h d=some (B1 h d,0):=by
 have s:=hd.d7.2;unfold Jb;rw[WS hf,bs,ae (by simp[hh]),Xt ⟨hd.d7.2,hd.ei.2⟩,ae (by simp[q]),bs,ae (by simp)];have e:M0 h.c9 d=(B1 h d).c9:=by
  unfold M0 B1;congr 1;refine List.map_congr_left fun x f=>?_;have f:=hd.ei.1 x f;have he:=hd.ends _ (AJ f.1 f.2)
  grind [dK,Ha,VU]
 simp;rw[Qx (fun i=>AH.mk (M0 h.c9 d) ((d.ca.take i.toNat).map (AA h.eo))) (a:=0) (b:=d.ca.length) (by omega) (by simp)]
 .rw[Int.toNat_natCast,List.take_length,CX,e];rfl
 .intro i o j;have f:=hd.d7.1 _ (AJ o j);have u:=hd.len;have w:=hd.sm.rows _ (AJ f.1 (by omega));rw[a6 (by simpa using j),AD o j,bs,AD f.1 (by omega),bs,Bs (by unfold Aj;omega),bs,Aq (by simp;unfold Aj;omega),bs,Hk o j,At (by simp;omega) (by simp;omega)]
 .rw[ae (by simp)]
end Go.Sf.Sc
namespace Go.Sf.Sc
open Go Go.Sf
def PA(c:d3)(vars:Fp)(s:Cx):(Int×Int)×Int:=((AA c.ca s.r0,s.kl),C2 s.hV vars)
def B8(r:gp)(c:d3)(vars:Fp):BT:=r.ec.ej.map (PA c vars)
def Nb(t:AC)(x:AH)(p:(Int×Int)×Int):Bool:=
 decide (p.2<(AA (BB t (AA x.c9.ca p.1.1)) p.1.2).xt)||decide ((AA (BB t (AA x.c9.ca p.1.1)) p.1.2).wM<p.2)
structure UA(t:AC)(r:gp)(c:d3)(vars:Fp)(x:AH):Prop where
 hf:Aw t
 hv:(A8 t).2=0
 few:r.ec.ej.length<=1000
 fewv:vars.length<=1000
 slot:∀s∈r.ec.ej,(0<=s.r0/\s.r0<c.ca.length)/\(-1<=s.hV.Var/\s.hV.Var<vars.length)/\
  (0<=AA c.ca s.r0/\AA c.ca s.r0<x.c9.ca.length)/\(0<=s.kl/\s.kl<(BB t (AA x.c9.ca (AA c.ca s.r0))).length)
 kind:∀n∈x.c9.ca,0<=n/\n<t.ca.length
 vlen:x.eo.length=x.c9.ca.length
 rows:∀i:Int,0<=i->i<x.c9.ca.length->(AA x.eo i).length=(BB t (AA x.c9.ca i)).length
variable{L:BT}{i:Int}
theorem cp(b:0<=i)(e:i<=L.length)(h:∀j,0<=j->j<i->kx (fun k=>decide ((AA L k).1=(AA L j).1)&&!decide ((AA L k).2=(AA L j).2)) 0 j=false):Qz (L.take i.toNat):=by grind[XJ,O1,By,bq,Vg,PH]
def U4(L:BT)(i:Int):Bool:=kx (fun k=>decide ((AA L k).1=(AA L i).1)&&!decide ((AA L k).2=(AA L i).2)) 0 i
theorem iD(F:0<=i)(G:i<L.length)(s:Qz (L.take i.toNat)):
  (((Oq (L.take i.toNat)).look (AA L i).1).isSome&&(!decide (((Oq (L.take i.toNat)).look (AA L i).1).getD 0=(AA L i).2)))=U4 L i:=by
 obtain ⟨H,w,I⟩:=bf _ s;unfold U4;cases u:(Oq (L.take i.toNat)).look (AA L i).1 with
 |none=>
  rw [Option.isSome_none,Bool.false_and];refine Eq.symm (By.2 fun k o q=>?_);have f:AA L k∈L.take i.toNat:=by
   rw [<-PH (n:=i.toNat) (by omega)]
   grind [AJ,bq]
  rw [decide_eq_false (Xm u _ ((w _).2 f)),Bool.false_and]
 |some v=>
  have f:=(w _).1 (Sg u);rw[Option.isSome_some,Bool.true_and,Option.getD_some];have b:∀k,0<=k->k<i->(AA L k).1=(AA L i).1->(AA L k).2=v:=fun k o q e=>by
   have z:AA L k∈L.take i.toNat:=by
    rw [<-PH (n:=i.toNat) (by omega)]
    grind [AJ,bq]
   exact s _ z _ f e
  obtain ⟨k,o,q,y⟩:=Be f;rw[bq]at q;rw[PH (by omega)]at y;rw[Bool.eq_iff_iff,D9];constructor
  .intro h;refine⟨k,o,by omega,?_⟩;rw[y,decide_eq_true rfl,Bool.true_and];exact h
  .rintro⟨j,D,E,h⟩;rw[pr,wq]at h;rw[<-b j D E h.1];exact h.2
theorem Nv(r:gp)(c:d3)(vars:Fp)(b:0<=i)(e:i<r.ec.ej.length):AA (B8 r c vars) i=PA c vars (AA r.ec.ej i):=OO b e
theorem JM(r:gp)(c:d3)(vars:Fp):(B8 r c vars).length=r.ec.ej.length:=c7 ..
theorem Y2(L:BT){ρ:Type}(v:ρ):fst (fun i=>if U4 L i=true then some v else none) 0 L.length=if O1 L=true then some v else none:=MI
variable{t:AC}{R:gp}{M:AU}{B A:AH}{T C:d3}
theorem dW(h:UA t R C M.fd A):Hp (BS.mk R M B A T C)=some (if O1 (B8 R C M.fd)=true then([],11)else(Oq (B8 R C M.fd),0)):=by
 unfold Hp;simp only[];rw[Ks (a:=0) (s:=([]:BT)) (fun i=>Oq ((B8 R C M.fd).take i.toNat)) (fun i=>if U4 (B8 R C M.fd) i=true then some ([],11)else none) (by omega) rfl]
 .have:=Y2 (B8 R C M.fd) (([],11):BT×Int);rw[JM]at this;rw[this];by_cases e:O1 (B8 R C M.fd)=true
  .rw[a6 e,a6 e];rfl
  .rw[ae e,ae e,<-JM R C M.fd,Int.toNat_natCast,List.take_length];rfl
 .intro i b f y;have o:=h.slot _ (AJ b f);have z:Qz ((B8 R C M.fd).take i.toNat):=cp b (by rw[JM];omega) fun j u w=>by
   have:=y j u w;split at this
   .cases this
   .rename_i e;exact Bool.eq_false_iff.2 e
  have q:=iD (L:=B8 R C M.fd) b (by rw[JM];exact f) z;rw[AD b f,bs,Zj o.2.1.1 o.2.1.2 h.fewv,bs,ae (by simp),AD o.1.1 o.1.2,bs];rw[Nv R C M.fd b f]at q;simp[PA]at q;simp only[];by_cases e:U4 (B8 R C M.fd) i=true
  .refine(a6 (q.trans e)).trans ?_;rw[a6 e];rfl
  .refine(ae (fun h=>e (q.symm.trans h))).trans ?_;rw[ae e,DF b (by rw[JM];exact f),Za,Nv R C M.fd b f];rfl
variable{α:Type}
theorem bh{f:α->K1}{g:α->Bool}:∀{l:List α},(∀p∈l,f p=some (g p))->xm f l=some (l.all g)
 |[],_=>rfl|p::r,h=>by
  unfold xm;rw[h p List.mem_cons_self,bs,bh fun q b=>h q (List.mem_cons_of_mem _ b),bs,List.all_cons]
variable{r:gp}{c:d3}{x:AH}{V:List Fp}
theorem Z6{vars:Fp}(h:UA t r c vars x){s:Cx}(q:s∈r.ec.ej)(u:Km V x.eo):
  idx V (AA c.ca s.r0)=some (AA V (AA c.ca s.r0))/\idx (AA V (AA c.ca s.r0)) s.kl=some (AA (AA V (AA c.ca s.r0)) s.kl):=by
 have f:=h.slot s q;have hv:=h.vlen;have D:=h.rows _ f.2.2.1.1 f.2.2.1.2;have w:idx x.eo (AA c.ca s.r0)=some (AA x.eo (AA c.ca s.r0)):=AD f.2.2.1.1 (by omega);have y:idx (AA x.eo (AA c.ca s.r0)) s.kl=some (AA (AA x.eo (AA c.ca s.r0)) s.kl):=AD f.2.2.2.1 (by omega);obtain⟨z,x',a,b⟩:=u.idx w y;have j:=FZ a;have o:=FZ b;have E:=(List.getElem?_eq_some_iff.1 j.2.2).1;have e:AA V (AA c.ca s.r0)=z:=by
  grind [AD,Option.some.inj]
 have F:=(List.getElem?_eq_some_iff.1 o.2.2).1;refine⟨AD j.1 (by omega),?_⟩;rw[e];exact AD o.1 (by omega)
theorem iI(h:UA t R C M.fd A){p:(Int×Int)×Int}(j:p∈B8 R C M.fd):N2 t (BS.mk R M B A T C) p=some (!Nb t A p):=by
 obtain ⟨s,f,rfl⟩:=List.mem_map.1 j;have b:=h.slot s f;have e:=h.kind _ (AJ b.2.2.1.1 b.2.2.1.2);obtain⟨o,q⟩:=Z6 h f (V:=A.eo) rfl;unfold N2 N1 PA Nb;simp;rw[AD b.2.2.1.1 b.2.2.1.2,bs,Qk h.hf,I1 h.hv e.1 e.2,bs];simp;simp[AD b.2.2.2.1 b.2.2.2.2,o,q,UL]
 grind
def IJ(t:AC)(x:AH)(L:BT):AH×Int:=
 if O1 L=true then(⟨⟨[],[]⟩,[]⟩,11)else if L.any (Nb t x)=true then(⟨⟨[],[]⟩,[]⟩,6)else(⟨x.c9,L.foldl Ca x.eo⟩,0)
theorem pC(h:UA t R C M.fd A):Ki t (BS.mk R M B A T C)=some ((IJ t A (B8 R C M.fd)).2,if(IJ t A (B8 R C M.fd)).2=0 then BS.mk R M B (IJ t A (B8 R C M.fd)).1 T C else BS.mk R M B A T C):=by
 unfold Ki IJ;rw[dW h,bs];by_cases e:O1 (B8 R C M.fd)=true
 .grind
 .rw[ae e,ae (by simp),ae e];obtain⟨j,o,q⟩:=bf _ (XJ (Bool.eq_false_iff.2 e));have f:xm (N2 t (BS.mk R M B A T C)) (Oq (B8 R C M.fd))=some (!(B8 R C M.fd).any (Nb t A)):=by
   rw [bh (g:=fun p=>!Nb t A p) fun p b=>iI h ((o p).1 b)]
   grind
  rw [a6 (by simpa using(show List.Pairwise (fun x y:(Int×Int)×Int=>x.1≠y.1) _ from j)),f,bs]
  grind [B8,Nb,NJ]
theorem tM{vars:Fp}(h:UA t r c vars x):MS t r x c vars=some (IJ t x (B8 r c vars)):=by
 unfold MS IJ;rw[Ks (a:=0) (s:=AH.mk (c9.mk [] []) []) (fun _=>AH.mk (c9.mk [] []) []) (fun i=>if U4 (B8 r c vars) i=true then some (AH.mk (c9.mk [] []) [],(11:Int))else none) (by omega) rfl]
 .have:=Y2 (B8 r c vars) ((AH.mk (c9.mk [] []) [],(11:Int)));rw[JM]at this;rw[this];by_cases e:O1 (B8 r c vars)=true
  .rw[a6 e,a6 e];rfl
  rw [ae e,ae e];show ek (some (Sum.inl _)) _ _=_;rw[CX,Ks (a:=0) (s:=(x,AH.mk (c9.mk [] []) [])) (fun i=>(AH.mk x.c9 (((B8 r c vars).take i.toNat).foldl Ca x.eo),AH.mk (c9.mk [] []) [])) (fun i=>if Nb t x (AA (B8 r c vars) i)=true then some (AH.mk (c9.mk [] []) [],(6:Int))else none) (by omega) rfl]
  .have:=bV (l:=B8 r c vars) (q:=Nb t x) (v:=(AH.mk (c9.mk [] []) [],(6:Int)));rw[JM]at this;rw[this];by_cases f:(B8 r c vars).any (Nb t x)=true
   .rw[a6 f,a6 f];rfl
   .rw[ae f,ae f];show some (AH.mk x.c9 (((B8 r c vars).take (r.ec.ej.length:Int).toNat).foldl Ca x.eo),(0:Int))=_
    grind [JM,Int.toNat_natCast,List.take_length]
  .intro i j o _;have z:=AJ j o;have b:=h.slot _ z;have u:=h.kind _ (AJ b.2.2.1.1 b.2.2.1.2);obtain⟨E,F⟩:=Z6 h z (V:=((B8 r c vars).take i.toNat).foldl Ca x.eo) (ZL _ _);simp only[AD j o,bs];rw[Nr b.2.1.1 b.2.1.2,bs,AD b.1.1 b.1.2,bs,AD b.2.2.1.1 b.2.2.1.2,bs,Ql h.hf,I1 h.hv u.1 u.2,bs];simp only[];rw[AD b.2.2.2.1 b.2.2.2.2,bs,bs,UL,bs,E,bs,F,bs];rw[Nv r c vars j o,DF j (by rw[JM];exact o),List.foldl_append,Nv r c vars j o];show(if(Nb t x (PA c vars (AA r.ec.ej i)))=true then _ else _)=_;by_cases f:Nb t x (PA c vars (AA r.ec.ej i))=true
   .rw[a6 f,a6 f];rfl
   .rw[ae f,ae f];have:=ZE (p:=PA c vars (AA r.ec.ej i)) E F;exact congrArg (fun W=>some (Bx.next (σ:=AH×AH) (ρ:=AH×Int) (AH.mk x.c9 W,AH.mk (c9.mk [] []) []))) this
 .intro i j o _;have b:=h.slot _ (AJ j o);rw[AD j o,bs,Nr b.2.1.1 b.2.1.2,bs];rw[Ks (a:=0) (s:=AH.mk (c9.mk [] []) []) (fun _=>AH.mk (c9.mk [] []) []) (fun k=>if(decide ((AA (B8 r c vars) k).1=(AA (B8 r c vars) i).1)&&!decide ((AA (B8 r c vars) k).2=(AA (B8 r c vars) i).2))=true then some (AH.mk (c9.mk [] []) [],(11:Int))else none) j rfl]
  .rw[MI];unfold U4;split<;>rfl
  .intro k w H _;have u:=h.slot _ (AJ w (show k<r.ec.ej.length by omega));simp[AD j o,AD w (show k<r.ec.ej.length by omega)];rw[Nr u.2.1.1 u.2.1.2,bs,AD u.1.1 u.1.2,bs,AD b.1.1 b.1.2,bs,Nv r c vars j o,Nv r c vars w (by omega)];simp[PA];by_cases D:AA c.ca (AA r.ec.ej k).r0=AA c.ca (AA r.ec.ej i).r0<;>by_cases f:(AA r.ec.ej k).kl=(AA r.ec.ej i).kl<;>by_cases y:C2 (AA r.ec.ej i).hV vars=C2 (AA r.ec.ej k).hV vars
   all_goals first|(have G:¬C2 (AA r.ec.ej k).hV vars=C2 (AA r.ec.ej i).hV vars:=fun h=>y h.symm;simp[D,f,y,G,gI];done)|(simp[D,f,y,gI];done)
end Go.Sf.Sc
namespace Go.Sf.Sc
open Go Go.Sf
variable{t:AC}{r:gp}
theorem Rg(h:Gp t r=0):Hh t r.gt=0/\Je t r=0/\Lr t r.gt r.d5=0:=by grind[Gp]
theorem ar(h:Je t r=0):r.ec.fd=r.gt.fd/\r.ec.ej.length<=10/\∀i:Int,0<=i->i<r.ec.ej.length->OK t r.ec i=0:=by
 unfold Je at h;split at h
 .omega
 split at h
 .cases h
 split at h
 .cases h
 split at h
 .cases h
 rename_i b e f j;exact⟨by omega,by omega,SY h⟩
variable{i:Int}
theorem dw{p:d6}(h:OK t p i=0):(0<=(AA p.ej i).r0/\(AA p.ej i).r0<p.c9.ca.length)/\
  (0<=(AA p.ej i).kl/\(AA p.ej i).kl<(F6 t (AA p.c9.ca (AA p.ej i).r0)).1.length)/\-1<=(AA p.ej i).hV.Var/\(AA p.ej i).hV.Var<p.fd:=by
 unfold OK at h;dsimp only at h;split at h
 .cases h
 split at h
 .cases h
 rename_i e b;simp[wq]at b;omega
structure IV(t:AC)(r:gp)(h:AH)(m:AU):Prop where
 hf:Aw t
 fr:G5 r
 re:Gp t r=0
 he:(He t h).2=0
 at_:VY t r.gt h m
 co:Yi (RL r.gt.c9 h.c9 m.d3) h.c9 r.sr m.d3
abbrev dS(r:gp)(h:AH)(m:AU):Bh:=Ly h.c9 r.sr m.d3
abbrev cS(r:gp)(h:AH)(m:AU):d3:=vJ r h m.d3 (dS r h m)
variable{h:AH}{m:AU}
theorem IV.hv(s:IV t r h m):(A8 t).2=0:=(Qp s.re).1
theorem IV.ro(s:IV t r h m):eW t r:=(Qp s.re).2
theorem IV.hh(s:IV t r h m):JY t h:=(UE s.hf s.he).2
theorem V1(hf:Aw t)(hv:(A8 t).2=0)(hh:JY t h):MZ h:=by
 have f:=hh.g.d7;have j:=hh.g.ei;have o:=hh.len;refine⟨by omega,by omega,by omega,fun v b=>?_⟩;obtain⟨i,e,u,rfl⟩:=Be b;have q:=hh.row i e (by omega);have s:=Gh hf (Int.le_refl _) (Cs hv).par (hh.kind i e (by omega)).2;omega
theorem IV.rem(s:IV t r h m):YR h (dS r h m):=by
 have hh:=s.hh;have f:=hh.g.d7;have j:=hh.g.ei;have l1:=QL (EZ m.d3.ca r.sr.ca) h.c9.ca.length;have l2:=QL (EZ m.d3.ci r.sr.ci) h.c9.ci.length;exact⟨V1 s.hf s.hv hh,hh.len,⟨fun x b=>Gx b,by show(BG _ _).length<=1000;omega⟩,⟨fun x b=>Gx b,by show(BG _ _).length<=1000;omega⟩,fun e he=>(hh.g.fit e he).2⟩
theorem IV.part(s:IV t r h m):Ea h.c9 (dS r h m)=0:=by
 unfold Ea;rw[ae (by simp[s.hh.ge])];exact fz s.co
variable{count n:Nat}
theorem eh{ff into images:Fp}{BC:Fp}(few:count<=1000)(nodup:into.Nodup)(len:into.length=ff.length)(inn:∀x∈into,0<=x/\x<count)
  (kin:∀x∈ff,0<=x/\x<images.length)(f:∀x∈images,0<=x/\x<n)(hi:w4 images ff=false)(j:BC=EZ images ff):
  T7 count ff into (images.map (AA (HV n (BG BC n))))/\(∀x∈ff,AA (images.map (AA (HV n (BG BC n)))) x<(BG BC n).length)/\
  ∀x∈ff,AA (images.map (AA (HV n (BG BC n)))) x=DC (BG BC n) (AA images x)/\AA images x∈BG BC n:=by
 have e:∀x∈ff,AA (images.map (AA (HV n (BG BC n)))) x=DC (BG BC n) (AA images x)/\AA images x∈BG BC n:=fun x b=>by
  grind [AJ,OO,VU,O7,Se]
 refine ⟨⟨few,nodup,len,inn,fun x b=>by rw[c7];exact kin x b,fun x b=>?_⟩,fun x b=>?_,e⟩
 .rw[(e x b).1];exact Mr.2 (e x b).2
 .rw[(e x b).1];exact(PJ _ _).2
theorem IV.left(s:IV t r h m):m.d3.ca.length=r.gt.c9.ca.length/\m.d3.ci.length=r.gt.c9.ci.length:=⟨s.at_.m.w9,s.at_.m.xr⟩
theorem IV.zl(s:IV t r h m):T7 r.ec.c9.ca.length r.sr.ca r.pc.ca (m.d3.ca.map (AA (Ha h (dS r h m)).ca))/\
  (∀x∈r.sr.ca,AA (m.d3.ca.map (AA (Ha h (dS r h m)).ca)) x<(dS r h m).ca.length)/\
  ∀x∈r.sr.ca,AA (m.d3.ca.map (AA (Ha h (dS r h m)).ca)) x=DC (dS r h m).ca (AA m.d3.ca x)/\AA m.d3.ca x∈(dS r h m).ca:=by
 have ro:=s.ro;have j:=ro.right.d7;refine eh (by omega) ro.inj.1 ?_ (fun x b=>?_) (fun x b=>?_) (fun x b=>?_) s.co.d7 rfl
 .have:=ro.mor.w9;rw[this];exact c7 ..
 .obtain⟨i,e,f,rfl⟩:=Be b;exact(ro.mor.node i e f).1
 .have:=ro.part.d7.1 x b;have:=s.left.1;omega
 .obtain⟨i,e,f,rfl⟩:=Be b;exact(s.at_.m.node i e f).1
theorem IV.zQ(s:IV t r h m):T7 r.ec.c9.ci.length r.sr.ci r.pc.ci (m.d3.ci.map (AA (Ha h (dS r h m)).ci))/\
  (∀x∈r.sr.ci,AA (m.d3.ci.map (AA (Ha h (dS r h m)).ci)) x<(dS r h m).ci.length)/\
  ∀x∈r.sr.ci,AA (m.d3.ci.map (AA (Ha h (dS r h m)).ci)) x=DC (dS r h m).ci (AA m.d3.ci x)/\AA m.d3.ci x∈(dS r h m).ci:=by
 have ro:=s.ro;have j:=ro.right.ei;refine eh (by omega) ro.inj.2 ?_ (fun x b=>?_) (fun x b=>?_) (fun x b=>?_) s.co.ei rfl
 .have:=ro.mor.xr;rw[this];exact c7 ..
 .obtain⟨i,e,f,rfl⟩:=Be b;exact(ro.mor.edge i e f).1
 .have:=ro.part.ei.1 x b;have:=s.left.2;omega
 .obtain⟨i,e,f,rfl⟩:=Be b;exact s.at_.m.edge i e f
theorem bJ{ff into at_:Fp}(h:T7 count ff into at_)(b:∀x∈ff,AA at_ x<n)(f:0<=i)(j:i<count):AA (SQ count ff into at_ n) i=n+(BG into i).length↔i∉into:=by
 rw [eg f j];constructor
 .intro e hi;rw[Qd hi]at e;have o:=Il hi;have:=b _ (AJ (l:=ff) o.1 (by have:=h.len;omega));omega
 .exact RA
theorem IV.grow(s:IV t r h m):Vb t r (cS r h m):=
 ⟨s.hf,s.hv,s.ro.right,(Hb s.ro.right s.ro.yE).1,Wm _ _ _ _ _⟩
theorem Uq(l:Fp)(b:0<=i):∀(k:Nat),∃s,BG l (i+k)=BG l i++s
 |0=>⟨[],by simp⟩|k+1=>by
  obtain ⟨s,e⟩:=Uq l b k
  grind [NB,c8]
variable{l:Fp}
theorem jV{i n:Int}(b:0<=i)(f:i<n)(h:i∉l):AA (BG l n) (BG l i).length=i/\((BG l i).length:Int)<(BG l n).length:=by
 obtain ⟨s,e⟩:=Uq l (i:=i+1) (by omega) (n-(i+1)).toNat
 rw [show i+1+((n-(i+1)).toNat:Int)=n by omega,NB l b]at e
 grind [hasB,CH,AA]
variable{α:Type}
theorem oG[Inhabited α]{l m:List α}(b:0<=i)(e:i<l.length):AA (l++m) i=AA l i:=by grind[Pv]
theorem oH[Inhabited α]{l m:List α}:AA (l++m) (l.length+n:Int)=AA m n:=by grind[Pv,AA,Int.toNat_natCast]
variable{a:Int}
theorem iR(h:0<=a):xe t a a=true:=by
 unfold xe;rw[show(a+1).toNat=a.toNat+1 by omega,Ou,ae (by omega)];simp
theorem IV.kindAt(s:IV t r h m)(o:0<=i)(q:i<r.ec.c9.ca.length):
  (0<=AA (cS r h m).ca i/\AA (cS r h m).ca i<(Cb t r (B1 h (dS r h m)) (cS r h m)).c9.ca.length)/\
  AA (Cb t r (B1 h (dS r h m)) (cS r h m)).c9.ca (AA (cS r h m).ca i)<t.ca.length/\xe t (AA (Cb t r (B1 h (dS r h m)) (cS r h m)).c9.ca (AA (cS r h m).ca i)) (AA r.ec.c9.ca i)=true:=by
 obtain ⟨E,J,c3⟩:=s.zl;have F:AA (cS r h m).ca i=Pb r.sr.ca r.pc.ca (m.d3.ca.map (AA (Ha h (dS r h m)).ca)) (dS r h m).ca.length i:=eg o q;have el:(Cb t r (B1 h (dS r h m)) (cS r h m)).c9.ca=(dS r h m).ca.map (AA h.c9.ca)++(II r).map (AA r.ec.c9.ca):=rfl;rw[F,el,bk,c7,c7];by_cases hi:i∈r.pc.ca
 .have b:=Il hi;have K:=E.len;have f:=AJ (l:=r.sr.ca) b.1 (by omega);have y:=c3 _ f;have z:=J _ f;have u:=E.pos _ f;rw[Qd hi];refine⟨⟨u,by push_cast;omega⟩,?_⟩;rw[oG u (by rw[c7];exact z),OO u z,y.1,(Il y.2).2.2.1];have j:=s.ro.part.d7.1 _ f;have G:=s.left.1;have w:=s.at_.m.node _ j.1 (by omega);have H:=s.hh.kind _ w.1.1 w.1.2;have D:=s.ro.mor.node _ b.1 b.2.1;rw[b.2.2.1]at D;have I:AA (M0 r.gt.c9 r.sr).ca (DC r.pc.ca i)=AA r.gt.c9.ca (AA r.sr.ca (DC r.pc.ca i)):=OO b.1 (by omega);rw[D.2,I];exact⟨H.2,w.2⟩
 .have j:=jV o q hi;rw[RA hi];have e:((dS r h m).ca.map (AA h.c9.ca)).length=(dS r h m).ca.length:=c7 ..;refine⟨⟨by omega,?_⟩,?_⟩
  .have:((II r).length:Int)=(BG r.pc.ca r.ec.c9.ca.length).length:=rfl
   push_cast
   omega
  .rw[<-e,oH,show II r=BG r.pc.ca r.ec.c9.ca.length from rfl,OO (by omega) j.2];show AA r.ec.c9.ca (AA (BG r.pc.ca r.ec.c9.ca.length) (BG r.pc.ca i).length)<(t.ca.length:Int)/\xe t (AA r.ec.c9.ca (AA (BG r.pc.ca r.ec.c9.ca.length) (BG r.pc.ca i).length)) _=true;rw[j.1];have:=(Hb s.ro.right s.ro.yE).1 _ (AJ o q);exact⟨this.2,iR this.1⟩
theorem IV.rows(s:IV t r h m):(Cb t r (B1 h (dS r h m)) (cS r h m)).eo.map (fun v=>v.length)=(Cb t r (B1 h (dS r h m)) (cS r h m)).c9.ca.map fun n=>(BB t n).length:=by
 show (List.map _ (_++_))=List.map _ (_++_);rw[List.map_append,List.map_append];congr 1
 .show((dS r h m).ca.map (AA h.eo)).map _=((dS r h m).ca.map (AA h.c9.ca)).map _;rw[List.map_map,List.map_map];refine List.map_congr_left fun x b=>?_;have b:=s.rem.d7.1 x b;exact s.hh.row x b.1 b.2
 grind [List.map_map,List.map_congr_left,dI,c7]
theorem IV.put(s:IV t r h m):UA t r (cS r h m) m.fd (Cb t r (B1 h (dS r h m)) (cS r h m)):=by
 obtain ⟨O,G,P⟩:=Rg s.re;obtain⟨hv,Q,y⟩:=ar G;have J:=s.at_.q.vars;have z:=s.at_.len;have u:=s.rows;have w:(Cb t r (B1 h (dS r h m)) (cS r h m)).eo.length=(Cb t r (B1 h (dS r h m)) (cS r h m)).c9.ca.length:=by
  grind [List.length,c7]
 refine ⟨s.hf,s.hv,by omega,by omega,fun x b=>?_,fun n e=>?_,w,fun i f o=>?_⟩
 .obtain⟨i,f,o,rfl⟩:=Be b;obtain⟨j,H,S⟩:=dw (y i f o);have D:=(Hb s.ro.right s.ro.yE).1 _ (AJ j.1 j.2);rw[I1 s.hv D.1 D.2]at H;obtain⟨U,I,E⟩:=s.kindAt j.1 j.2;replace E:=Xk (Cs s.hv) I E;have F:(cS r h m).ca.length=r.ec.c9.ca.length:=Wm _ _ _ _ _
  grind
 .have e:n∈(dS r h m).ca.map (AA h.c9.ca)++(II r).map (AA r.ec.c9.ca):=e;rcases List.mem_append.1 e with e|e
  .obtain⟨x,b,rfl⟩:=List.mem_map.1 e;have b:=s.rem.d7.1 x b;exact s.hh.kind x b.1 b.2
  .obtain⟨x,b,rfl⟩:=List.mem_map.1 e;have b:=Gx b;exact(Hb s.ro.right s.ro.yE).1 _ (AJ b.1 b.2)
 .have K:=OO (l:=(Cb t r (B1 h (dS r h m)) (cS r h m)).eo) (g:=fun v=>v.length) f (by omega);have N:=OO (l:=(Cb t r (B1 h (dS r h m)) (cS r h m)).c9.ca) (g:=fun n=>(BB t n).length) f o
  grind
end Go.Sf.Sc
namespace Go.Sf.Sc
open Go Go.Sf
abbrev uN:gp:=gp.mk (⟨#[]⟩:ByteArray) (d6.mk (c9.mk [] []) [] 0 []) (d6.mk (c9.mk [] []) [] 0 []) (Bh.mk [] []) (d3.mk [] []) false (d5.mk 0 [] (d3.mk [] []) (d6.mk (c9.mk [] []) [] 0 []))
abbrev zG:BS:=BS.mk uN (AU.mk (d3.mk [] []) []) (AH.mk (c9.mk [] []) []) (AH.mk (c9.mk [] []) []) (d3.mk [] []) (d3.mk [] [])
def YU(t:AC)(r:gp)(h:AH)(m:AU):BS×Int:=
 if (IJ t (Cb t r (B1 h (dS r h m)) (cS r h m)) (B8 r (cS r h m) m.fd)).2≠0 then(zG,(IJ t (Cb t r (B1 h (dS r h m)) (cS r h m)) (B8 r (cS r h m) m.fd)).2)else
 if 40<(IJ t (Cb t r (B1 h (dS r h m)) (cS r h m)) (B8 r (cS r h m) m.fd)).1.c9.ca.length\/80<(IJ t (Cb t r (B1 h (dS r h m)) (cS r h m)) (B8 r (cS r h m) m.fd)).1.c9.ci.length then(zG,3)else
 (BS.mk r m h (IJ t (Cb t r (B1 h (dS r h m)) (cS r h m)) (B8 r (cS r h m) m.fd)).1 (Ha h (dS r h m)) (cS r h m),0)
noncomputable def HC(t:AC)(r:gp)(h:AH)(m:AU):BS×Int:=
 if Gp t r≠0 then(zG,Gp t r)else if(He t h).2≠0 then(zG,(He t h).2)else
 if GV t r.gt.c9 h.c9 m.d3 r.l3≠0 then(zG,1)else
 if (FV t r.gt h m.d3).2≠0 then(zG,(FV t r.gt h m.d3).2)else if¬(FV t r.gt h m.d3).1=m.fd then(zG,11)else
 if (Mh (RL r.gt.c9 h.c9 m.d3) h.c9 r.sr m.d3).2≠0 then(zG,(Mh (RL r.gt.c9 h.c9 m.d3) h.c9 r.sr m.d3).2)else
 if (MA t r.gt r.d5 h m r.l3).2≠0 then(zG,(MA t r.gt r.d5 h m r.l3).2)else
 if (MA t r.gt r.d5 h m r.l3).1=false then(zG,16)else YU t r h m
variable{t:AC}{r:gp}{h:AH}{m:AU}
theorem Wl(b:Gp t r=0)(e:(He t h).2=0)(f:GV t r.gt.c9 h.c9 m.d3 r.l3=0)(j:(FV t r.gt h m.d3).2=0)(o:(FV t r.gt h m.d3).1=m.fd):SN t r.gt r.d5 h m r.l3=0:=by
 unfold SN;rw[ae (by simp[(Rg b).2.2]),ae (by simp[e]),ae (by simp[f]),ae (by simp[j]),a6 o]
theorem bZ{X:Option (BS×Int)}(hX:(IJ t (Cb t r (B1 h (dS r h m)) (cS r h m)) (B8 r (cS r h m) m.fd)).2=0->X=
   if ((decide (40<((IJ t (Cb t r (B1 h (dS r h m)) (cS r h m)) (B8 r (cS r h m) m.fd)).1.c9.ca.length:Int)))||(decide (80<((IJ t (Cb t r (B1 h (dS r h m)) (cS r h m)) (B8 r (cS r h m) m.fd)).1.c9.ci.length:Int))))=true then some (zG,3)else
   some (BS.mk r m h (IJ t (Cb t r (B1 h (dS r h m)) (cS r h m)) (B8 r (cS r h m) m.fd)).1 (Ha h (dS r h m)) (cS r h m),0)):
  (if(!decide ((IJ t (Cb t r (B1 h (dS r h m)) (cS r h m)) (B8 r (cS r h m) m.fd)).2=0))=true then some (zG,(IJ t (Cb t r (B1 h (dS r h m)) (cS r h m)) (B8 r (cS r h m) m.fd)).2)else X)=some (YU t r h m):=by
 unfold YU;refine D1 fun b=>?_;rw[hX b];refine OP (by simp;omega) fun _=>rfl
theorem pO(hf:Aw t)(fr:G5 r)(E:FY r.d5<=40)(h:AH)(m:AU):JN t r h m=some (HC t r h m):=by
 unfold JN K9 HC;rw[Np hf,bs];by_cases hv:¬(A8 t).2=0
 .grind[Gp,A8]
 have hv:=Classical.not_not.1 hv;rw[ae (by simp[hv]),fX hf fr,bs,WI hf,bs];by_cases f:¬Gp t r=0
 .grind
 have f:=Classical.not_not.1 f;rw[ae (by simp[f]),bs,ae (show¬Gp t r≠0 by simp[f])];refine D1 fun F=>?_;rw[Option.bind_fun_some];unfold K8 Iz;rw[Wy hf,bs];by_cases j:¬GV t r.gt.c9 h.c9 m.d3 r.l3=0
 .grind
 have j:=Classical.not_not.1 j;rw[ae (by simp[j]),bj hf,bs,ae (show¬GV t r.gt.c9 h.c9 m.d3 r.l3≠0 by simp[j])];by_cases u:¬(FV t r.gt h m.d3).2=0
 .grind
 have u:=Classical.not_not.1 u;rw[ae (by simp[u]),lG,bs,ae (show¬(FV t r.gt h m.d3).2≠0 by simp[u])];by_cases w:¬(FV t r.gt h m.d3).1=m.fd
 .grind
 have w:=Classical.not_not.1 w;rw[ae (by simp[w]),bs,ae (by simp),ae (show¬¬(FV t r.gt h m.d3).1=m.fd by simp[w])];rw[pH hf j,bs,ae (by simp),o9 fr.ff,bs];refine D1 fun G=>?_;obtain⟨_,_,_,y⟩:=Vn hf E (Wl f F j u w);obtain⟨co,P⟩:=Wn G;rw[aj hf _ fr.cond E,bs,P];refine D1 fun Q=>?_;refine SO fun S=>?_;have s:IV t r h m:=⟨hf,fr,f,F,y,co⟩;have o:=s.rem;have U:=s.hh.g.d7;have W:=s.hh.g.ei;have l1:=s.left.1;have l2:=s.left.2;have X:=s.ro.left.d7;have Y:=s.ro.left.ei;have I:=y.len;have J:=y.q.vars;have D:Iy m=some m:=by
  unfold Iy slices_Clone_int;rw[Bs (by unfold Aj;omega),bs,Bs (by unfold Aj;omega),bs,Bs (by unfold Aj;omega),bs]
 simp only[];rw[D,bs,dX o.sm,bs];rw[bu (by omega) o.d7.2 (MT _ _),bs,bu (by omega) o.ei.2 (MT _ _),bs];have K:GF r.ec.c9.ca.length r.sr.ca r.pc.ca m.d3.ca (HV h.c9.ca.length (dS r h m).ca) (Ly h.c9 r.sr m.d3).ca.length=some (cS r h m).ca:=
  Xo s.zl.1 (fun x z=>by rw[I4];obtain⟨i,b,e,rfl⟩:=Be z;exact(y.m.node i b e).1) (by omega) (Int.ofNat_le.2 o.d7.2)
 have N:GF r.ec.c9.ci.length r.sr.ci r.pc.ci m.d3.ci (HV h.c9.ci.length (dS r h m).ci) (Ly h.c9 r.sr m.d3).ci.length=some (cS r h m).ci:=
  Xo s.zQ.1 (fun x z=>by rw[I4];obtain⟨i,b,e,rfl⟩:=Be z;exact y.m.edge i b e) (by omega) (Int.ofNat_le.2 o.ei.2)
 rw [K,bs,N,bs];have O:=mQ (M:=m) s.grow o (Wm _ _ _ _ _) (fun i b e=>bJ s.zl.1 s.zl.2.1 b e) (fun i b e=>bJ s.zQ.1 s.zQ.2.1 b e);change ((IE t (BS.mk r m h (AH.mk (c9.mk [] []) []) (Ha h (dS r h m)) (cS r h m)) (dS r h m)).bind _)=_;rw[O,bs,pC s.put,bs];exact bZ fun H=>by rw[a6 H]
variable{inj:Bool}
theorem fk(hf:Aw t){p:d6}{c:d5}(b:FY c<=40)(e:SN t p c h m inj=0):La t c h m inj=some (MA t p c h m inj):=by
 obtain ⟨hv,hh,f,j⟩:=Vn hf b e
 grind [La,MA,wS,Cp,nL,fM,iy]
theorem p0(hf:Aw t)(fr:G5 r)(G:FY r.d5<=40)(h:AH)(m:AU):Lh t r h m=some (HC t r h m):=by
 unfold Lh OD HC;rw[fu hf fr,bs,WS hf,bs];by_cases b:¬Gp t r=0
 .rw[a6 (by simp[b]),bs,a6 (by simp[b]),a6 b]
 have b:=Classical.not_not.1 b;rw[ae (by simp[b]),bs,ae (show¬Gp t r≠0 by simp[b])];refine D1 fun y=>?_;unfold K4;rw[W6 hf,bs];by_cases e:¬GV t r.gt.c9 h.c9 m.d3 r.l3=0
 .rw[a6 (by simp[e]),bs,a6 (by simp),a6 e]
 have e:=Classical.not_not.1 e;rw[ae (by simp[e]),md hf,bs,ae (show¬GV t r.gt.c9 h.c9 m.d3 r.l3≠0 by simp[e])];by_cases f:¬(FV t r.gt h m.d3).2=0
 .rw[a6 (by simp[f]),bs,a6 (by simp[f]),a6 f]
 have f:=Classical.not_not.1 f;rw[ae (by simp[f]),mb,bs,ae (show¬(FV t r.gt h m.d3).2≠0 by simp[f])];by_cases q:¬(FV t r.gt h m.d3).1=m.fd
 .rw[a6 (by simp[q]),bs,a6 (by simp),a6 q]
 have q:=Classical.not_not.1 q;rw[ae (by simp[q]),ae (show¬¬(FV t r.gt h m.d3).1=m.fd by simp[q])];rw[pk hf e,bs,ae (by simp),pW fr.ff,bs];by_cases j:¬(Mh (RL r.gt.c9 h.c9 m.d3) h.c9 r.sr m.d3).2=0
 .rw[a6 (by simp[j]),bs,a6 (by simp[j]),a6 j]
 have j:=Classical.not_not.1 j;rw[ae (by simp[j]),ae (show¬(Mh (RL r.gt.c9 h.c9 m.d3) h.c9 r.sr m.d3).2≠0 by simp[j])];have w:=Wl b y e f q;obtain⟨_,_,_,D⟩:=Vn hf G w;obtain⟨co,J⟩:=Wn j;rw[fk hf G w,bs,J,Hf,bs,bs];by_cases o:¬(MA t r.gt r.d5 h m r.l3).2=0
 .rw[ae (show¬((decide ((MA t r.gt r.d5 h m r.l3).2=0)&&!(MA t r.gt r.d5 h m r.l3).1)=true)by simp[o]),a6 (by simp[o]),a6 o]
 have o:=Classical.not_not.1 o;rw[ae (show¬(MA t r.gt r.d5 h m r.l3).2≠0 by simp[o])];cases N:(MA t r.gt r.d5 h m r.l3).1 with
 |false=>rw[a6 (show(decide ((MA t r.gt r.d5 h m r.l3).2=0)&&!false)=true by simp[o]),a6 (by simp),a6 rfl]|true=>
 rw [ae (show¬(decide ((MA t r.gt r.d5 h m r.l3).2=0)&&!true)=true by simp),ae (by simp[o]),ae (by simp)];have s:IV t r h m:=⟨hf,fr,b,y,D,co⟩;have u:=s.rem;have O:=s.hh.g.d7;have P:=s.hh.g.ei;have l1:=s.left.1;have l2:=s.left.2;have Q:=s.ro.left.d7;have S:=s.ro.left.ei;unfold Lw Kb;simp only[];rw[al hf y s.part u,bs,Sw (by omega) u.d7.2 ((MT _ _).imp fun h=>by omega),bs,bs,Sw (by omega) u.ei.2 ((MT _ _).imp fun h=>by omega),bs,bs,bs];simp only[];rw[WR (by omega) (fun x z=>by rw[I4];obtain⟨i,E,F,rfl⟩:=Be z;exact(D.m.node i E F).1),bs];rw[WR (by omega) (fun x z=>by rw[I4];obtain⟨i,E,F,rfl⟩:=Be z;exact D.m.edge i E F),bs];have H:FQ r.sr.ca r.pc.ca r.ec.c9.ca.length (m.d3.ca.map (AA (HV h.c9.ca.length (dS r h m).ca))) (Ly h.c9 r.sr m.d3).ca.length=some (cS r h m).ca:=
  Xu s.zl.1 (by omega) (Int.ofNat_le.2 u.d7.2)
 have I:FQ r.sr.ci r.pc.ci r.ec.c9.ci.length (m.d3.ci.map (AA (HV h.c9.ci.length (dS r h m).ci))) (Ly h.c9 r.sr m.d3).ci.length=some (cS r h m).ci:=
  Xu s.zQ.1 (by omega) (Int.ofNat_le.2 u.ei.2)
 rw [H,bs,I,bs];rw[fe (X2 u),bs];change ((K3 t r (B1 h (dS r h m)) (cS r h m)).bind _)=_;rw[pi s.grow (X2 u),bs];change ((MS t r (Cb t r (B1 h (dS r h m)) (cS r h m)) (cS r h m) m.fd).bind _)=_;rw[tM s.put,bs];exact bZ fun K=>rfl
end Go.Sf.Sc
namespace Go.Sf.Sc
open Go Go.Sf
instance:Inhabited gp:=⟨uN⟩
instance:Inhabited D8:=⟨⟨0,⟨⟨[],[]⟩,[]⟩⟩⟩
instance:Inhabited BS:=⟨zG⟩
structure vO(j0:List gp):Prop where
 len:j0.length<=12
 each:∀r∈j0,G5 r/\FY r.d5<=40
structure qr(h:AH)(s:BS):Prop where
 w9:s.w5.ca.length=h.c9.ca.length
 xr:s.w5.ci.length=h.c9.ci.length
 node:∀x∈s.w5.ca,-1<=x/\x<s.sx.c9.ca.length
 edge:∀x∈s.w5.ci,-1<=x/\x<s.sx.c9.ci.length
 sm:MZ s.sx
variable{t:AC}{x:AH}{L:BT}
theorem fb(h:(IJ t x L).2=0):IJ t x L=(⟨x.c9,L.foldl Ca x.eo⟩,0)/\L.any (Nb t x)=false:=by
 unfold IJ at h|-
 grind
structure Qa(t:AC)(r:gp)(h:AH)(m:AU):Prop where
 f:IV t r h m
 sat:MA t r.gt r.d5 h m r.l3=(true,0)
 solve:FV t r.gt h m.d3=(m.fd,0)
 chk:GV t r.gt.c9 h.c9 m.d3 r.l3=0
 put:(IJ t (Cb t r (B1 h (dS r h m)) (cS r h m)) (B8 r (cS r h m) m.fd)).2=0
 few:(Cb t r (B1 h (dS r h m)) (cS r h m)).c9.ca.length<=40/\(Cb t r (B1 h (dS r h m)) (cS r h m)).c9.ci.length<=80
def SI(t:AC)(r:gp)(h:AH)(m:AU):AH:=⟨(Cb t r (B1 h (dS r h m)) (cS r h m)).c9,(B8 r (cS r h m) m.fd).foldl Ca (Cb t r (B1 h (dS r h m)) (cS r h m)).eo⟩
def Wa(t:AC)(r:gp)(h:AH)(m:AU):BS:=BS.mk r m h (SI t r h m) (Ha h (dS r h m)) (cS r h m)
variable{r:gp}{h:AH}{m:AU}
theorem g8(hf:Aw t)(fr:G5 r)(F:FY r.d5<=40)(e:(HC t r h m).2=0):Qa t r h m/\HC t r h m=(Wa t r h m,0):=by
 unfold HC at e|-;split at e
 .rename_i f;exact absurd e f
 rename_i f;rw[ae f];split at e
 .rename_i j;exact absurd e j
 rename_i j;rw[ae j];split at e
 .cases e
 rename_i y;rw[ae y];split at e
 .rename_i o;exact absurd e o
 rename_i o;rw[ae o];split at e
 .cases e
 rename_i z;rw[ae z];split at e
 .rename_i u;exact absurd e u
 rename_i u;rw[ae u];split at e
 .rename_i w;exact absurd e w
 rename_i w;rw[ae w];split at e
 .cases e
 rename_i D;rw[ae D];have f:=Classical.not_not.1 f;have j:=Classical.not_not.1 j;have y:=Classical.not_not.1 y;have o:=Classical.not_not.1 o;have z:=Classical.not_not.1 z;have u:=Classical.not_not.1 u;have w:=Classical.not_not.1 w;obtain⟨_,_,_,G⟩:=Vn hf F (Wl f j y o z);have s:IV t r h m:=⟨hf,fr,f,j,G,(Wn u).1⟩;unfold YU at e|-;split at e
 .rename_i q;exact absurd e q
 rename_i q;rw[ae q];have q:=Classical.not_not.1 q;obtain⟨E,H⟩:=fb q;split at e
 .cases e
 rename_i b;rw[ae b];rw[E]at b;refine⟨⟨s,?_,?_,y,q,?_⟩,?_⟩
 .exact Prod.ext (by simpa using D) w
 .exact Prod.ext z o
 .simp[not_or]at b;exact b
 .rw[E];rfl
theorem Qa.trk(s:Qa t r h m):qr h (Wa t r h m):=by
 have z:=s.f.rem;have b:=s.f.put;have D:((Cb t r (B1 h (dS r h m)) (cS r h m)).c9.ca.length)=(dS r h m).ca.length+(II r).length:=by
  show (List.length (_++_))=_;rw[bk,c7];show((dS r h m).ca.map _).length+_=_;rw[c7];rfl
 have he:((Cb t r (B1 h (dS r h m)) (cS r h m)).c9.ci.length)=(dS r h m).ci.length+(Nc r).length:=by
  show (List.length (_++_))=_;rw[bk,c7];show((dS r h m).ci.map _).length+_=_;rw[c7];rfl
 have q:Km (SI t r h m).eo (Cb t r (B1 h (dS r h m)) (cS r h m)).eo:=ZL _ _;have w:(SI t r h m).eo.length=(Cb t r (B1 h (dS r h m)) (cS r h m)).c9.ca.length:=by
  have:=congrArg List.length q;rw[c7,c7]at this;rw[this,b.vlen]
 refine ⟨I4 _ _,I4 _ _,fun x j=>?_,fun x j=>?_,⟨?_,?_,?_,fun v hv=>?_⟩⟩
 .obtain⟨i,hi,rfl⟩:=List.mem_map.1 j;have:=PJ (dS r h m).ca i;have y:(Wa t r h m).sx.c9.ca.length=(Cb t r (B1 h (dS r h m)) (cS r h m)).c9.ca.length:=rfl
  grind
 .obtain⟨i,hi,rfl⟩:=List.mem_map.1 j;have:=PJ (dS r h m).ci i;have y:(Wa t r h m).sx.c9.ci.length=(Cb t r (B1 h (dS r h m)) (cS r h m)).c9.ci.length:=rfl
  grind
 .have:=s.few.1;show(Cb t r (B1 h (dS r h m)) (cS r h m)).c9.ca.length<=1000;omega
 .have:=s.few.2;show(Cb t r (B1 h (dS r h m)) (cS r h m)).c9.ci.length<=1000;omega
 .have:=s.few.1;show(SI t r h m).eo.length<=1000;omega
 .have u:v.length∈(SI t r h m).eo.map List.length:=List.mem_map.2 ⟨v,hv,rfl⟩;rw[q,s.f.rows]at u;obtain⟨n,o,e⟩:=List.mem_map.1 u;have:=Gh b.hf (Int.le_refl _) (Cs b.hv).par (b.kind n o).2;omega
end Go.Sf.Sc
namespace Go.Sf.Sc
open Go Go.Sf
structure vw(m:d3)(g:c9):Prop where
 w9:m.ca.length<=1000
 xr:m.ci.length<=1000
 node:∀x∈m.ca,-1<=x/\x<g.ca.length
 edge:∀x∈m.ci,-1<=x/\x<g.ci.length
structure nU(m:AU):Prop where
 d7:m.d3.ca.length<=1000
 ei:m.d3.ci.length<=1000
 vars:m.fd.length<=1000
variable{t:AC}{r:gp}{h:AH}{m:AU}
theorem Qa.small(s:Qa t r h m):nU m:=by
 have e:=s.f.left;have b:=s.f.ro.left;have j:=s.f.at_.len;have o:=s.f.at_.q.vars;have:=b.d7;have:=b.ei;exact⟨by omega,by omega,by omega⟩
end Go.Sf.Sc
namespace Go.Sf.Sc
open Go Go.Sf
end Go.Sf.Sc
namespace Go.Sf.Sc
open Go Go.Sf
end Go.Sf.Sc
namespace Go.Sf.Sc
open Go Go.Sf
end Go.Sf.Sc
namespace Go.Sf.Sc
open Go Go.Sf
variable{h:AH}
theorem XN:∃b,MQ h=some b/\(b=true->MZ h):=by
 unfold MQ Oa;rw[bs];by_cases f:((!((decide ((h.c9.ca.length:Int)<=45))&&(decide ((h.c9.ci.length:Int)<=90))))||(decide (45<(h.eo.length:Int))))=true
 .rw[a6 f];exact⟨false,rfl,fun h=>by cases h⟩
 rw [ae f,BJ (fun i=>decide (12<((AA h.eo i).length:Int))) false]
 .cases e:kx (fun i=>decide (12<((AA h.eo i).length:Int))) 0 h.eo.length with
  |true=>exact⟨false,rfl,fun h=>by cases h⟩
  |false=>
   refine ⟨true,rfl,fun _=>?_⟩;rw[By]at e;simp only[Bool.or_eq_true,Bool.not_eq_true',Bool.and_eq_false_iff,decide_eq_false_iff_not,wq,not_or]at f;refine⟨by omega,by omega,by omega,fun v hv=>?_⟩
   grind [Be]
 .intro i j o _;rw[AD j o,bs,Hf]
end Go.Sf.Sc
namespace Go.Sf.Sc
open Go Go.Sf
end Go.Sf.Sc
namespace Go.Sf.Sc
open Go Go.Sf
def QY(x:Int):Prop:=-9223372036854775808<=x/\x<=9223372036854775807
theorem nK{x y:Int}(b:QY x)(e:QY y):AY (x-y)=0↔x=y:=by
 unfold QY at b e;rw[aK];split<;>omega
theorem fc{l m:Fp}(u:l.length<=1000)(w:m.length<=1000)(q:∀x∈l,QY x)(s:∀x∈m,QY x):∃v,Jc l m=some v/\(v=0↔l=m):=by
 unfold Jc;rw[PS (fun i=>if AA l i=AA m i then none else some (.inr (AY (AA l i-AA m i)))) (b:=min (l.length:Int) m.length) (by omega)]
 .cases e:fst (fun i=>if AA l i=AA m i then(none:Option (Int ⊕ Int))else some (.inr (AY (AA l i-AA m i)))) 0 (min (l.length:Int) m.length)with
  |none=>
   refine ⟨_,rfl,?_⟩;rw[At (by omega) (by omega)];rw[CW]at e;constructor
   .intro h;refine Ys (by omega) fun i f o=>?_;have:=e i f (by omega)
    grind
   .rintro rfl;omega
  |some x=>
   obtain ⟨i,f,o,j,_⟩:=Db e;by_cases h:AA l i=AA m i
   .rw[a6 h]at j;cases j
   .rw[ae h]at j;cases j;refine⟨_,rfl,?_⟩;rw[nK (q _ (AJ f (by omega))) (s _ (AJ f (by omega)))];exact⟨fun k=>absurd k h,fun k=>by rw[k]⟩
 .intro i f o _;rw[a6 (by simp;omega),AD f (by omega),bs,AD f (by omega),bs];by_cases h:AA l i=AA m i
  .rw[ae (by simp[h]),a6 h,At (by omega) (by omega)];rfl
  .rw[a6 (by simp[h]),ae h,bs,bs];rfl
 .rw[ae (by simp;omega)]
structure Ma(h:AH):Prop where
 s:MZ h
 w:∀v∈h.eo,∀x∈v,QY x
theorem mu{a b:AH}(q:Ma a)(u:Ma b):M4 a b=some (decide (a=b)):=by
 unfold M4;rw[mt,bs];obtain⟨g,v⟩:=a;obtain⟨G,e⟩:=b;simp only[];by_cases j:g=G
 .subst j;by_cases o:v.length=e.length
  .rw[ae (by simp[o]),BJ (fun i=>!decide (AA v i=AA e i)) false]
   .have:=b9 (fun x y:Fp=>decide (x=y)) (l:=v) (m:=e) (fun _ _ _ _=>decide_eq_true_iff) o;by_cases h:v=e
    .rw[this.2 h,ae (by simp),CX];simp[h]
    .cases F:kx (fun i=>!decide (AA v i=AA e i)) 0 v.length
     .exact absurd (this.1 F) h
     .rw[a6 rfl,QM];simp[h]
   .intro i f z _;have D:=AJ f z;have E:=AJ (l:=e) f (by omega);obtain⟨x,H,I⟩:=fc (q.s.rows _ D) (u.s.rows _ E) (q.w _ D) (u.w _ E);rw[AD f z,bs,AD f (by omega),bs,H,bs];by_cases h:AA v i=AA e i<;>simp[h,I]
  .rw[a6 (by simp;omega)];have:v≠e:=fun h=>o (by rw[h]);simp[this]
 .rw[a6 (by simp[j])];simp[j]
structure ke(s:BS):Prop where
 b:Ma s.wK
 a:Ma s.sx
variable{V:List Fp}
theorem XT(h:∀v∈V,∀x∈v,QY x):∀{L:BT},(∀p∈L,QY p.2)->∀{V:List Fp},(∀v∈V,∀x∈v,QY x)->∀v∈L.foldl Ca V,∀x∈v,QY x
 |[],_,_,k=>k|p::L,e,V,k=>by
  rw [List.foldl_cons];refine XT h (L:=L) (fun q f=>e q (List.mem_cons_of_mem _ f)) ?_;unfold Ca;split
  .intro v hv x b;obtain⟨n,j,rfl⟩:=List.mem_iff_getElem.1 hv;rw[List.getElem_modify]at b;split at b
   .rcases List.mem_or_eq_of_mem_set b with b|rfl
    .exact k _ (List.getElem_mem _) _ b
    .exact e p (List.mem_cons_self ..)
   .exact k _ (List.getElem_mem _) _ b
  .exact k
variable{t:AC}{h:AH}
theorem gk(hf:Aw t)(e:(He t h).2=0):Ma h:=by
 obtain ⟨hv,hh⟩:=UE hf e;refine⟨V1 hf hv hh,fun v b x f=>?_⟩;obtain⟨i,j,o,rfl⟩:=Be b;have:=hh.low i j (by have:=hh.len;omega) x f;unfold QY;omega
variable{r:gp}{m:AU}
theorem gl(s:Qa t r h m):ke (Wa t r h m):=by
 have hh:=s.f.hh;have q:=gk s.f.hf s.f.he;have u:=s.f.put;have hT:=Cs s.f.hv;refine⟨q,s.trk.sm,?_⟩;have y:=(fb s.put).2;refine XT (V:=[]) (by simp) (fun p b=>?_) ?_
 .obtain⟨sl,E,rfl⟩:=List.mem_map.1 b;have k:=u.slot sl E;rw[List.any_eq_false]at y;have e:=y _ b;unfold Nb at e;have z:=u.kind _ (AJ k.2.2.1.1 k.2.2.1.2);have F:=Q6 s.f.hf hT z.1 z.2 _ (AJ k.2.2.2.1 k.2.2.2.2);simp only[Bool.or_eq_true,wq,not_or]at e;unfold QY;unfold PA at e|-;dsimp only at e|-;omega
 .intro v hv x o;unfold Cb L9 at hv;rcases List.mem_append.1 hv with hv|hv
  .unfold B1 at hv;obtain⟨i,hi,rfl⟩:=List.mem_map.1 hv;have:=s.f.rem.d7.1 i hi;exact q.w _ (AJ this.1 (by have:=hh.len;omega)) x o
  .obtain⟨i,hi,rfl⟩:=List.mem_map.1 hv;unfold dI at o;obtain⟨a,D,rfl⟩:=List.mem_map.1 o;have j:=Gx hi;have k:=s.f.grow.kind _ (AJ (l:=r.ec.c9.ca) j.1 j.2);have G:=Q6 s.f.hf hT k.1 k.2 a D;have e:=eb s.f.hf hT k.1 k.2 a D;unfold QY;omega
end Go.Sf.Sc
