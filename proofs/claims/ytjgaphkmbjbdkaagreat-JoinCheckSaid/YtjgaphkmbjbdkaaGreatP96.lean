/- Plain lemmas: what the functions of the program and of the reference compute. -/
import Derived.Test.YtjgaphkmbjbdkaaGreatSfF
import Derived.Test.YtjgaphkmbjbdkaaGreatP46
set_option linter.all false
set_option maxRecDepth 100000
namespace Go.Sf.Sc
open Go Go.Sf
def ST(p g:d5)(m:d6):d5:=⟨m.d3.map (AA g.d3),p.d4⟩
variable{l:Fp}
theorem P9{n x:Int}:x∈BL l n↔(0<=x/\x<n)/\x∉l:=by
 unfold BL;rw[List.mem_filter];constructor
 .grind[Int.natCast_nonneg,B4]
 .rintro⟨⟨b,e⟩,f⟩;refine⟨List.mem_map.2 ⟨x.toNat,List.mem_range.2 (by omega),Int.toNat_of_nonneg b⟩,?_⟩
  grind [hasB,B4]
theorem NX(l:Fp)(n:Int):(BL l n).Pairwise (·<·):=by grind[BL,List.pairwise_lt_range.imp]
def Ek(fd ff:Fp):Fp:=(BL ff fd.length).map (AA fd)
theorem TZ{fd ff:Fp}{x:Int}:x∈Ek fd ff↔∃i:Int,(0<=i/\i<fd.length)/\i∉ff/\AA fd i=x:=by grind[Ek,P9]
def Aak(fd ff:Fp):Bool:=ll (fun a=>ll (fun b=>decide (AA fd a=AA fd b)&&(!hasB ff a||!hasB ff b)) (a+1) fd.length) 0 fd.length
theorem fA{fd ff:Fp}(h:Aak fd ff=false){a b:Int}(a0:0<=a)(a1:a<fd.length)(s:0<=b)(q:b<fd.length)(u:a∈ff)(e:AA fd a=AA fd b):b∈ff:=by
 unfold Aak at h;rw[BV]at h;by_cases j:a=b
 .exact j▸u
 by_cases w:a<b
 .have f:=h a a0 a1;rw[BV]at f;have o:=f b (by omega) q;rw[decide_eq_true e,Bool.true_and,Bool.or_eq_false_iff]at o
  grind [B4]
 .have f:=h b s q;rw[BV]at f;have o:=f a (by omega) a1;rw[decide_eq_true e.symm,Bool.true_and,Bool.or_eq_false_iff]at o
  grind [B4]
variable{i:Int}
theorem Tb{fd ff:Fp}(h:Aak fd ff=false)(b:0<=i)(e:i<fd.length)(f:i∈ff):AA fd i∉Ek fd ff:=by grind[TZ,fA]
def Nt(g:d5)(ff:At)(m:d6)(i:Int):Bool:=
 !hasB m.d4 i&&(hasB (Ek m.d3 ff.d3) (AA g.d4 i).ib||hasB (Ek m.d3 ff.d3) (AA g.d4 i).To)
def M5(g:d5)(ff:At)(m:d6):At:=⟨BL (Ek m.d3 ff.d3) g.d3.length,BL (Ek m.d4 ff.d4) g.d4.length⟩
def Nq(l g:d5)(ff:At)(m:d6):At×Int:=
 if HN l g m≠0 then(⟨[],[]⟩,HN l g m)else if Em l ff≠0 then(⟨[],[]⟩,Em l ff)else
 if (Aak m.d3 ff.d3||Aak m.d4 ff.d4)=true then(⟨[],[]⟩,15)else
 if ll (Nt g ff m) 0 g.d4.length=true then(⟨[],[]⟩,14)else(M5 g ff m,0)
structure ZP(l g:d5)(ff:At)(m:d6):Prop where
 mor:VV l g m
 part:ZT l ff
 ec:Aak m.d3 ff.d3=false
 ei:Aak m.d4 ff.d4=false
 free:∀i:Int,0<=i->i<g.d4.length->Nt g ff m i=false
variable{g:d5}
theorem ac{p:At}(h:Em g p=0):Bw g=0/\O1 g p=0:=by grind[Em]
theorem Wj{l g:d5}{ff:At}{m:d6}(h:(Nq l g ff m).2=0):ZP l g ff m/\Nq l g ff m=(M5 g ff m,0):=by
 unfold Nq at h|-;split at h
 .grind
 rename_i e;rw[ae e];split at h
 .grind
 rename_i f;rw[ae f];split at h
 .grind
 rename_i b;rw[ae b];split at h
 .grind
 rename_i j;rw[ae j];simp[not_or]at b;exact⟨⟨RJ (Classical.not_not.1 e),Tn (ac (Classical.not_not.1 f)).2,b.1,b.2,BV.1 (by simpa using j)⟩,rfl⟩
theorem jP{l g:d5}{ff:At}{m:d6}(h:ZP l g ff m):O1 g (M5 g ff m)=0:=by
 have s:=h.mor;have F:=s.gb;have G:∀x∈(M5 g ff m).d3,0<=x/\x<g.d3.length:=fun x j=>Fm j;have H:∀x∈(M5 g ff m).d4,0<=x/\x<g.d4.length:=fun x j=>Fm j;have f:∀{l:Fp}{n:Int},(∀x∈l,0<=x/\x<n)->l.Pairwise (·<·)->Qb l n=0:=by
  grind [Qb,BW,AI,Mg]
 unfold O1;rw[f G (NX _ _),f H (NX _ _)];simp;rw[BW.2 fun i D E=>?_]
 .rfl
 have j:=AI D E;generalize AA (M5 g ff m).d4 i=x at j;have b:(0<=x/\x<g.d4.length)/\x∉Ek m.d4 ff.d4:=P9.1 j;have hf:=F.fit _ (AI b.1.1 b.1.2);have u:(AA g.d4 x).ib∉Ek m.d3 ff.d3/\(AA g.d4 x).To∉Ek m.d3 ff.d3:=by
  by_cases hi:x∈m.d4
  .obtain⟨k,y,z,e⟩:=Bb hi;have o:k∈ff.d4:=by
    by_cases o:k∈ff.d4
    .exact o
    .exact absurd (TZ.2 ⟨k,⟨y,z⟩,o,e⟩) b.2
   have ends:=h.part.ends k o;have he:=s.edge k y z;rw[e]at he;have w:=h.part.ec.1;have I:=w _ ends.1;have J:=w _ ends.2;have N:=s.tn;rw[<-he.2.2.1,<-he.2.2.2];exact⟨Tb h.ec I.1 (by omega) ends.1,Tb h.ec J.1 (by omega) ends.2⟩
  .have hd:=h.free x b.1.1 b.1.2;unfold Nt at hd;rw[show hasB m.d4 x=false from by cases K:hasB m.d4 x with|false=>rfl|true=>exact absurd (B4.1 K) hi,Bool.not_false,Bool.true_and,Bool.or_eq_false_iff]at hd;exact⟨fun q=>by rw[B4.2 q]at hd;exact absurd hd.1 (by decide),fun q=>by rw[B4.2 q]at hd;exact absurd hd.2 (by decide)⟩
 grind [hasB,M5,AA,B4,P9]
def H6(n:Nat)(l:Fp):Fp:=(Au n).map (DJ l)
variable{v:Int}
theorem Ws(h:v∉l):DJ l v=-1:=by grind[DJ,BW,AI]
theorem QI(l:Fp)(v:Int):-1<=DJ l v/\DJ l v<l.length:=by
 by_cases h:v∈l
 .have:=IF h;omega
 .rw[Ws h];omega
theorem Ny:0<=DJ l v↔v∈l:=by grind[Ws,IF]
theorem Jt(n:Nat)(l:Fp):(H6 n l).length=n:=by unfold H6;rw[ca,A5]
variable{n:Nat}
theorem Su(b:0<=i)(e:i<n):AA (H6 n l) i=DJ l i:=Hq _ b e
theorem Z6(h:l.Nodup)(b:0<=i)(e:i<l.length):DJ l (AA l i)=i:=by
 have f:=IF (AI b e)
 grind [DJ,AA,Mg]
def Qe(ff into at_:Fp)(n i:Int):Int:=if hasB into i=true then AA at_ (AA ff (DJ into i))else n+(BL into i).length
def TP(count:Nat)(ff into at_:Fp)(n:Int):Fp:=(Au count).map (Qe ff into at_ n)
theorem Wi(count:Nat)(ff into at_:Fp)(n:Int):(TP count ff into at_ n).length=count:=by unfold TP;rw[ca,A5]
variable{count:Nat}
theorem gZ{ff into at_:Fp}{n i:Int}(b:0<=i)(e:i<count):AA (TP count ff into at_ n) i=Qe ff into at_ n i:=Hq _ b e
theorem Kv(h:0<=i):((BL l i).length:Int)<=i:=by grind[RS]
end Go.Sf.Sc
namespace Go.Sf.Sc
open Go Go.Sf
variable{α:Type}
theorem VJ{P:List α->Prop}(b:P [])(e:∀l a,P l->P (l++[a]))(l:List α):P l:=by
 have:∀l:List α,P l.reverse:=by
  intro l
  induction l with
  |nil=>exact b|cons a l f=>rw[List.reverse_cons];exact e _ _ f
 rw [<-List.reverse_reverse l];exact this _
def Po(L:BX):BX:=L.foldl (fun m p=>m.set p.1 p.2) []
theorem aF(L:BX)(p:(Int×Int)×Int):Po (L++[p])=(Po L).set p.1 p.2:=by
 unfold Po
 grind
def R5(L:BX):Prop:=∀p∈L,∀q∈L,p.1=q.1->p.2=q.2
variable{k:Int×Int}{v:Int}
theorem Tc:∀{m:BX},m.look k=some v->(k,v)∈m
 |[],h=>by cases h
 |p::r,h=>by
  unfold BX.look at h;split at h
  .grind
  .exact List.mem_cons_of_mem _ (Tc h)
theorem X0:∀{m:BX},m.look k=none->∀p∈m,p.1≠k
 |[],_,p,b=>by cases b
 |q::r,h,p,b=>by
  unfold BX.look at h;split at h
  .cases h
  .rename_i e;rcases List.mem_cons.1 b with rfl|b
   .exact e
   .exact X0 h p b
theorem dg:∀{m:BX},m.look k=none->m.set k v=m++[(k,v)]
 |[],_=>rfl|p::r,h=>by
  unfold BX.look at h;unfold BX.set;split at h
  .cases h
  .rename_i e;rw[ae e,dg h];rfl
theorem bM:∀{m:BX},m.look k=some v->m.set k v=m
 |[],h=>by cases h
 |p::r,h=>by
  unfold BX.look at h;unfold BX.set;split at h
  .grind
  .rename_i e;rw[ae e,bM h]
theorem eu(V:List Fp)(p:(Int×Int)×Int):CR (CR V p) p=CR V p:=by
 unfold CR;split
 .apply List.ext_getElem?
  grind [Option.map_eq_map,Option.map_map,List.set_set]
 .rfl
theorem kT{m:BX}(hd:m.Dis){p:(Int×Int)×Int}(b:p∈m)(V:List Fp):CR (m.foldl CR V) p=m.foldl CR V:=by
 have e:m.Perm (m.erase p++[p]):=(List.perm_cons_erase b).trans (List.perm_append_singleton p (m.erase p)).symm;rw[<-Vk hd e V,List.foldl_append];exact eu _ _
theorem R5.sub{L M:BX}(h:R5 L)(b:∀p∈M,p∈L):R5 M:=fun p e q f=>h p (b p e) q (b q f)
theorem dH(L:BX):R5 L->(Po L).Dis/\(∀p,p∈Po L↔p∈L)/\∀V,(Po L).foldl CR V=L.foldl CR V:=by
 refine VJ (P:=fun L=>R5 L->(Po L).Dis/\(∀p,p∈Po L↔p∈L)/\∀V,(Po L).foldl CR V=L.foldl CR V) (fun _=>⟨List.Pairwise.nil,fun p=>Iff.rfl,fun V=>rfl⟩) (fun L p e b=>?_) L;obtain⟨u,s,w⟩:=e (b.sub fun q f=>List.mem_append_left _ f);rw[aF];cases j:(Po L).look p.1 with
 |none=>
  grind [dg,BX.set_dis]
 |some v=>
  have o:=Tc j;have hv:v=p.2:=b (p.1,v) (List.mem_append_left _ ((s _).1 o)) p (by simp) rfl
  grind [bM,List.mem_singleton,kT]
def Px(L:BX):Bool:=ll (fun i=>ll (fun k=>decide ((AA L k).1=(AA L i).1)&&!decide ((AA L k).2=(AA L i).2)) 0 i) 0 L.length
variable{L:BX}
theorem XT(h:Px L=false):R5 L:=by
 intro p o q s e;obtain⟨a,a0,a1,rfl⟩:=Bb o;obtain⟨b,u,w,rfl⟩:=Bb s;unfold Px at h;rw[BV]at h;by_cases f:a=b
 .rw[f]
 by_cases y:a<b
 .have j:=h b u w;rw[BV]at j
  grind
 .have j:=h a a0 a1;rw[BV]at j
  grind
theorem Z0(L:BX)(V:List Fp):Lz (L.foldl CR V) V:=by
 induction L generalizing V with
 |nil=>rfl|cons p r b=>exact(b (CR V p)).trans (Xc V p)
end Go.Sf.Sc
namespace Go.Sf.Sc
open Go Go.Sf
variable{t:AC}{p g:d5}{inj:Bool}
theorem TM{m:d6}(h:Gs t p g m inj=0):GT t p g=0/\PE t p g m=0/\XM t p g m:=by grind[Zi,Gs]
theorem gY{m:d6}(h:Gs t p g m inj=0):Gs t p g m false=0:=by grind[TM,Gs]
variable{α:Type}
theorem Pe[Inhabited α](l:List α):(Au l.length).map (AA l)=l:=by grind[Zc,ca,A5,Hq]
variable{β:Type}
theorem V5[Inhabited α](l:List α)(f:α->β):l.map f=(Au l.length).map fun j=>f (AA l j):=by
 rw [show(fun j=>f (AA l j))=f∘AA l from rfl,<-List.map_map,Pe]
theorem rF(hf:Az t){m:d6}(h:Gs t p g m inj=0):FW t p g m=some (ST p g m,0):=by
 obtain ⟨b,o,e⟩:=TM h;obtain⟨_,f,u,_⟩:=Oc b;unfold FW;rw[W8 hf,bs,ae (by simp[b]),X7 hf b,bs,ae (by simp[o])];unfold Cz;have:=f.ec;have:=f.ei;have:=e.tn;rw[Bm (by unfold AZ;omega),bs];rw[SO (by omega) (fun x j=>?_) p.d4]
 .rfl
 .obtain⟨i,q,s,rfl⟩:=Bb j;exact(e.node i q s).1
theorem rZ(hf:Az t){m:d6}(h:Gs t p g m inj=0):F9 t p g m=some (ST p g m,0):=by
 obtain ⟨w,z,s⟩:=TM h;obtain⟨_,u,D,_⟩:=Oc w;have:=u.ec;have:=u.ei;have y:=s.tn;unfold F9 JZ;rw[XB hf,bs,ae (by simp[gY h]),Bm (by unfold AZ;omega),bs,Bm (by unfold AZ;omega),bs,bs];rw[Qw (fun i=>d5.mk ((Au p.d3.length).map fun j=>if j<i then AA g.d3 (AA m.d3 j)else AA p.d3 j) p.d4) (a:=0) (b:=p.d3.length) (by omega)]
 .have e:((Au p.d3.length).map fun j=>if j<(p.d3.length:Int)then AA g.d3 (AA m.d3 j)else AA p.d3 j)=m.d3.map (AA g.d3):=by
   grind [V5,Ca]
  rw [e];rfl
 .congr 1;rw[<-Pe p.d3,ca,A5]
  grind [Ca,Pe]
 .intro i f o;have q:=s.node i f (by omega);simp[A5];rw[a6 (by simpa using o),AD f (by omega),bs,AD q.1.1 q.1.2,bs,AD f (by rw[ca,A5];exact o),bs,Hh _ f,Ay (by omega) (by omega)]
  grind
 grind [ca,A5]
variable{n:Nat}
theorem LT{f:Int->List α->Option (List α)}(q:Int->Bool)(F:Int->α)(h:∀i s,0<=i->i<(n:Int)->s.length<=i.toNat->f i s=some (if q i=true then s++[F i]else s)):ne f 0 n []=some (((Au n).filter q).map F):=by
 have e:∀k:Nat,(((Au k).filter q).map F).length<=k:=fun k=>by
  rw [ca];exact Nat.le_trans (List.length_filter_le _ _) (by rw[A5];exact az _)
 have:=Bo (f:=f) (s:=[]) (fun i=>((Au i.toNat).filter q).map F) (a:=0) (b:=n) (by omega) rfl (fun i j o=>by
  grind [GQ])
 grind
theorem Zv{q:Int->Bool}{F:Int->α}:decide (0<((((Au n).filter q).map F).length:Int))=ll q 0 n:=by
 rw [Bool.eq_iff_iff,t2,D4,ca];constructor
 .intro h;have b:(Au n).filter q≠[]:=fun e=>by rw[e]at h;simp at h
  obtain ⟨x,s⟩:=List.exists_mem_of_ne_nil _ b
  grind [DT]
 .rintro⟨i,f,j,o⟩;have:i∈(Au n).filter q:=List.mem_filter.2 ⟨DT.2 ⟨f,j⟩,o⟩
  grind
theorem iR{x:B5}(b:x.m.d3.length<=1000):DY x=some (Ek x.m.d3 x.ff.d3):=by
 unfold DY;rw[LT (fun i=>!hasB x.ff.d3 i) (AA x.m.d3)]
 .rfl
 grind [AD,LS,hasB,AY,AZ]
theorem U8{fd ff:Fp}(b:fd.length<=1000):KC fd ff=some (Ek fd ff):=by
 unfold KC;rw[LT (fun i=>!hasB ff i) (AA fd)]
 .rfl
 grind [D9,hasB,NF,AD,AY,AZ]
theorem fR{x:B5}(b:x.m.d3.length<=1000)(he:x.g.d4.length<=1000):DN x=some ((Au x.g.d4.length).filter (Nt x.g x.ff x.m)):=by
 unfold DN;rw[iR b,bs,LT (Nt x.g x.ff x.m) id]
 .rw[bs,List.map_id]
 .intro i s e f j;rw[AD e f,bs,LS,bs,LS,bs,LS,bs];unfold Nt;change (if(!hasB x.m.d4 i)=true then(if hasB (Ek x.m.d3 x.ff.d3) (AA x.g.d4 i).ib=true then some true else some (hasB (Ek x.m.d3 x.ff.d3) (AA x.g.d4 i).To)).bind _ else some false).bind _=_;cases hasB x.m.d4 i<;>cases hasB (Ek x.m.d3 x.ff.d3) (AA x.g.d4 i).ib<;>cases hasB (Ek x.m.d3 x.ff.d3) (AA x.g.d4 i).To<;>simp[AY (show s.length+[i].length<=AZ by simp;unfold AZ;omega)]
theorem fV{l g:d5}{ff:At}{m:d6}(b:m.d3.length<=1000)(he:g.d4.length<=1000):Jb l g ff m=some ((Au g.d4.length).filter (Nt g ff m)):=by
 unfold Jb;rw[U8 b,bs,LT (Nt g ff m) id]
 .rw[bs,List.map_id]
 .intro i s e f j;have hh:∀(l:Fp)(v:Int),D9 l v=some (hasB l v):=NF;simp[AD e f,hh];unfold Nt;cases hasB m.d4 i<;>cases hasB (Ek m.d3 ff.d3) (AA g.d4 i).ib<;>cases hasB (Ek m.d3 ff.d3) (AA g.d4 i).To<;>simp[AY (show s.length+[i].length<=AZ by simp;unfold AZ;omega)]
variable{a i:Int}
theorem Q3{p:Int->Bool}(h:a<=i):ll p a (i+1)=(ll p a i||p i):=by
 rw [Bool.eq_iff_iff,Bool.or_eq_true,D4,D4]
 grind
theorem WK{fd ff:Fp}(I:fd.length<=100){f:Int->Int->List Gp->Option (List Gp)}(hf:∀(i j:Int)s,0<=i->i<fd.length->i<j->j<fd.length->s.length<=20000->f i j s=some (if(decide (AA fd i=AA fd j)&&(!hasB ff i||!hasB ff j))=true then s++[Gp.mk i j]else s)):
  ∃l,ne (fun(e:Int)(q:List Gp)=>(ne (fun(o:Int)(s2:List Gp)=>f e o s2) (Am (e+1)) (fd.length:Int) q).bind fun s2=>some s2) 0 (fd.length:Int) []=some l/\l.length<=10000/\decide (0<l.length)=Aak fd ff:=by
 have key:=ND (f:=fun(e:Int)(q:List Gp)=>(ne (fun(o:Int)(s2:List Gp)=>f e o s2) (Am (e+1)) (fd.length:Int) q).bind fun s2=>some s2) (s:=[])
  (fun i s=>(s.length:Int)<=100*i/\decide (0<s.length)=ll (fun a=>ll (fun b=>decide (AA fd a=AA fd b)&&(!hasB ff a||!hasB ff b)) (a+1) fd.length) 0 i) (a:=0) (b:=fd.length) (by omega)
  (by refine⟨by simp,?_⟩;rw[BV.2 (fun i y z=>by omega)];rfl) (fun i s e D E=>by
   have u:=ND (f:=fun(o:Int)(s2:List Gp)=>f i o s2) (s:=s)
    (fun j s'=>(s'.length:Int)<=100*i+(j-(i+1))/\decide (0<s'.length)=(decide (0<s.length)||ll (fun b=>decide (AA fd i=AA fd b)&&(!hasB ff i||!hasB ff b)) (i+1) j)) (a:=i+1) (b:=fd.length) (by omega)
    (by refine⟨by have:=E.1;omega,?_⟩;rw[BV.2 (fun i y z=>by omega),Bool.or_false]) (fun j s' J F w=>by
     refine ⟨_,hf i j s' e D (by omega) F (by have:=w.1;omega),?_,?_⟩
     .grind
     .rw[Q3 (by omega),<-Bool.or_assoc,<-w.2]
      grind)
   grind [Ay,Q3])
 obtain ⟨l,G,K,H⟩:=key;exact⟨l,G,by omega,H⟩
theorem dP{fd ff:Fp}(E:fd.length<=100):∃l,F1 fd ff=some l/\l.length<=10000/\decide (0<l.length)=Aak fd ff:=by
 unfold F1;obtain⟨l,J,K⟩:=WK (ff:=ff) E (f:=fun b e s2=>
  (idx fd b).bind fun o=>
  (idx fd e).bind fun q=>
  (if(decide (o=q))=true then((slices_Contains_int ff b).bind fun u=>
  (if(!u)=true then some true else((slices_Contains_int ff e).bind fun w=>
  some (!w))).bind fun y=>
  some (y))else some false).bind fun z=>
  if z=true then
  (Ap s2 [Gp.mk b e]).bind fun D=>
  some D
  else
  some s2) (fun i j s b F H G I=>by
   have hh:∀(l:Fp)(v:Int),slices_Contains_int l v=some (hasB l v):=LS;simp[AD b F,AD (show 0<=j by omega) G,hh]
   grind [AA,hasB,AY,AZ])
 grind
theorem da{fd ff:Fp}(E:fd.length<=100):∃l,F8 fd ff=some l/\l.length<=10000/\decide (0<l.length)=Aak fd ff:=by
 unfold F8;obtain⟨l,J,K⟩:=WK (ff:=ff) E (f:=fun b e s2=>
  (idx fd b).bind fun o=>
  (idx fd e).bind fun q=>
  (if(decide (o=q))=true then((D9 ff b).bind fun u=>
  (if(!u)=true then some true else((D9 ff e).bind fun w=>
  some (!w))).bind fun y=>
  some (y))else some false).bind fun z=>
  if z=true then
  (Ap s2 [Gp.mk b e]).bind fun D=>
  some D
  else
  some s2) (fun i j s b F H G I=>by
   have hh:∀(l:Fp)(v:Int),D9 l v=some (hasB l v):=NF;simp[AD b F,AD (show 0<=j by omega) G,hh]
   grind [AA,hasB,AY,AZ])
 grind
variable{l:Fp}
theorem ay(h:n<=1000):MH n l=some (BL l n):=by
 unfold MH;rw[Ts (f:=D9 l) (by omega) (by omega) (fun i=>NF l i)];rfl
theorem aZ{fd ff:Fp}(w:n<=1000)(hi:∀x∈fd,0<=x/\x<n):Gh n fd ff=some (BL (Ek fd ff) n):=by
 unfold Gh JW;rw[a6 (by omega),bs];rw[Bo (fun i=>(Au n).map fun k=>ll (fun j=>!hasB ff j&&decide (AA fd j=k)) 0 i) (by omega)]
 .rw[bs,ca,A5,LT (fun i=>!hasB (Ek fd ff) i) id]
  .rw[bs,List.map_id];rfl
  .intro i s b f D;rw[AD b (by rw[ca,A5];exact f),bs,Hq _ b f];have e:ll (fun j=>!hasB ff j&&decide (AA fd j=i)) 0 fd.length=hasB (Ek fd ff) i:=by
    rw [Bool.eq_iff_iff,D4,B4,TZ];constructor
    .rintro⟨j,q,u,h⟩;rw[o4,t2]at h
     grind [B4]
    .rintro⟨j,⟨q,u⟩,F,h⟩;refine⟨j,q,u,?_⟩;rw[o4,t2]
     grind [hasB,B4]
   grind [hasB,Ek,AY,AZ]
 .refine List.ext_getElem (by simp[A5]) (fun k y z=>?_)
  grind [Int.toNat_natCast,BV]
 .intro i b f;have o:=hi _ (AI b f);have hh:∀(l:Fp)(v:Int),slices_Contains_int l v=some (hasB l v):=LS;rw[AD b f,bs,hh,bs];cases E:hasB ff i
  .rw[a6 (by decide),AD o.1 (by rw[ca,A5];exact o.2),bs,Hh _ o.1]
   grind [Ca,Q3,AA]
  grind [Ca,Q3]
theorem dw{a b:Nat}(e:a<=10000)(f:b<=10000):decide (0<Am ((a:Int)+(b:Int)))=(decide (0<a)||decide (0<b)):=by
 rw [Ay (by omega) (by omega),Bool.eq_iff_iff,Bool.or_eq_true]
 grind
theorem q8{l g:d5}{ff:At}{m:d6}(w:RU ff):Gt l g ff m=some (Nq l g ff m):=by
 unfold Gt DE Nq;simp only[];rw[ZD,bs,dQ w,bs];by_cases f:¬HN l g m=0
 .grind
 have f:=Classical.not_not.1 f;rw[ae (by simp[f]),bs,ae (show¬HN l g m≠0 by simp[f])];refine FG fun I=>?_;have b:=RJ f;have a1:=b.ga.ec;have N:=b.ga.ei;have O:=b.tn;have P:=b.wj;have Q:=b.gb.ec;have S:=b.gb.ei;unfold Dt;obtain⟨u,y,z,D⟩:=dP (ff:=ff.d3) (fd:=m.d3) (by omega);obtain⟨v,E,G,H⟩:=dP (ff:=ff.d4) (fd:=m.d4) (by omega);simp only[];rw[y,bs,E,bs,bs];simp only[];rw[dw z G,D,H];refine Zh fun J=>?_;rw[fR (by show m.d3.length<=1000;omega) (by show g.d4.length<=1000;omega),bs];have e:=Zv (n:=g.d4.length) (q:=Nt g ff m) (F:=id);rw[List.map_id]at e;rw[e];refine Zh fun K=>?_;rw[aZ (by omega) (fun x j=>?_),bs,aZ (by omega) (fun x j=>?_),bs]
 .rfl
 .obtain⟨i,o,s,rfl⟩:=Bb j;exact(b.edge i o s).1
 .obtain⟨i,o,s,rfl⟩:=Bb j;exact(b.node i o s).1
theorem rS{l g:d5}{ff:At}{m:d6}(j:RU ff):Qp l g ff m=some (Nq l g ff m):=by
 unfold Qp O6 Nq;rw[WR,bs,XC j,bs];by_cases f:¬HN l g m=0
 .grind
 have f:=Classical.not_not.1 f;rw[ae (by simp[f]),bs,ae (show¬HN l g m≠0 by simp[f])];refine FG fun E=>?_;have b:=RJ f;have a1:=b.ga.ec;have I:=b.ga.ei;have J:=b.tn;have K:=b.wj;have N:=b.gb.ec;have O:=b.gb.ei;obtain⟨u,o,s,w⟩:=da (ff:=ff.d3) (fd:=m.d3) (by omega);obtain⟨v,y,z,D⟩:=da (ff:=ff.d4) (fd:=m.d4) (by omega);rw[o,bs,y,bs,dw s z,w,D];refine Zh fun G=>?_;rw[fV (by omega) (by omega),bs];have e:=Zv (n:=g.d4.length) (q:=Nt g ff m) (F:=id);rw[List.map_id]at e;rw[e];refine Zh fun H=>?_;rw[U8 (by omega),bs,ay (by omega),bs,U8 (by omega),bs,ay (by omega),bs];rfl
end Go.Sf.Sc
namespace Go.Sf.Sc
open Go Go.Sf
variable{α β:Type}
theorem Od[Inhabited α]{l:List α}{F:α->β}{f:Int->List β->Option (List β)}(h:∀(i:Int)s,0<=i->i<l.length->s.length<=i.toNat->f i s=some (s++[F (AA l i)])):ne f 0 l.length []=some (l.map F):=by
 have:=Bo (f:=f) (s:=[]) (fun i=>(l.take i.toNat).map F) (a:=0) (b:=l.length) (by omega) (by simp) (fun i e j=>by
  grind [ca,bk,BS])
 rwa [Int.toNat_natCast,List.take_length]at this
variable{n:Nat}{l:Fp}
theorem dR(E:n<=1000)(u:l.length<=1000)(f:l.Pairwise (·<·)):MM n l=some (H6 n l):=by
 unfold MM JW;rw[a6 (by omega),bs,Int.toNat_natCast,List.length_replicate,Bo (fun i=>(Au n).map fun j=>if j<i then DJ l j else 0) (by omega)]
 .rw[bs];congr 1;exact Ca fun j w o=>a6 o
 .refine List.ext_getElem (by simp[A5]) (fun k y F=>?_);have e:(Au n)[k]'(by simpa[A5]using y)=(k:Int):=by simp[Au]
  simp only[List.getElem_map,List.getElem_replicate,e];rw[ae (by omega)]
 .intro i q D;rw[Sg u f,bs,AD q (by rw[ca,A5];exact D),bs];have e:∀v:Int,v=DJ l i->some (BN ((Au n).map fun j=>if j<i then DJ l j else 0) i v)=some ((Au n).map fun j=>if j<i+1 then DJ l j else 0):=by
   rintro v rfl;rw[Hh _ q];congr 1;refine Ca fun j w o=>?_;by_cases e:j=i
   .rw[a6 e,a6 (by omega),e]
   .rw[ae e];by_cases s:j<i
    .rw[a6 s,a6 (by omega)]
    .rw[ae s,ae (by omega)]
  cases b:hasB l i with
  |false=>
   rw [a6 (by rfl)];exact e _ (Ws fun z=>by rw[B4.2 z]at b;cases b).symm
  |true=>
   rw [ae (by simp)];exact e _ (Uv f (B4.1 b))
theorem ak(H:n<=1000)(I:l.length<=1000)(z:l.Nodup):MG l n=some (H6 n l):=by
 unfold MG;rw[Bo (fun k=>(Au k.toNat).map (DJ l)) (by omega) (by rfl)]
 .rfl
 .intro k o J;have f:((Au k.toNat).map (DJ l)).length=k.toNat:=by rw[ca,A5]
  have G:(Au k.toNat).map (DJ l)++[-1]=(Au (k+1).toNat).map fun j=>if j<k then DJ l j else if DJ l k<0 then DJ l k else -1:=by
   rw [GQ o,List.map_append];congr 1
   .grind[List.map_congr_left,DT]
   .rw[List.map_singleton,ae (by omega)];have:=QI l k
    grind
  rw [AY (by rw[f];simp;unfold AZ;omega),bs,G,Bo (fun i=>(Au (k+1).toNat).map fun j=>if j<k then DJ l j else if DJ l k<i then DJ l k else -1) (by omega) rfl]
  .rw[bs];congr 1;refine List.map_congr_left fun j D=>?_;have:=DT.1 D;split
   .rfl
   .have e:j=k:=by omega
    rw [a6 (QI l k).2,e]
  .intro i q s;rw[AD q s,bs];by_cases e:AA l i=k
   .have u:DJ l k=i:=by rw[<-e];exact Z6 z q s
    rw [a6 (by simp[e]),AD o (by rw[ca,A5];omega),bs,Hh _ o];congr 1;refine Ca fun j E F=>?_;by_cases w:j=k
    .rw[a6 w,ae (by omega),a6 (by omega),u]
    .rw[ae w];by_cases b:j<k
     .rw[a6 b,a6 b]
     .omega
   .have u:DJ l k≠i:=fun h=>by
     have:=(IF (Ny.1 (show 0<=DJ l k by omega))).2.2.1;rw[h]at this;exact e this
    rw [ae (by simp[e])];congr 1;refine Ca fun j E F=>?_;by_cases b:j<k
    .rw[a6 b,a6 b]
    .rw[ae b,ae b];by_cases y:DJ l k<i
     .rw[a6 y,a6 (by omega)]
     .rw[ae y,ae (by omega)]
structure T6(count:Nat)(ff into at_:Fp):Prop where
 few:count<=1000
 nodup:into.Nodup
 len:into.length=ff.length
 inn:∀x∈into,0<=x/\x<count
 kin:∀x∈ff,0<=x/\x<at_.length
 pos:∀x∈ff,0<=AA at_ x
theorem Qh(b:l.Nodup)(h:∀x∈l,0<=x/\x<n):l.length<=n:=by
 have:=List.Nodup.length_le_of_subset (l₁:=l) (l₂:=Au n) b (fun x e=>DT.2 (h x e))
 rwa [A5]at this
variable{i:Int}
theorem QA(h:0<=i):((BL l (i+1)).length:Int)=(BL l i).length+if i∈l then 0 else 1:=by grind[OF,ba,hasB,B4]
theorem Rh{ff into at_:Fp}{n i:Int}(h:i∈into):Qe ff into at_ n i=AA at_ (AA ff (DJ into i)):=by grind[Qe,B4]
theorem SD{ff into at_:Fp}{n i:Int}(h:i∉into):Qe ff into at_ n i=n+(BL into i).length:=by grind[Qe,B4]
variable{count:Nat}
theorem YC{ff into at_:Fp}{n:Int}(h:T6 count ff into at_)(w:0<=n)(y:n<=1000):Fh ff into count at_ n=some (TP count ff into at_ n):=by
 have z:=h.few;have q:=Qh h.nodup h.inn;have s:=h.len;unfold Fh;rw[ak h.few (by omega) h.nodup,bs,Bo (fun i=>(n+((BL into i).length:Int),(Au i.toNat).map (Qe ff into at_ n))) (by omega) (by simp[BL,Au])]
 .rfl
 .intro i e o;have D:=Kv (l:=into) e;have b:((Au i.toNat).map (Qe ff into at_ n)).length=i.toNat:=by rw[ca,A5]
  rw [AD e (by rw[Jt];exact o),bs,Su e o];by_cases hi:i∈into
  .have j:=IF hi;have u:=AI (l:=ff) j.1 (by omega);have f:=h.kin _ u;rw[a6 (by simpa using j.1),bs,AD j.1 (by omega),bs,AD f.1 f.2,bs,AY (by rw[b];simp;unfold AZ;omega),bs,GQ e,List.map_append,QA e,a6 hi,Int.add_zero,List.map_singleton,Rh hi]
  .rw[ae (by rw[t2,Ny];exact hi),AY (by rw[b];simp;unfold AZ;omega),bs,GQ e,List.map_append,QA e,ae hi,List.map_singleton,SD hi,Ay (by omega) (by omega),Int.add_assoc]
theorem X4{ff into b f:Fp}{n:Int}(h:T6 count ff into (b.map (AA f)))(H:∀x∈b,0<=x/\x<f.length)(P:0<=n)(Q:n<=1000):Gc count ff into b f n=some (TP count ff into (b.map (AA f)) n):=by
 have W:=h.few;have I:=Qh h.nodup h.inn;have J:=h.len;unfold Gc DL;rw[a6 (by refine⟨rfl,by omega,by omega⟩),bs,Int.toNat_natCast];rw[Bo (fun i=>(Au count).map fun k=>if 0<=DJ into k/\DJ into k<i then Qe ff into (b.map (AA f)) n k else -1) (by omega)]
 .rw[bs,ca,A5,Bo (fun i=>(n+((BL into i).length:Int),(Au count).map fun k=>if k<i\/k∈into then Qe ff into (b.map (AA f)) n k else -1)) (by omega)]
  .rw[bs];congr 1;exact Ca fun j E z=>a6 (.inl z)
  .show _=(n,_);congr 1
   .simp[BL]
   .refine Ca fun j E z=>?_;have G:=Ny (l:=into) (v:=j);have K:=QI into j;by_cases e:j∈into
    .rw[a6 (.inr e),a6 ⟨G.2 e,K.2⟩]
    .rw[ae (by rintro(o|o);omega;exact e o),ae fun o=>e (G.1 o.1)]
  .intro i s w;have X:=Kv (l:=into) s;rw[AD s (by rw[ca,A5];exact w),bs,Hq _ s w];by_cases hi:i∈into
   .have N:=IF hi;have F:=AI (l:=ff) N.1 (by have:=h.len;omega);have Y:=h.pos _ F;rw[a6 (show i<i\/i∈into from .inr hi),Rh hi,ae (by rw[t2];omega),QA s,a6 hi,Int.add_zero];congr 2;refine Ca fun j E z=>?_;by_cases e:j<i\/j∈into
    .rw[a6 e,a6 (e.imp (fun h=>by omega) id)]
    .rw[ae e,ae];rintro(o|o)
     .have:j=i:=by
       have:=fun hh=>e (.inl hh);omega
      exact e (.inr (this▸hi))
     .exact e (.inr o)
   .rw[ae (show¬(i<i\/i∈into)by rintro(o|o);omega;exact hi o),a6 (by decide),bs,QA s,ae hi,Ay (by simp;omega) (by simp;omega),Hh _ s,Int.add_assoc];congr 2;refine Ca fun j E z=>?_;by_cases u:j=i
    .rw[a6 u,a6 (.inl (by omega)),u,SD hi]
    .rw[ae u];by_cases e:j<i\/j∈into
     .rw[a6 e,a6 (e.imp (fun h=>by omega) id)]
     .rw[ae e,ae];rintro(o|o)
      .exact e (.inl (by omega))
      .exact e (.inr o)
 .refine List.ext_getElem (by simp[A5]) (fun k S U=>?_);simp only[List.getElem_map,List.getElem_replicate];rw[ae (by omega)];rfl
 .intro i s w;have y:=h.inn _ (AI s w);have F:=AI (l:=ff) s (by have:=h.len;omega);have q:=h.kin _ F;rw[ca]at q;have D:=H _ (AI q.1 q.2);rw[AD s w,bs,AD s (by have:=h.len;omega),bs,AD q.1 q.2,bs,AD D.1 D.2,bs,AD y.1 (by rw[ca,A5];exact y.2),bs,Hh _ y.1];congr 1;refine Ca fun j E z=>?_;by_cases u:j=AA into i
  .have e:=Z6 h.nodup s w;rw[a6 u,u,e,a6 ⟨s,by omega⟩,Rh (AI s w),e,Nh q.1 q.2]
  .rw[ae u];by_cases e:0<=DJ into j/\DJ into j<i
   .rw[a6 e,a6 ⟨e.1,by omega⟩]
   .rw[ae e,ae];rintro⟨o,Z⟩;have O:DJ into j=i:=by
     have:=fun hh=>e ⟨o,hh⟩;omega
    have:=(IF (Ny.1 o)).2.2.1;rw[O]at this;exact u this.symm
theorem WN{fd b:Fp}(e:fd.length<=1000)(f:∀x∈fd,0<=x/\x<b.length):Hn fd b=some (fd.map (AA b)):=by
 unfold Hn
 grind [Od,AA,AI,AD,AY,AZ]
end Go.Sf.Sc
namespace Go.Sf.Sc
open Go Go.Sf
def Ft(h:AF)(d:At):d6:=⟨H6 h.d5.d3.length d.d3,H6 h.d5.d4.length d.d4⟩
def xV(r:eg)(h:AF)(m:d6)(d:At):d6:=
 ⟨TP r.ee.d5.d3.length r.pq.d3 r.o3.d3 (m.d3.map (AA (Ft h d).d3)) d.d3.length,
 TP r.ee.d5.d4.length r.pq.d4 r.o3.d4 (m.d4.map (AA (Ft h d).d4)) d.d4.length⟩
def Td(t:AC)(k:Int):Fp:=(A6 t k).map fun x=>x.Low
def U2(tr:Fp)(e:Bk):Bk:=⟨e.jj,AA tr e.ib,AA tr e.To⟩
def N3(r:eg)(x:AF)(i:Int):Fp:=x.d5.d3++(BL r.o3.d3 i).map (AA r.ee.d5.d3)
def NI(t:AC)(r:eg)(x:AF)(i:Int):List Fp:=x.ed++(BL r.o3.d3 i).map fun k=>Td t (AA r.ee.d5.d3 k)
def Ph(r:eg)(c:d6)(x:AF)(i:Int):List Bk:=x.d5.d4++(BL r.o3.d4 i).map fun k=>U2 c.d3 (AA r.ee.d5.d4 k)
def Cm(t:AC)(r:eg)(x:AF)(c:d6):AF:=⟨⟨N3 r x r.ee.d5.d3.length,Ph r c x r.ee.d5.d4.length⟩,NI t r x r.ee.d5.d3.length⟩
def CB(h:AF)(d:At):AF:=⟨⟨d.d3.map (AA h.d5.d3),d.d4.map fun x=>U2 (Ft h d).d3 (AA h.d5.d4 x)⟩,d.d3.map (AA h.ed)⟩
structure Ez(x:AF):Prop where
 ec:x.d5.d3.length<=1000
 ei:x.d5.d4.length<=1000
 vals:x.ed.length<=1000
 rows:∀v∈x.ed,v.length<=1000
structure VS(t:AC)(r:eg)(c:d6):Prop where
 hf:Az t
 hv:(A7 t).2=0
 g:DD r.ee.d5
 kind:∀n∈r.ee.d5.d3,0<=n/\n<t.d3.length
 cn:c.d3.length=r.ee.d5.d3.length
variable{t:AC}{r:eg}{c:d6}
theorem oM(h:VS t r c){n:Int}(b:n∈r.ee.d5.d3):(A6 t n).length<=600:=by
 have:=h.kind n b;exact HH h.hf (Int.le_refl _) (C4 h.hv).par this.2
variable{x:AF}
theorem YD(h:Ez x):Jc x=some x:=by
 have:=h.ec;have:=h.ei;have:=h.vals;unfold Jc JZ;rw[Bm (by unfold AZ;omega),bs,Bm (by unfold AZ;omega),bs,bs];rw[Bo (fun i=>AF.mk x.d5 (x.ed.take i.toNat)) (by omega) (by rfl)]
 .rw[Int.toNat_natCast,List.take_length];rfl
 .intro i b e;have:=h.rows _ (AI b e)
  grind [AD,Bm,AZ,AY,BS]
theorem fQ(h:Ez x):Ke x=some x:=by
 have:=h.ec;have:=h.ei;have:=h.vals;unfold Ke slices_Clone_int Cz;rw[Bm (by unfold AZ;omega),bs,Bm (by unfold AZ;omega),bs];rw[Bo (fun i=>AF.mk x.d5 (x.ed.take i.toNat)) (by omega) (by rfl)]
 .rw[Int.toNat_natCast,List.take_length];rfl
 .intro i b e;have:=h.rows _ (AI b e)
  grind [AD,Bm,AZ,AY,BS]
variable{α:Type}{i:Int}
theorem Dg(l:Fp)(F:Int->α)(h:0<=i):(BL l (i+1)).map F=(BL l i).map F++if i∈l then[]else[F i]:=by grind[OF,hasB,B4]
theorem Ug(l:Fp)(i:Int):II l i=some (!hasB l i):=by
 unfold II hasB;rw[BQ (fun j=>decide (i=AA l j)) false,IT]
 .cases ll (fun j=>decide (i=AA l j)) 0 l.length<;>rfl
 grind [AD,AA]
theorem rX(h:VS t r c)(q:Ez x):Il t r x c=some (Cm t r x c):=by
 have H:=h.g.ec;have I:=h.g.ei;have x1:=q.ec;have J:=q.ei;have K:=q.vals;unfold Il;rw[Qw (fun i=>AF.mk (d5.mk (N3 r x i) x.d5.d4) (NI t r x i)) (a:=0) (b:=r.ee.d5.d3.length) (by omega)]
 .rw[Bt,Qw (fun i=>AF.mk (d5.mk (N3 r x r.ee.d5.d3.length) (Ph r c x i)) (NI t r x r.ee.d5.d3.length)) (a:=0) (b:=r.ee.d5.d4.length) (by omega)]
  .rfl
  .grind[Ph,BL]
  .intro i e f;have y:=Kv (l:=r.o3.d4) e;have he:=h.g.fit _ (AI e f);have z:=h.cn;rw[a6 (by simpa using f),Ug,bs];by_cases hi:i∈r.o3.d4
   .grind[B4,Ph,Dg,Ay]
   .have o:hasB r.o3.d4 i=false:=by cases o:hasB r.o3.d4 i with|false=>rfl|true=>exact absurd (B4.1 o) hi
    rw [o,a6 (by decide),AD e f,bs,AD he.2.1.1 (by omega),bs,AD he.2.2.1 (by omega),bs,AY (by unfold Ph;simp;unfold AZ;omega),bs];unfold Ph;rw[Dg _ _ e,ae hi,Ay (by simp;omega) (by simp;omega),ci];rfl
  .rw[ae (by simp)]
 .unfold N3 NI;simp[BL]
 .intro i e f;have y:=Kv (l:=r.o3.d3) e;have u:=AI e f;have w:=h.kind _ u;have N:=oM h u;rw[a6 (by simpa using f),Ug,bs];by_cases hi:i∈r.o3.d3
  .grind[B4,N3,NI,Dg,Ay]
  .have o:hasB r.o3.d3 i=false:=by cases o:hasB r.o3.d3 i with|false=>rfl|true=>exact absurd (B4.1 o) hi
   rw [o,ae (by decide),AD e f,bs,AY (by unfold N3;simp;unfold AZ;omega),bs,bs,Rt h.hf,Jn h.hv w.1 w.2,bs];simp;rw[Od (F:=fun a=>a.Low) fun j s D E G=>?_]
   .rw[bs,AY (by unfold NI;simp;unfold AZ;omega),bs];unfold N3 NI;rw[Dg _ _ e,ae hi,Dg _ _ e,ae hi,Ay (by omega) (by omega),ci,ci];rfl
   grind [AD,AY,AZ]
 .rw[ae (by simp)]
theorem oc(hf:Az t)(hv:(A7 t).2=0){k:Int}(e:0<=k)(b:k<t.d3.length):KN t k=some (Td t k):=by
 have:=HH hf (Int.le_refl _) (C4 hv).par b;unfold KN;rw[Rs hf,Jn hv e b,bs];simp;rw[Od (F:=fun a=>a.Low) fun j s f o q=>?_]
 .rfl
 grind [AD,AY,AZ]
structure Y8(h:AF)(d:At):Prop where
 sm:Ez h
 len:h.ed.length=h.d5.d3.length
 ec:(∀x∈d.d3,0<=x/\x<h.d5.d3.length)/\d.d3.length<=1000
 ei:(∀x∈d.d4,0<=x/\x<h.d5.d4.length)/\d.d4.length<=1000
 ends:∀e∈h.d5.d4,(0≤e.ib/\e.ib<h.d5.d3.length)/\0≤e.To/\e.To<h.d5.d3.length
variable{h:AF}
theorem YK{d:At}(hd:Y8 h d):Ez (CB h d):=by
 have e:=hd.ec.2;have f:=hd.ei.2;refine⟨by unfold CB;simp;omega,by unfold CB;simp;omega,by unfold CB;simp;omega,fun v hv=>?_⟩;obtain⟨x,b,rfl⟩:=List.mem_map.1 hv;have:=hd.ec.1 x b;exact hd.sm.rows _ (AI this.1 (by rw[hd.len];exact this.2))
variable{R:eg}{M:AL}{C:d6}
theorem oX{d:At}(o:VS t R C)(hd:Y8 h d)(F:C.d4.length=R.ee.d5.d4.length)
  (u:∀i:Int,0<=i->i<R.ee.d5.d3.length->(AA C.d3 i=d.d3.length+(BL R.o3.d3 i).length↔i∉R.o3.d3))
  (w:∀i:Int,0<=i->i<R.ee.d5.d4.length->(AA C.d4 i=d.d4.length+(BL R.o3.d4 i).length↔i∉R.o3.d4)):
  Is t (AP.mk R M h (AF.mk (d5.mk [] []) []) (Ft h d) C) d=some (AP.mk R M h (Cm t R (CB h d) C) (Ft h d) C):=by
 have G:=hd.ec.2;have H:=hd.ei.2;have I:=o.g.ec;have J:=o.g.ei;have D:=o.cn;unfold Is;simp only[];rw[Bo (fun i=>AP.mk R M h (AF.mk (d5.mk ((d.d3.take i.toNat).map (AA h.d5.d3)) []) ((d.d3.take i.toNat).map (AA h.ed))) (Ft h d) C) (by omega) (by simp)]
 rotate_left
 .intro i b f;have j:=hd.ec.1 _ (AI b f);have q:=hd.len;have y:=hd.sm.rows _ (AI j.1 (by omega));rw[AD b f,bs,AD j.1 j.2,bs,AY (by simp;unfold AZ;omega),bs,AD j.1 (by omega),bs,Bm (by unfold AZ;omega),bs,AY (by simp;unfold AZ;omega),bs,IG b f,IG b f]
 rw [bs,Int.toNat_natCast,List.take_length];rw[Bo (fun i=>AP.mk R M h (AF.mk (d5.mk (d.d3.map (AA h.d5.d3)) ((d.d4.take i.toNat).map fun x=>U2 (Ft h d).d3 (AA h.d5.d4 x))) (d.d3.map (AA h.ed))) (Ft h d) C) (by omega) (by simp)]
 rotate_left
 .intro i b f;have j:=hd.ei.1 _ (AI b f);have he:=hd.ends _ (AI j.1 j.2);have q:(Ft h d).d3.length=h.d5.d3.length:=Jt _ _;simp only[];rw[AD b f,bs,AD j.1 j.2,bs,AD he.1.1 (by omega),bs,AD he.2.1 (by omega),bs,AY (by simp;unfold AZ;omega),bs,IG b f];rfl
 rw [bs,Int.toNat_natCast,List.take_length];rw[Bo (fun i=>AP.mk R M h (AF.mk (d5.mk (N3 R (CB h d) i) (CB h d).d5.d4) (NI t R (CB h d) i)) (Ft h d) C) (by omega) (by unfold N3 NI;simp[BL,CB])]
 rotate_left
 .intro i b f;have y:=Kv (l:=R.o3.d3) b;have E:=AI b f;have z:=o.kind _ E;have q:(N3 R (CB h d) i).length=d.d3.length+(BL R.o3.d3 i).length:=by unfold N3 CB;simp
  have s:(NI t R (CB h d) i).length=d.d3.length+(BL R.o3.d3 i).length:=by unfold NI CB;simp
  simp only[q];rw[AD b f,bs,AD b (by omega),bs];by_cases hi:i∈R.o3.d3
  .rw[ae (by rw[t2];push_cast;exact fun e=>(u i b f).1 e hi)];unfold N3 NI;rw[Dg _ _ b,a6 hi,List.append_nil,Dg _ _ b,a6 hi,List.append_nil]
  .rw[a6 (by rw[t2];push_cast;exact(u i b f).2 hi),AY (by rw[q];simp;unfold AZ;omega),bs,oc o.hf o.hv z.1 z.2,bs,AY (by rw[s];simp;unfold AZ;omega),bs];unfold N3 NI;rw[Dg _ _ b,ae hi,Dg _ _ b,ae hi,ci,ci]
 rw [bs];rw[Bo (fun i=>AP.mk R M h (AF.mk (d5.mk (N3 R (CB h d) R.ee.d5.d3.length) (Ph R C (CB h d) i)) (NI t R (CB h d) R.ee.d5.d3.length)) (Ft h d) C) (by omega) (by unfold Ph;simp[BL,CB])]
 rotate_left
 .intro i b f;have y:=Kv (l:=R.o3.d4) b;have he:=o.g.fit _ (AI b f);have q:(Ph R C (CB h d) i).length=d.d4.length+(BL R.o3.d4 i).length:=by unfold Ph CB;simp
  simp only[q];rw[AD b f,bs,AD b (by omega),bs];by_cases hi:i∈R.o3.d4
  .rw[ae (by rw[t2];push_cast;exact fun e=>(w i b f).1 e hi)];unfold Ph;rw[Dg _ _ b,a6 hi,List.append_nil]
  .rw[a6 (by rw[t2];push_cast;exact(w i b f).2 hi),AD he.2.1.1 (by omega),bs,AD he.2.2.1 (by omega),bs,AY (by rw[q];simp;unfold AZ;omega),bs];unfold Ph;rw[Dg _ _ b,ae hi,ci];rfl
 rw [bs];rfl
theorem cG(hf:Az t){d:At}(hh:(FE t h).2=0)(q:Em h.d5 d=0)(hd:Y8 h d):Gv t h d=some (CB h d,0):=by
 have s:=hd.ec.2;unfold Gv;rw[WQ hf,bs,ae (by simp[hh]),YB ⟨hd.ec.2,hd.ei.2⟩,ae (by simp[q]),bs,ae (by simp)];have e:N8 h.d5 d=(CB h d).d5:=by
  unfold N8 CB;congr 1;refine List.map_congr_left fun x f=>?_;have f:=hd.ei.1 x f;have he:=hd.ends _ (AI f.1 f.2)
  grind [U2,Ft,Su]
 simp;rw[Qw (fun i=>AF.mk (N8 h.d5 d) ((d.d3.take i.toNat).map (AA h.ed))) (a:=0) (b:=d.d3.length) (by omega) (by simp)]
 .rw[Int.toNat_natCast,List.take_length,Bt,e];rfl
 .intro i o j;have f:=hd.ec.1 _ (AI o j);have u:=hd.len;have w:=hd.sm.rows _ (AI f.1 (by omega));rw[a6 (by simpa using j),AD o j,bs,AD f.1 (by omega),bs,Bm (by unfold AZ;omega),bs,AY (by simp;unfold AZ;omega),bs,IG o j,Ay (by simp;omega) (by simp;omega)]
 .rw[ae (by simp)]
end Go.Sf.Sc
namespace Go.Sf.Sc
open Go Go.Sf
def QC(c:d6)(vars:Fp)(s:CP):(Int×Int)×Int:=((AA c.d3 s.po,s.kg),DI s.gn vars)
def CD(r:eg)(c:d6)(vars:Fp):BX:=r.ee.em.map (QC c vars)
def MS(t:AC)(x:AF)(p:(Int×Int)×Int):Bool:=
 decide (p.2<(AA (A6 t (AA x.d5.d3 p.1.1)) p.1.2).Low)||decide ((AA (A6 t (AA x.d5.d3 p.1.1)) p.1.2).z5<p.2)
structure T8(t:AC)(r:eg)(c:d6)(vars:Fp)(x:AF):Prop where
 hf:Az t
 hv:(A7 t).2=0
 few:r.ee.em.length<=1000
 fewv:vars.length<=1000
 slot:∀s∈r.ee.em,(0<=s.po/\s.po<c.d3.length)/\(-1<=s.gn.Var/\s.gn.Var<vars.length)/\
  (0<=AA c.d3 s.po/\AA c.d3 s.po<x.d5.d3.length)/\(0<=s.kg/\s.kg<(A6 t (AA x.d5.d3 (AA c.d3 s.po))).length)
 kind:∀n∈x.d5.d3,0<=n/\n<t.d3.length
 AbK:x.ed.length=x.d5.d3.length
 rows:∀i:Int,0<=i->i<x.d5.d3.length->(AA x.ed i).length=(A6 t (AA x.d5.d3 i)).length
variable{L:BX}{i:Int}
theorem eX(b:0<=i)(e:i<=L.length)(h:∀j,0<=j->j<i->ll (fun k=>decide ((AA L k).1=(AA L j).1)&&!decide ((AA L k).2=(AA L j).2)) 0 j=false):R5 (L.take i.toNat):=by grind[XT,Px,BV,bk,Va,Hj]
def Ux(L:BX)(i:Int):Bool:=ll (fun k=>decide ((AA L k).1=(AA L i).1)&&!decide ((AA L k).2=(AA L i).2)) 0 i
theorem kL(F:0<=i)(G:i<L.length)(s:R5 (L.take i.toNat)):
  (((Po (L.take i.toNat)).look (AA L i).1).isSome&&(!decide (((Po (L.take i.toNat)).look (AA L i).1).getD 0=(AA L i).2)))=Ux L i:=by
 obtain ⟨H,w,I⟩:=dH _ s;unfold Ux;cases u:(Po (L.take i.toNat)).look (AA L i).1 with
 |none=>
  rw [Option.isSome_none,Bool.false_and];refine Eq.symm (BV.2 fun k o q=>?_);have f:AA L k∈L.take i.toNat:=by
   rw [<-Hj (n:=i.toNat) (by omega)]
   grind [AI,bk]
  rw [decide_eq_false (X0 u _ ((w _).2 f)),Bool.false_and]
 |some v=>
  have f:=(w _).1 (Tc u);rw[Option.isSome_some,Bool.true_and,Option.getD_some];have b:∀k,0<=k->k<i->(AA L k).1=(AA L i).1->(AA L k).2=v:=fun k o q e=>by
   have z:AA L k∈L.take i.toNat:=by
    rw [<-Hj (n:=i.toNat) (by omega)]
    grind [AI,bk]
   exact s _ z _ f e
  obtain ⟨k,o,q,y⟩:=Bb f;rw[bk]at q;rw[Hj (by omega)]at y;rw[Bool.eq_iff_iff,D4];constructor
  .intro h;refine⟨k,o,by omega,?_⟩;rw[y,decide_eq_true rfl,Bool.true_and];exact h
  .rintro⟨j,D,E,h⟩;rw[o4,t2]at h;rw[<-b j D E h.1];exact h.2
theorem Om(r:eg)(c:d6)(vars:Fp)(b:0<=i)(e:i<r.ee.em.length):AA (CD r c vars) i=QC c vars (AA r.ee.em i):=Nh b e
theorem KK(r:eg)(c:d6)(vars:Fp):(CD r c vars).length=r.ee.em.length:=ca ..
variable{ρ:Type}
theorem Zj(L:BX)(v:ρ):fst (fun i=>if Ux L i=true then some v else none) 0 L.length=if Px L=true then some v else none:=NQ
variable{t:AC}{R:eg}{M:AL}{B A:AF}{T C:d6}
theorem fP(h:T8 t R C M.fa A):IL (AP.mk R M B A T C)=some (if Px (CD R C M.fa)=true then([],11)else(Po (CD R C M.fa),0)):=by
 unfold IL;simp only[];rw[Hk (a:=0) (s:=([]:BX)) (fun i=>Po ((CD R C M.fa).take i.toNat)) (fun i=>if Ux (CD R C M.fa) i=true then some ([],11)else none) (by omega) rfl]
 .have:=Zj (CD R C M.fa) (([],11):BX×Int);rw[KK]at this;rw[this];by_cases e:Px (CD R C M.fa)=true
  .rw[a6 e,a6 e];rfl
  .rw[ae e,ae e,<-KK R C M.fa,Int.toNat_natCast,List.take_length];rfl
 .intro i b f y;have o:=h.slot _ (AI b f);have z:R5 ((CD R C M.fa).take i.toNat):=eX b (by rw[KK];omega) fun j u w=>by
   have:=y j u w;split at this
   .cases this
   .rename_i e;exact Bool.eq_false_iff.2 e
  have q:=kL (L:=CD R C M.fa) b (by rw[KK];exact f) z;rw[AD b f,bs,aM o.2.1.1 o.2.1.2 h.fewv,bs,ae (by simp),AD o.1.1 o.1.2,bs];rw[Om R C M.fa b f]at q;simp[QC]at q;simp only[];by_cases e:Ux (CD R C M.fa) i=true
  .refine(a6 (q.trans e)).trans ?_;rw[a6 e];rfl
  .refine(ae (fun h=>e (q.symm.trans h))).trans ?_;rw[ae e,BS b (by rw[KK];exact f),aF,Om R C M.fa b f];rfl
variable{α:Type}
theorem dJ{f:α->K1}{g:α->Bool}:∀{l:List α},(∀p∈l,f p=some (g p))->Aaq f l=some (l.all g)
 |[],_=>rfl|p::r,h=>by
  unfold Aaq;rw[h p List.mem_cons_self,bs,dJ fun q b=>h q (List.mem_cons_of_mem _ b),bs,List.all_cons]
variable{r:eg}{c:d6}{x:AF}{V:List Fp}
theorem bI{vars:Fp}(h:T8 t r c vars x){s:CP}(q:s∈r.ee.em)(u:Lz V x.ed):
  idx V (AA c.d3 s.po)=some (AA V (AA c.d3 s.po))/\idx (AA V (AA c.d3 s.po)) s.kg=some (AA (AA V (AA c.d3 s.po)) s.kg):=by
 have f:=h.slot s q;have hv:=h.AbK;have D:=h.rows _ f.2.2.1.1 f.2.2.1.2;have w:idx x.ed (AA c.d3 s.po)=some (AA x.ed (AA c.d3 s.po)):=AD f.2.2.1.1 (by omega);have y:idx (AA x.ed (AA c.d3 s.po)) s.kg=some (AA (AA x.ed (AA c.d3 s.po)) s.kg):=AD f.2.2.2.1 (by omega);obtain⟨z,x',a,b⟩:=u.idx w y;have j:=G6 a;have o:=G6 b;have E:=(List.getElem?_eq_some_iff.1 j.2.2).1;have e:AA V (AA c.d3 s.po)=z:=by
  grind [AD,Option.some.inj]
 have F:=(List.getElem?_eq_some_iff.1 o.2.2).1;refine⟨AD j.1 (by omega),?_⟩;rw[e];exact AD o.1 (by omega)
theorem kS(h:T8 t R C M.fa A){p:(Int×Int)×Int}(j:p∈CD R C M.fa):Oy t (AP.mk R M B A T C) p=some (!MS t A p):=by
 obtain ⟨s,f,rfl⟩:=List.mem_map.1 j;have b:=h.slot s f;have e:=h.kind _ (AI b.2.2.1.1 b.2.2.1.2);obtain⟨o,q⟩:=bI h f (V:=A.ed) rfl;unfold Oy Ox QC MS;simp;rw[AD b.2.2.1.1 b.2.2.1.2,bs,Rs h.hf,Jn h.hv e.1 e.2,bs];simp;simp[AD b.2.2.2.1 b.2.2.2.2,o,q,UJ]
 grind
def Iy(t:AC)(x:AF)(L:BX):AF×Int:=
 if Px L=true then(⟨⟨[],[]⟩,[]⟩,11)else if L.any (MS t x)=true then(⟨⟨[],[]⟩,[]⟩,6)else(⟨x.d5,L.foldl CR x.ed⟩,0)
theorem rC(h:T8 t R C M.fa A):Lv t (AP.mk R M B A T C)=some ((Iy t A (CD R C M.fa)).2,if(Iy t A (CD R C M.fa)).2=0 then AP.mk R M B (Iy t A (CD R C M.fa)).1 T C else AP.mk R M B A T C):=by
 unfold Lv Iy;rw[fP h,bs];by_cases e:Px (CD R C M.fa)=true
 .grind
 .rw[ae e,ae (by simp),ae e];obtain⟨j,o,q⟩:=dH _ (XT (Bool.eq_false_iff.2 e));have f:Aaq (Oy t (AP.mk R M B A T C)) (Po (CD R C M.fa))=some (!(CD R C M.fa).any (MS t A)):=by
   rw [dJ (g:=fun p=>!MS t A p) fun p b=>kS h ((o p).1 b)]
   grind
  rw [a6 (by simpa using(show List.Pairwise (fun x y:(Int×Int)×Int=>x.1≠y.1) _ from j)),f,bs]
  grind [CD,MS,OL]
theorem vM{vars:Fp}(h:T8 t r c vars x):Js t r x c vars=some (Iy t x (CD r c vars)):=by
 unfold Js Iy;rw[Hk (a:=0) (s:=AF.mk (d5.mk [] []) []) (fun _=>AF.mk (d5.mk [] []) []) (fun i=>if Ux (CD r c vars) i=true then some (AF.mk (d5.mk [] []) [],(11:Int))else none) (by omega) rfl]
 .have:=Zj (CD r c vars) ((AF.mk (d5.mk [] []) [],(11:Int)));rw[KK]at this;rw[this];by_cases e:Px (CD r c vars)=true
  .rw[a6 e,a6 e];rfl
  rw [ae e,ae e];show ek (some (Sum.inl _)) _ _=_;rw[Bt,Hk (a:=0) (s:=(x,AF.mk (d5.mk [] []) [])) (fun i=>(AF.mk x.d5 (((CD r c vars).take i.toNat).foldl CR x.ed),AF.mk (d5.mk [] []) [])) (fun i=>if MS t x (AA (CD r c vars) i)=true then some (AF.mk (d5.mk [] []) [],(6:Int))else none) (by omega) rfl]
  .have:=cx (l:=CD r c vars) (q:=MS t x) (v:=(AF.mk (d5.mk [] []) [],(6:Int)));rw[KK]at this;rw[this];by_cases f:(CD r c vars).any (MS t x)=true
   .rw[a6 f,a6 f];rfl
   .rw[ae f,ae f];show some (AF.mk x.d5 (((CD r c vars).take (r.ee.em.length:Int).toNat).foldl CR x.ed),(0:Int))=_
    grind [KK,Int.toNat_natCast,List.take_length]
  .intro i j o _;have z:=AI j o;have b:=h.slot _ z;have u:=h.kind _ (AI b.2.2.1.1 b.2.2.1.2);obtain⟨E,F⟩:=bI h z (V:=((CD r c vars).take i.toNat).foldl CR x.ed) (Z0 _ _);simp only[AD j o,bs];rw[Oj b.2.1.1 b.2.1.2,bs,AD b.1.1 b.1.2,bs,AD b.2.2.1.1 b.2.2.1.2,bs,Rt h.hf,Jn h.hv u.1 u.2,bs];simp only[];rw[AD b.2.2.2.1 b.2.2.2.2,bs,bs,UJ,bs,E,bs,F,bs];rw[Om r c vars j o,BS j (by rw[KK];exact o),List.foldl_append,Om r c vars j o];show(if(MS t x (QC c vars (AA r.ee.em i)))=true then _ else _)=_;by_cases f:MS t x (QC c vars (AA r.ee.em i))=true
   .rw[a6 f,a6 f];rfl
   .rw[ae f,ae f];have:=Zt (p:=QC c vars (AA r.ee.em i)) E F;exact congrArg (fun W=>some (CC.next (σ:=AF×AF) (ρ:=AF×Int) (AF.mk x.d5 W,AF.mk (d5.mk [] []) []))) this
 .intro i j o _;have b:=h.slot _ (AI j o);rw[AD j o,bs,Oj b.2.1.1 b.2.1.2,bs];rw[Hk (a:=0) (s:=AF.mk (d5.mk [] []) []) (fun _=>AF.mk (d5.mk [] []) []) (fun k=>if(decide ((AA (CD r c vars) k).1=(AA (CD r c vars) i).1)&&!decide ((AA (CD r c vars) k).2=(AA (CD r c vars) i).2))=true then some (AF.mk (d5.mk [] []) [],(11:Int))else none) j rfl]
  .rw[NQ];unfold Ux;split<;>rfl
  .intro k w H _;have u:=h.slot _ (AI w (show k<r.ee.em.length by omega));simp[AD j o,AD w (show k<r.ee.em.length by omega)];rw[Oj u.2.1.1 u.2.1.2,bs,AD u.1.1 u.1.2,bs,AD b.1.1 b.1.2,bs,Om r c vars j o,Om r c vars w (by omega)];simp[QC];by_cases D:AA c.d3 (AA r.ee.em k).po=AA c.d3 (AA r.ee.em i).po<;>by_cases f:(AA r.ee.em k).kg=(AA r.ee.em i).kg<;>by_cases y:DI (AA r.ee.em i).gn vars=DI (AA r.ee.em k).gn vars
   all_goals first|(have G:¬DI (AA r.ee.em k).gn vars=DI (AA r.ee.em i).gn vars:=fun h=>y h.symm;simp[D,f,y,G,dj];done)|(simp[D,f,y,dj];done)
end Go.Sf.Sc
namespace Go.Sf.Sc
open Go Go.Sf
variable{t:AC}{r:eg}
theorem WX(h:FU t r=0):ID t r.gt=0/\Kd t r=0/\Nr t r.gt r.d7=0:=by grind[FU]
theorem cK(h:Kd t r=0):r.ee.fa=r.gt.fa/\r.ee.em.length<=10/\∀i:Int,0<=i->i<r.ee.em.length->PF t r.ee i=0:=by
 unfold Kd at h;split at h
 .omega
 split at h
 .cases h
 split at h
 .cases h
 split at h
 .cases h
 rename_i b e f j;exact⟨by omega,by omega,Vq h⟩
variable{i:Int}
theorem fi{p:ea}(h:PF t p i=0):(0<=(AA p.em i).po/\(AA p.em i).po<p.d5.d3.length)/\
  (0<=(AA p.em i).kg/\(AA p.em i).kg<(G3 t (AA p.d5.d3 (AA p.em i).po)).1.length)/\-1<=(AA p.em i).gn.Var/\(AA p.em i).gn.Var<p.fa:=by
 unfold PF at h;dsimp only at h;split at h
 .cases h
 split at h
 .cases h
 rename_i e b;simp[t2]at b;omega
structure HT(t:AC)(r:eg)(h:AF)(m:AL):Prop where
 hf:Az t
 fr:Jw r
 re:FU t r=0
 he:(FE t h).2=0
 at_:VP t r.gt h m
 co:ZP (ST r.gt.d5 h.d5 m.d6) h.d5 r.pq m.d6
abbrev dS(r:eg)(h:AF)(m:AL):At:=M5 h.d5 r.pq m.d6
abbrev cS(r:eg)(h:AF)(m:AL):d6:=xV r h m.d6 (dS r h m)
variable{h:AF}{m:AL}
theorem HT.hv(s:HT t r h m):(A7 t).2=0:=(df s.re).1
theorem HT.ro(s:HT t r h m):gK t r:=(df s.re).2
theorem HT.hh(s:HT t r h m):Hr t h:=(QH s.hf s.he).2
theorem P1(hf:Az t)(hv:(A7 t).2=0)(hh:Hr t h):Ez h:=by
 have f:=hh.g.ec;have j:=hh.g.ei;have o:=hh.len;refine⟨by omega,by omega,by omega,fun v b=>?_⟩;obtain⟨i,e,u,rfl⟩:=Bb b;have q:=hh.row i e (by omega);have s:=HH hf (Int.le_refl _) (C4 hv).par (hh.kind i e (by omega)).2;omega
theorem HT.rem(s:HT t r h m):Y8 h (dS r h m):=by
 have hh:=s.hh;have f:=hh.g.ec;have j:=hh.g.ei;have l1:=RS (Ek m.d6.d3 r.pq.d3) h.d5.d3.length;have l2:=RS (Ek m.d6.d4 r.pq.d4) h.d5.d4.length;exact⟨P1 s.hf s.hv hh,hh.len,⟨fun x b=>Fm b,by show(BL _ _).length<=1000;omega⟩,⟨fun x b=>Fm b,by show(BL _ _).length<=1000;omega⟩,fun e he=>(hh.g.fit e he).2⟩
theorem HT.part(s:HT t r h m):Em h.d5 (dS r h m)=0:=by
 unfold Em;rw[ae (by simp[s.hh.ge])];exact jP s.co
variable{count n:Nat}
theorem gc{ff into fd:Fp}{BC:Fp}(few:count<=1000)(nodup:into.Nodup)(len:into.length=ff.length)(inn:∀x∈into,0<=x/\x<count)
  (kin:∀x∈ff,0<=x/\x<fd.length)(f:∀x∈fd,0<=x/\x<n)(hi:Aak fd ff=false)(j:BC=Ek fd ff):
  T6 count ff into (fd.map (AA (H6 n (BL BC n))))/\(∀x∈ff,AA (fd.map (AA (H6 n (BL BC n)))) x<(BL BC n).length)/\
  ∀x∈ff,AA (fd.map (AA (H6 n (BL BC n)))) x=DJ (BL BC n) (AA fd x)/\AA fd x∈BL BC n:=by
 have e:∀x∈ff,AA (fd.map (AA (H6 n (BL BC n)))) x=DJ (BL BC n) (AA fd x)/\AA fd x∈BL BC n:=fun x b=>by
  grind [AI,Nh,Su,P9,Tb]
 refine ⟨⟨few,nodup,len,inn,fun x b=>by rw[ca];exact kin x b,fun x b=>?_⟩,fun x b=>?_,e⟩
 .rw[(e x b).1];exact Ny.2 (e x b).2
 .rw[(e x b).1];exact(QI _ _).2
theorem HT.left(s:HT t r h m):m.d6.d3.length=r.gt.d5.d3.length/\m.d6.d4.length=r.gt.d5.d4.length:=⟨s.at_.m.tn,s.at_.m.wj⟩
theorem HT.AbI(s:HT t r h m):T6 r.ee.d5.d3.length r.pq.d3 r.o3.d3 (m.d6.d3.map (AA (Ft h (dS r h m)).d3))/\
  (∀x∈r.pq.d3,AA (m.d6.d3.map (AA (Ft h (dS r h m)).d3)) x<(dS r h m).d3.length)/\
  ∀x∈r.pq.d3,AA (m.d6.d3.map (AA (Ft h (dS r h m)).d3)) x=DJ (dS r h m).d3 (AA m.d6.d3 x)/\AA m.d6.d3 x∈(dS r h m).d3:=by
 have ro:=s.ro;have j:=ro.right.ec;refine gc (by omega) ro.inj.1 ?_ (fun x b=>?_) (fun x b=>?_) (fun x b=>?_) s.co.ec rfl
 .have:=ro.mor.tn;rw[this];exact ca ..
 .obtain⟨i,e,f,rfl⟩:=Bb b;exact(ro.mor.node i e f).1
 .have:=ro.part.ec.1 x b;have:=s.left.1;omega
 .obtain⟨i,e,f,rfl⟩:=Bb b;exact(s.at_.m.node i e f).1
theorem HT.AbO(s:HT t r h m):T6 r.ee.d5.d4.length r.pq.d4 r.o3.d4 (m.d6.d4.map (AA (Ft h (dS r h m)).d4))/\
  (∀x∈r.pq.d4,AA (m.d6.d4.map (AA (Ft h (dS r h m)).d4)) x<(dS r h m).d4.length)/\
  ∀x∈r.pq.d4,AA (m.d6.d4.map (AA (Ft h (dS r h m)).d4)) x=DJ (dS r h m).d4 (AA m.d6.d4 x)/\AA m.d6.d4 x∈(dS r h m).d4:=by
 have ro:=s.ro;have j:=ro.right.ei;refine gc (by omega) ro.inj.2 ?_ (fun x b=>?_) (fun x b=>?_) (fun x b=>?_) s.co.ei rfl
 .have:=ro.mor.wj;rw[this];exact ca ..
 .obtain⟨i,e,f,rfl⟩:=Bb b;exact(ro.mor.edge i e f).1
 .have:=ro.part.ei.1 x b;have:=s.left.2;omega
 .obtain⟨i,e,f,rfl⟩:=Bb b;exact s.at_.m.edge i e f
theorem cc{ff into at_:Fp}(h:T6 count ff into at_)(b:∀x∈ff,AA at_ x<n)(f:0<=i)(j:i<count):AA (TP count ff into at_ n) i=n+(BL into i).length↔i∉into:=by
 rw [gZ f j];constructor
 .intro e hi;rw[Rh hi]at e;have o:=IF hi;have:=b _ (AI (l:=ff) o.1 (by have:=h.len;omega));omega
 .exact SD
theorem HT.grow(s:HT t r h m):VS t r (cS r h m):=
 ⟨s.hf,s.hv,s.ro.right,(Gx s.ro.right s.ro.Aa7).1,Wi _ _ _ _ _⟩
theorem Ui(l:Fp)(b:0<=i):∀(k:Nat),∃s,BL l (i+k)=BL l i++s
 |0=>⟨[],by simp⟩|k+1=>by
  obtain ⟨s,e⟩:=Ui l b k
  grind [OF,ci]
variable{l:Fp}
theorem lf{i n:Int}(b:0<=i)(f:i<n)(h:i∉l):AA (BL l n) (BL l i).length=i/\((BL l i).length:Int)<(BL l n).length:=by
 obtain ⟨s,e⟩:=Ui l (i:=i+1) (by omega) (n-(i+1)).toNat
 rw [show i+1+((n-(i+1)).toNat:Int)=n by omega,OF l b]at e
 grind [hasB,B4,AA]
variable{α:Type}
theorem gU[Inhabited α]{l m:List α}(b:0<=i)(e:i<l.length):AA (l++m) i=AA l i:=by grind[NO]
theorem qL[Inhabited α]{l m:List α}:AA (l++m) (l.length+n:Int)=AA m n:=by grind[NO,AA,Int.toNat_natCast]
variable{a:Int}
theorem kc(h:0<=a):GD t a a=true:=by
 unfold GD;rw[show(a+1).toNat=a.toNat+1 by omega,Jl,ae (by omega)];simp
theorem HT.Abs(s:HT t r h m)(o:0<=i)(q:i<r.ee.d5.d3.length):
  (0<=AA (cS r h m).d3 i/\AA (cS r h m).d3 i<(Cm t r (CB h (dS r h m)) (cS r h m)).d5.d3.length)/\
  AA (Cm t r (CB h (dS r h m)) (cS r h m)).d5.d3 (AA (cS r h m).d3 i)<t.d3.length/\GD t (AA (Cm t r (CB h (dS r h m)) (cS r h m)).d5.d3 (AA (cS r h m).d3 i)) (AA r.ee.d5.d3 i)=true:=by
 obtain ⟨E,J,c3⟩:=s.AbI;have F:AA (cS r h m).d3 i=Qe r.pq.d3 r.o3.d3 (m.d6.d3.map (AA (Ft h (dS r h m)).d3)) (dS r h m).d3.length i:=gZ o q;have el:(Cm t r (CB h (dS r h m)) (cS r h m)).d5.d3=(dS r h m).d3.map (AA h.d5.d3)++(ES r).map (AA r.ee.d5.d3):=rfl;rw[F,el,ba,ca,ca];by_cases hi:i∈r.o3.d3
 .have b:=IF hi;have K:=E.len;have f:=AI (l:=r.pq.d3) b.1 (by omega);have y:=c3 _ f;have z:=J _ f;have u:=E.pos _ f;rw[Rh hi];refine⟨⟨u,by push_cast;omega⟩,?_⟩;rw[gU u (by rw[ca];exact z),Nh u z,y.1,(IF y.2).2.2.1];have j:=s.ro.part.ec.1 _ f;have G:=s.left.1;have w:=s.at_.m.node _ j.1 (by omega);have H:=s.hh.kind _ w.1.1 w.1.2;have D:=s.ro.mor.node _ b.1 b.2.1;rw[b.2.2.1]at D;have I:AA (N8 r.gt.d5 r.pq).d3 (DJ r.o3.d3 i)=AA r.gt.d5.d3 (AA r.pq.d3 (DJ r.o3.d3 i)):=Nh b.1 (by omega);rw[D.2,I];exact⟨H.2,w.2⟩
 .have j:=lf o q hi;rw[SD hi];have e:((dS r h m).d3.map (AA h.d5.d3)).length=(dS r h m).d3.length:=ca ..;refine⟨⟨by omega,?_⟩,?_⟩
  .have:((ES r).length:Int)=(BL r.o3.d3 r.ee.d5.d3.length).length:=rfl
   push_cast
   omega
  .rw[<-e,qL,show ES r=BL r.o3.d3 r.ee.d5.d3.length from rfl,Nh (by omega) j.2];show AA r.ee.d5.d3 (AA (BL r.o3.d3 r.ee.d5.d3.length) (BL r.o3.d3 i).length)<(t.d3.length:Int)/\GD t (AA r.ee.d5.d3 (AA (BL r.o3.d3 r.ee.d5.d3.length) (BL r.o3.d3 i).length)) _=true;rw[j.1];have:=(Gx s.ro.right s.ro.Aa7).1 _ (AI o q);exact⟨this.2,kc this.1⟩
theorem HT.rows(s:HT t r h m):(Cm t r (CB h (dS r h m)) (cS r h m)).ed.map (fun v=>v.length)=(Cm t r (CB h (dS r h m)) (cS r h m)).d5.d3.map fun n=>(A6 t n).length:=by
 show (List.map _ (_++_))=List.map _ (_++_);rw[List.map_append,List.map_append];congr 1
 .show((dS r h m).d3.map (AA h.ed)).map _=((dS r h m).d3.map (AA h.d5.d3)).map _;rw[List.map_map,List.map_map];refine List.map_congr_left fun x b=>?_;have b:=s.rem.ec.1 x b;exact s.hh.row x b.1 b.2
 grind [List.map_map,List.map_congr_left,Td,ca]
theorem HT.put(s:HT t r h m):T8 t r (cS r h m) m.fa (Cm t r (CB h (dS r h m)) (cS r h m)):=by
 obtain ⟨O,G,P⟩:=WX s.re;obtain⟨hv,Q,y⟩:=cK G;have J:=s.at_.q.vars;have z:=s.at_.len;have u:=s.rows;have w:(Cm t r (CB h (dS r h m)) (cS r h m)).ed.length=(Cm t r (CB h (dS r h m)) (cS r h m)).d5.d3.length:=by
  grind [List.length,ca]
 refine ⟨s.hf,s.hv,by omega,by omega,fun x b=>?_,fun n e=>?_,w,fun i f o=>?_⟩
 .obtain⟨i,f,o,rfl⟩:=Bb b;obtain⟨j,H,S⟩:=fi (y i f o);have D:=(Gx s.ro.right s.ro.Aa7).1 _ (AI j.1 j.2);rw[Jn s.hv D.1 D.2]at H;obtain⟨U,I,E⟩:=s.Abs j.1 j.2;replace E:=Xv (C4 s.hv) I E;have F:(cS r h m).d3.length=r.ee.d5.d3.length:=Wi _ _ _ _ _
  grind
 .have e:n∈(dS r h m).d3.map (AA h.d5.d3)++(ES r).map (AA r.ee.d5.d3):=e;rcases List.mem_append.1 e with e|e
  .obtain⟨x,b,rfl⟩:=List.mem_map.1 e;have b:=s.rem.ec.1 x b;exact s.hh.kind x b.1 b.2
  .obtain⟨x,b,rfl⟩:=List.mem_map.1 e;have b:=Fm b;exact(Gx s.ro.right s.ro.Aa7).1 _ (AI b.1 b.2)
 .have K:=Nh (l:=(Cm t r (CB h (dS r h m)) (cS r h m)).ed) (g:=fun v=>v.length) f (by omega);have N:=Nh (l:=(Cm t r (CB h (dS r h m)) (cS r h m)).d5.d3) (g:=fun n=>(A6 t n).length) f o
  grind
end Go.Sf.Sc
namespace Go.Sf.Sc
open Go Go.Sf
abbrev wL:eg:=eg.mk (⟨#[]⟩:ByteArray) (ea.mk (d5.mk [] []) [] 0 []) (ea.mk (d5.mk [] []) [] 0 []) (At.mk [] []) (d6.mk [] []) false (d7.mk 0 [] (d6.mk [] []) (ea.mk (d5.mk [] []) [] 0 []))
abbrev zG:AP:=AP.mk wL (AL.mk (d6.mk [] []) []) (AF.mk (d5.mk [] []) []) (AF.mk (d5.mk [] []) []) (d6.mk [] []) (d6.mk [] [])
def ZA(t:AC)(r:eg)(h:AF)(m:AL):AP×Int:=
 if (Iy t (Cm t r (CB h (dS r h m)) (cS r h m)) (CD r (cS r h m) m.fa)).2≠0 then(zG,(Iy t (Cm t r (CB h (dS r h m)) (cS r h m)) (CD r (cS r h m) m.fa)).2)else
 if 40<(Iy t (Cm t r (CB h (dS r h m)) (cS r h m)) (CD r (cS r h m) m.fa)).1.d5.d3.length\/80<(Iy t (Cm t r (CB h (dS r h m)) (cS r h m)) (CD r (cS r h m) m.fa)).1.d5.d4.length then(zG,3)else
 (AP.mk r m h (Iy t (Cm t r (CB h (dS r h m)) (cS r h m)) (CD r (cS r h m) m.fa)).1 (Ft h (dS r h m)) (cS r h m),0)
noncomputable def KY(t:AC)(r:eg)(h:AF)(m:AL):AP×Int:=
 if FU t r≠0 then(zG,FU t r)else if(FE t h).2≠0 then(zG,(FE t h).2)else
 if Gs t r.gt.d5 h.d5 m.d6 r.j4≠0 then(zG,1)else
 if (Fu t r.gt h m.d6).2≠0 then(zG,(Fu t r.gt h m.d6).2)else if¬(Fu t r.gt h m.d6).1=m.fa then(zG,11)else
 if (Nq (ST r.gt.d5 h.d5 m.d6) h.d5 r.pq m.d6).2≠0 then(zG,(Nq (ST r.gt.d5 h.d5 m.d6) h.d5 r.pq m.d6).2)else
 if (NJ t r.gt r.d7 h m r.j4).2≠0 then(zG,(NJ t r.gt r.d7 h m r.j4).2)else
 if (NJ t r.gt r.d7 h m r.j4).1=false then(zG,16)else ZA t r h m
variable{t:AC}{r:eg}{h:AF}{m:AL}
theorem Wh(b:FU t r=0)(e:(FE t h).2=0)(f:Gs t r.gt.d5 h.d5 m.d6 r.j4=0)(j:(Fu t r.gt h m.d6).2=0)(o:(Fu t r.gt h m.d6).1=m.fa):TL t r.gt r.d7 h m r.j4=0:=by
 unfold TL;rw[ae (by simp[(WX b).2.2]),ae (by simp[e]),ae (by simp[f]),ae (by simp[j]),a6 o]
theorem dA{X:Option (AP×Int)}(b:(Iy t (Cm t r (CB h (dS r h m)) (cS r h m)) (CD r (cS r h m) m.fa)).2=0->X=
   if ((decide (40<((Iy t (Cm t r (CB h (dS r h m)) (cS r h m)) (CD r (cS r h m) m.fa)).1.d5.d3.length:Int)))||(decide (80<((Iy t (Cm t r (CB h (dS r h m)) (cS r h m)) (CD r (cS r h m) m.fa)).1.d5.d4.length:Int))))=true then some (zG,3)else
   some (AP.mk r m h (Iy t (Cm t r (CB h (dS r h m)) (cS r h m)) (CD r (cS r h m) m.fa)).1 (Ft h (dS r h m)) (cS r h m),0)):
  (if(!decide ((Iy t (Cm t r (CB h (dS r h m)) (cS r h m)) (CD r (cS r h m) m.fa)).2=0))=true then some (zG,(Iy t (Cm t r (CB h (dS r h m)) (cS r h m)) (CD r (cS r h m) m.fa)).2)else X)=some (ZA t r h m):=by
 unfold ZA;refine FG fun e=>?_;rw[b e];refine Nl (by simp;omega) fun _=>rfl
theorem ig(hf:Az t)(fr:Jw r)(E:Dc r.d7<=40)(h:AF)(m:AL):HQ t r h m=some (KY t r h m):=by
 unfold HQ KM KY;rw[Oh hf,bs];by_cases hv:¬(A7 t).2=0
 .grind[FU,A7]
 have hv:=Classical.not_not.1 hv;rw[ae (by simp[hv]),iX hf fr,bs,WG hf,bs];by_cases f:¬FU t r=0
 .grind
 have f:=Classical.not_not.1 f;rw[ae (by simp[f]),bs,ae (show¬FU t r≠0 by simp[f])];refine FG fun F=>?_;rw[Option.bind_fun_some];unfold KL Jj;rw[W5 hf,bs];by_cases j:¬Gs t r.gt.d5 h.d5 m.d6 r.j4=0
 .grind
 have j:=Classical.not_not.1 j;rw[ae (by simp[j]),dL hf,bs,ae (show¬Gs t r.gt.d5 h.d5 m.d6 r.j4≠0 by simp[j])];by_cases u:¬(Fu t r.gt h m.d6).2=0
 .grind
 have u:=Classical.not_not.1 u;rw[ae (by simp[u]),J8,bs,ae (show¬(Fu t r.gt h m.d6).2≠0 by simp[u])];by_cases w:¬(Fu t r.gt h m.d6).1=m.fa
 .grind
 have w:=Classical.not_not.1 w;rw[ae (by simp[w]),bs,ae (by simp),ae (show¬¬(Fu t r.gt h m.d6).1=m.fa by simp[w])];rw[rF hf j,bs,ae (by simp),q8 fr.ff,bs];refine FG fun G=>?_;obtain⟨_,_,_,y⟩:=Vg hf E (Wh f F j u w);obtain⟨co,P⟩:=Wj G;rw[cD hf _ fr.cond E,bs,P];refine FG fun Q=>?_;refine Vh fun S=>?_;have s:HT t r h m:=⟨hf,fr,f,F,y,co⟩;have o:=s.rem;have U:=s.hh.g.ec;have W:=s.hh.g.ei;have l1:=s.left.1;have l2:=s.left.2;have X:=s.ro.left.ec;have Y:=s.ro.left.ei;have I:=y.len;have J:=y.q.vars;have D:Ji m=some m:=by
  unfold Ji slices_Clone_int;rw[Bm (by unfold AZ;omega),bs,Bm (by unfold AZ;omega),bs,Bm (by unfold AZ;omega),bs]
 simp only[];rw[D,bs,fQ o.sm,bs];rw[dR (by omega) o.ec.2 (NX _ _),bs,dR (by omega) o.ei.2 (NX _ _),bs];have K:Gc r.ee.d5.d3.length r.pq.d3 r.o3.d3 m.d6.d3 (H6 h.d5.d3.length (dS r h m).d3) (M5 h.d5 r.pq m.d6).d3.length=some (cS r h m).d3:=
  X4 s.AbI.1 (fun x z=>by rw[Jt];obtain⟨i,b,e,rfl⟩:=Bb z;exact(y.m.node i b e).1) (by omega) (Int.ofNat_le.2 o.ec.2)
 have N:Gc r.ee.d5.d4.length r.pq.d4 r.o3.d4 m.d6.d4 (H6 h.d5.d4.length (dS r h m).d4) (M5 h.d5 r.pq m.d6).d4.length=some (cS r h m).d4:=
  X4 s.AbO.1 (fun x z=>by rw[Jt];obtain⟨i,b,e,rfl⟩:=Bb z;exact y.m.edge i b e) (by omega) (Int.ofNat_le.2 o.ei.2)
 rw [K,bs,N,bs];have O:=oX (M:=m) s.grow o (Wi _ _ _ _ _) (fun i b e=>cc s.AbI.1 s.AbI.2.1 b e) (fun i b e=>cc s.AbO.1 s.AbO.2.1 b e);change ((Is t (AP.mk r m h (AF.mk (d5.mk [] []) []) (Ft h (dS r h m)) (cS r h m)) (dS r h m)).bind _)=_;rw[O,bs,rC s.put,bs];exact dA fun H=>by rw[a6 H]
variable{inj:Bool}
theorem iz(hf:Az t){p:ea}{c:d7}(b:Dc c<=40)(e:TL t p c h m inj=0):I6 t c h m inj=some (NJ t p c h m inj):=by
 obtain ⟨hv,hh,f,j⟩:=Vg hf b e
 grind [I6,NJ,wS,C1,pV,iI,lP]
theorem jI(hf:Az t)(fr:Jw r)(G:Dc r.d7<=40)(h:AF)(m:AL):FL t r h m=some (KY t r h m):=by
 unfold FL JA KY;rw[jF hf fr,bs,WQ hf,bs];by_cases b:¬FU t r=0
 .rw[a6 (by simp[b]),bs,a6 (by simp[b]),a6 b]
 have b:=Classical.not_not.1 b;rw[ae (by simp[b]),bs,ae (show¬FU t r≠0 by simp[b])];refine FG fun y=>?_;unfold Ho;rw[XB hf,bs];by_cases e:¬Gs t r.gt.d5 h.d5 m.d6 r.j4=0
 .rw[a6 (by simp[e]),bs,a6 (by simp),a6 e]
 have e:=Classical.not_not.1 e;rw[ae (by simp[e]),ou hf,bs,ae (show¬Gs t r.gt.d5 h.d5 m.d6 r.j4≠0 by simp[e])];by_cases f:¬(Fu t r.gt h m.d6).2=0
 .rw[a6 (by simp[f]),bs,a6 (by simp[f]),a6 f]
 have f:=Classical.not_not.1 f;rw[ae (by simp[f]),XA,bs,ae (show¬(Fu t r.gt h m.d6).2≠0 by simp[f])];by_cases q:¬(Fu t r.gt h m.d6).1=m.fa
 .rw[a6 (by simp[q]),bs,a6 (by simp),a6 q]
 have q:=Classical.not_not.1 q;rw[ae (by simp[q]),ae (show¬¬(Fu t r.gt h m.d6).1=m.fa by simp[q])];rw[rZ hf e,bs,ae (by simp),rS fr.ff,bs];by_cases j:¬(Nq (ST r.gt.d5 h.d5 m.d6) h.d5 r.pq m.d6).2=0
 .rw[a6 (by simp[j]),bs,a6 (by simp[j]),a6 j]
 have j:=Classical.not_not.1 j;rw[ae (by simp[j]),ae (show¬(Nq (ST r.gt.d5 h.d5 m.d6) h.d5 r.pq m.d6).2≠0 by simp[j])];have w:=Wh b y e f q;obtain⟨_,_,_,D⟩:=Vg hf G w;obtain⟨co,J⟩:=Wj j;rw[iz hf G w,bs,J,IC,bs,bs];by_cases o:¬(NJ t r.gt r.d7 h m r.j4).2=0
 .rw[ae (show¬((decide ((NJ t r.gt r.d7 h m r.j4).2=0)&&!(NJ t r.gt r.d7 h m r.j4).1)=true)by simp[o]),a6 (by simp[o]),a6 o]
 have o:=Classical.not_not.1 o;rw[ae (show¬(NJ t r.gt r.d7 h m r.j4).2≠0 by simp[o])];cases N:(NJ t r.gt r.d7 h m r.j4).1 with
 |false=>rw[a6 (show(decide ((NJ t r.gt r.d7 h m r.j4).2=0)&&!false)=true by simp[o]),a6 (by simp),a6 rfl]|true=>
 rw [ae (show¬(decide ((NJ t r.gt r.d7 h m r.j4).2=0)&&!true)=true by simp),ae (by simp[o]),ae (by simp)];have s:HT t r h m:=⟨hf,fr,b,y,D,co⟩;have u:=s.rem;have O:=s.hh.g.ec;have P:=s.hh.g.ei;have l1:=s.left.1;have l2:=s.left.2;have Q:=s.ro.left.ec;have S:=s.ro.left.ei;unfold IJ Ll;simp only[];rw[cG hf y s.part u,bs,ak (by omega) u.ec.2 ((NX _ _).imp fun h=>by omega),bs,bs,ak (by omega) u.ei.2 ((NX _ _).imp fun h=>by omega),bs,bs,bs];simp only[];rw[WN (by omega) (fun x z=>by rw[Jt];obtain⟨i,E,F,rfl⟩:=Bb z;exact(D.m.node i E F).1),bs];rw[WN (by omega) (fun x z=>by rw[Jt];obtain⟨i,E,F,rfl⟩:=Bb z;exact D.m.edge i E F),bs];have H:Fh r.pq.d3 r.o3.d3 r.ee.d5.d3.length (m.d6.d3.map (AA (H6 h.d5.d3.length (dS r h m).d3))) (M5 h.d5 r.pq m.d6).d3.length=some (cS r h m).d3:=
  YC s.AbI.1 (by omega) (Int.ofNat_le.2 u.ec.2)
 have I:Fh r.pq.d4 r.o3.d4 r.ee.d5.d4.length (m.d6.d4.map (AA (H6 h.d5.d4.length (dS r h m).d4))) (M5 h.d5 r.pq m.d6).d4.length=some (cS r h m).d4:=
  YC s.AbO.1 (by omega) (Int.ofNat_le.2 u.ei.2)
 rw [H,bs,I,bs];rw[YD (YK u),bs];change ((Il t r (CB h (dS r h m)) (cS r h m)).bind _)=_;rw[rX s.grow (YK u),bs];change ((Js t r (Cm t r (CB h (dS r h m)) (cS r h m)) (cS r h m) m.fa).bind _)=_;rw[vM s.put,bs];exact dA fun K=>rfl
end Go.Sf.Sc
namespace Go.Sf.Sc
open Go Go.Sf
instance:Inhabited eg:=⟨wL⟩
instance:Inhabited HF:=⟨⟨0,⟨⟨[],[]⟩,[]⟩⟩⟩
instance:Inhabited AP:=⟨zG⟩
structure Jv(rules:List eg):Prop where
 len:rules.length<=12
 each:∀r∈rules,Jw r/\Dc r.d7<=40
noncomputable def J6(t:AC)(rules:List eg)(h:AF)(m:HF):AP×Int:=if m.eg<0\/rules.length<=m.eg then(zG,6)else KY t (AA rules m.eg) h m.kp
variable{t:AC}{rules:List eg}
theorem rJ(hf:Az t)(b:Jv rules)(h:AF)(m:HF):Er t rules h m=some (J6 t rules h m):=by
 unfold Er J6;refine Nl (by simp) fun e=>?_;have f:=b.each _ (AI (l:=rules) (i:=m.eg) (by omega) (by omega))
 grind [AD,ig]
theorem rc(hf:Az t)(b:Jv rules)(h:AF)(m:HF):OE t rules h m=some (J6 t rules h m):=by
 unfold OE J6;refine Nl (by simp) fun e=>?_;have f:=b.each _ (AI (l:=rules) (i:=m.eg) (by omega) (by omega))
 grind [AD,jI]
noncomputable def GZ(t:AC)(rules:List eg):Int:=
 if (A7 t).2≠0 then(A7 t).2 else if 10<rules.length then 3 else(fst (fun i=>nz (FU t (AA rules i))) 0 rules.length).getD 0
noncomputable def L8(t:AC)(rules:List eg)(h:AF):Int:=if GZ t rules≠0 then GZ t rules else(FE t h).2
theorem iJ{e v:Int}(h:nz e=some v):v≠0:=by grind[nz]
theorem n9{c:Int->Int}{a b v:Int}(h:fst (fun i=>nz (c i)) a b=some v):v≠0:=by grind[Cu,iJ]
theorem YF(hf:Az t)(f:Jv rules):Kr t rules=some (GZ t rules):=by
 unfold Kr GZ;rw[QN hf,bs];refine Dz fun j=>Nl (by simp;try omega) fun o=>?_;rw[Bn (fun i=>nz (FU t (AA rules i))),Cw];intro i b e _;rw[AD b e,bs,jF hf (f.each _ (AI b e)).1,bs,Me]
theorem ar(hf:Az t)(b:Jv rules)(h:AF):Kt t rules h=some (L8 t rules h):=by
 unfold Kt L8;rw[YF hf b,bs,WQ hf,bs];exact Dz fun _=>rfl
theorem lD(hf:Az t)(o:Jv rules)(h:AF):Es t rules h=some (L8 t rules h):=by
 unfold Es L8 GZ;rw[Oh hf,bs];by_cases b:¬(A7 t).2=0
 .grind
 have b:=Classical.not_not.1 b;rw[ae (by simp[b]),ae (show¬(A7 t).2≠0 by simp[b])];by_cases q:10<rules.length
 .grind
 rw [ae (by simp;omega),ae q,Bn (fun i=>nz (FU t (AA rules i))),EA]
 .cases e:fst (fun i=>nz (FU t (AA rules i))) 0 (rules.length:Int)with
  |none=>
   grind [WG]
  |some v=>
   have:=n9 e
   grind
 .intro i f j _;rw[AD f j,bs,iX hf (o.each _ (AI f j)).1,bs,Me]
noncomputable def Gn(t:AC)(rules:List eg)(h0:AF)(ms:List HF):List AP×AF:=
 ms.foldl (fun s m=>(s.1++[(J6 t rules s.2 m).1],(J6 t rules s.2 m).1.ia)) ([],h0)
noncomputable def S2(t:AC)(rules:List eg)(h0:AF)(ms:List HF)(i:Int):Int:=(J6 t rules (Gn t rules h0 (ms.take i.toNat)).2 (AA ms i)).2
theorem On(t:AC)(rules:List eg)(b:AF)(e:List HF)(m:HF):Gn t rules b (e++[m])=((Gn t rules b e).1++[(J6 t rules (Gn t rules b e).2 m).1],(J6 t rules (Gn t rules b e).2 m).1.ia):=by
 unfold Gn
 grind
theorem QS(t:AC)(rules:List eg)(e:AF)(b:List HF):(Gn t rules e b).1.length=b.length:=by
 refine VJ (P:=fun b=>(Gn t rules e b).1.length=b.length) rfl (fun b m f=>?_) b
 grind [On,ba]
variable{α:Type}{i:Int}
theorem nj[Inhabited α]{l m:List α}(b:0<=i)(e:i<l.length):AA (l++m) i=AA l i:=by grind[NO]
theorem qM[Inhabited α](l:List α)(a:α):AA (l++[a]) l.length=a:=by
 rw [NO,ae (by simp),Int.toNat_natCast,Nat.sub_self];rfl
theorem sC(t:AC)(rules:List eg)(e:AF)(b:List HF):∀i:Int,0<=i->i<b.length->AA (Gn t rules e b).1 i=(J6 t rules (Gn t rules e (b.take i.toNat)).2 (AA b i)).1:=by
 refine VJ (P:=fun b=>∀i:Int,0<=i->i<b.length->AA (Gn t rules e b).1 i=(J6 t rules (Gn t rules e (b.take i.toNat)).2 (AA b i)).1) (fun i j f=>by simp at f;omega) (fun b m o i j f=>?_) b;rw[On];have q:=QS t rules e b;rw[ba,List.length_singleton]at f
 grind [nj,qM,Int.toNat_natCast,List.take_left']
noncomputable def Ok(t:AC)(rules:List eg)(d:A8):List AP×Int×Int:=
 if L8 t rules d.hV≠0 then([],0,L8 t rules d.hV)else if 30<d.kl.length then([],0,3)else
 match fst (fun i=>(nz (S2 t rules d.hV d.kl i)).map fun e=>([],i,e)) 0 d.kl.length with
 |some r=>r|none=>((Gn t rules d.hV d.kl).1,(d.kl.length:Int),0)
variable{d:A8}
theorem bE(hd:d.kl.length<=1000){f:AF->HF->Option (AP×Int)}(hf:∀h m,f h m=some (J6 t rules h m)):
  ek (hT (ρ:=(List AP×Int×Int)) (fun(j:Int)(o:List AP×AF)=>
  (idx d.kl j).bind fun q=>
  (f o.2 q).bind fun b=>
  if (!decide (b.2=0))=true then
  some (.ret ([],j,b.2))
  else
  (Ap o.1 [b.1]).bind fun u=>
  some (.next (u,b.1.ia))) 0 (d.kl.length:Int) ([],d.hV)) (fun o=>
  some (o.1,(o.1.length:Int),(0:Int))) (fun y=>some y)=some (match fst (fun i=>(nz (S2 t rules d.hV d.kl i)).map fun e=>([],i,e)) 0 d.kl.length with
   |some r=>r|none=>((Gn t rules d.hV d.kl).1,(d.kl.length:Int),0)):=by
 rw [Hk (a:=0) (s:=(([],d.hV):List AP×AF)) (fun i=>Gn t rules d.hV (d.kl.take i.toNat)) (fun i=>(nz (S2 t rules d.hV d.kl i)).map fun e=>([],i,e)) (by omega) rfl]
 .cases fst (fun i=>(nz (S2 t rules d.hV d.kl i)).map fun e=>(([],i,e):List AP×Int×Int)) 0 (d.kl.length:Int)with
  |some r=>rfl|none=>
   show some _=some _;rw[Int.toNat_natCast,List.take_length,QS]
 .intro i j w _;have z:=QS t rules d.hV (d.kl.take i.toNat);rw[AD j w,bs,hf,bs];show(if(!decide (S2 t rules d.hV d.kl i=0))=true then _ else _)=_;by_cases e:S2 t rules d.hV d.kl i=0
  .rw[ae (by simp[e]),AY (by rw[z,bk];simp;unfold AZ;omega),bs,BS j w,On,Kk.2 e];rfl
  .rw[a6 (by simp[e])];unfold nz;rw[ae e];rfl
theorem aY(hf:Az t)(b:Jv rules)(d:A8):Dm t rules d=some (Ok t rules d):=by
 unfold Dm Ok;rw[lD hf b,bs];refine FG fun e=>Nl (by simp;try omega) fun f=>?_;exact bE (by omega) (rJ hf b)
theorem lU(hf:Az t)(b:Jv rules)(d:A8):Ln t rules d=some (Ok t rules d):=by
 unfold Ln Ok;rw[ar hf b,bs];refine FG fun e=>Nl (by simp;try omega) fun f=>?_;exact bE (by omega) (rc hf b)
structure Qz(t:AC)(rules:List eg)(d:A8):Prop where
 given:L8 t rules d.hV=0
 few:d.kl.length<=30
 AaS:∀i:Int,0<=i->i<d.kl.length->S2 t rules d.hV d.kl i=0
theorem WW:(Ok t rules d).2.2=0↔Qz t rules d:=by
 unfold Ok;constructor
 .intro h;split at h
  .grind
  rename_i b;split at h
  .cases h
  rename_i f;split at h
  .grind[Cu,nz,S2,iJ]
  .rename_i e;rw[BW]at e;refine⟨Classical.not_not.1 b,by omega,fun i j o=>?_⟩
   grind [NG,Kk]
 .rintro⟨b,f,q⟩
  grind [BW,Kk]
theorem bB(h:Qz t rules d):Ok t rules d=((Gn t rules d.hV d.kl).1,(d.kl.length:Int),0):=by
 unfold Ok;rw[ae (by simp[h.given]),ae (by have:=h.few;omega),BW.2 fun i b e=>by rw[Kk.2 (h.AaS i b e)];rfl]
structure Pr(h:AF)(s:AP):Prop where
 tn:s.mo.d3.length=h.d5.d3.length
 wj:s.mo.d4.length=h.d5.d4.length
 node:∀x∈s.mo.d3,-1<=x/\x<s.ia.d5.d3.length
 edge:∀x∈s.mo.d4,-1<=x/\x<s.ia.d5.d4.length
 sm:Ez s.ia
variable{x:AF}{L:BX}
theorem ah(h:(Iy t x L).2=0):Iy t x L=(⟨x.d5,L.foldl CR x.ed⟩,0)/\L.any (MS t x)=false:=by
 unfold Iy at h|-
 grind
structure PJ(t:AC)(r:eg)(h:AF)(m:AL):Prop where
 f:HT t r h m
 sat:NJ t r.gt r.d7 h m r.j4=(true,0)
 solve:Fu t r.gt h m.d6=(m.fa,0)
 chk:Gs t r.gt.d5 h.d5 m.d6 r.j4=0
 put:(Iy t (Cm t r (CB h (dS r h m)) (cS r h m)) (CD r (cS r h m) m.fa)).2=0
 few:(Cm t r (CB h (dS r h m)) (cS r h m)).d5.d3.length<=40/\(Cm t r (CB h (dS r h m)) (cS r h m)).d5.d4.length<=80
def PK(t:AC)(r:eg)(h:AF)(m:AL):AF:=⟨(Cm t r (CB h (dS r h m)) (cS r h m)).d5,(CD r (cS r h m) m.fa).foldl CR (Cm t r (CB h (dS r h m)) (cS r h m)).ed⟩
def US(t:AC)(r:eg)(h:AF)(m:AL):AP:=AP.mk r m h (PK t r h m) (Ft h (dS r h m)) (cS r h m)
variable{r:eg}{h:AF}{m:AL}
theorem Uq(hf:Az t)(fr:Jw r)(F:Dc r.d7<=40)(e:(KY t r h m).2=0):PJ t r h m/\KY t r h m=(US t r h m,0):=by
 unfold KY at e|-;split at e
 .rename_i f;exact absurd e f
 rename_i f;rw[ae f];split at e
 .rename_i j;exact absurd e j
 rename_i j;rw[ae j];split at e
 .cases e
 rename_i y;rw[ae y];split at e
 .rename_i o;exact absurd e o
 rename_i o;rw[ae o];split at e
 .cases e
 rename_i z;rw[ae z];split at e
 .rename_i u;exact absurd e u
 rename_i u;rw[ae u];split at e
 .rename_i w;exact absurd e w
 rename_i w;rw[ae w];split at e
 .cases e
 rename_i D;rw[ae D];have f:=Classical.not_not.1 f;have j:=Classical.not_not.1 j;have y:=Classical.not_not.1 y;have o:=Classical.not_not.1 o;have z:=Classical.not_not.1 z;have u:=Classical.not_not.1 u;have w:=Classical.not_not.1 w;obtain⟨_,_,_,G⟩:=Vg hf F (Wh f j y o z);have s:HT t r h m:=⟨hf,fr,f,j,G,(Wj u).1⟩;unfold ZA at e|-;split at e
 .rename_i q;exact absurd e q
 rename_i q;rw[ae q];have q:=Classical.not_not.1 q;obtain⟨E,H⟩:=ah q;split at e
 .cases e
 rename_i b;rw[ae b];rw[E]at b;refine⟨⟨s,?_,?_,y,q,?_⟩,?_⟩
 .exact Prod.ext (by simpa using D) w
 .exact Prod.ext z o
 .simp[not_or]at b;exact b
 .rw[E];rfl
theorem PJ.trk(s:PJ t r h m):Pr h (US t r h m):=by
 have z:=s.f.rem;have b:=s.f.put;have D:((Cm t r (CB h (dS r h m)) (cS r h m)).d5.d3.length)=(dS r h m).d3.length+(ES r).length:=by
  show (List.length (_++_))=_;rw[ba,ca];show((dS r h m).d3.map _).length+_=_;rw[ca];rfl
 have he:((Cm t r (CB h (dS r h m)) (cS r h m)).d5.d4.length)=(dS r h m).d4.length+(J2 r).length:=by
  show (List.length (_++_))=_;rw[ba,ca];show((dS r h m).d4.map _).length+_=_;rw[ca];rfl
 have q:Lz (PK t r h m).ed (Cm t r (CB h (dS r h m)) (cS r h m)).ed:=Z0 _ _;have w:(PK t r h m).ed.length=(Cm t r (CB h (dS r h m)) (cS r h m)).d5.d3.length:=by
  have:=congrArg List.length q;rw[ca,ca]at this;rw[this,b.AbK]
 refine ⟨Jt _ _,Jt _ _,fun x j=>?_,fun x j=>?_,⟨?_,?_,?_,fun v hv=>?_⟩⟩
 .obtain⟨i,hi,rfl⟩:=List.mem_map.1 j;have:=QI (dS r h m).d3 i;have y:(US t r h m).ia.d5.d3.length=(Cm t r (CB h (dS r h m)) (cS r h m)).d5.d3.length:=rfl
  grind
 .obtain⟨i,hi,rfl⟩:=List.mem_map.1 j;have:=QI (dS r h m).d4 i;have y:(US t r h m).ia.d5.d4.length=(Cm t r (CB h (dS r h m)) (cS r h m)).d5.d4.length:=rfl
  grind
 .have:=s.few.1;show(Cm t r (CB h (dS r h m)) (cS r h m)).d5.d3.length<=1000;omega
 .have:=s.few.2;show(Cm t r (CB h (dS r h m)) (cS r h m)).d5.d4.length<=1000;omega
 .have:=s.few.1;show(PK t r h m).ed.length<=1000;omega
 .have u:v.length∈(PK t r h m).ed.map List.length:=List.mem_map.2 ⟨v,hv,rfl⟩;rw[q,s.f.rows]at u;obtain⟨n,o,e⟩:=List.mem_map.1 u;have:=HH b.hf (Int.le_refl _) (C4 b.hv).par (b.kind n o).2;omega
end Go.Sf.Sc
namespace Go.Sf.Sc
open Go Go.Sf
def Db(l by':Fp):Fp:=l.map fun x=>if x<0 then -1 else AA by' x
def B6(m tr:d6):d6:=⟨Db m.d3 tr.d3,Db m.d4 tr.d4⟩
def SI(m:d6)(l:List AP):d6:=l.foldl (fun m s=>B6 m s.mo) m
def Ua(g:d5):d6:=⟨Au g.d3.length,Au g.d4.length⟩
variable{l by':Fp}
theorem dM(q:l.length<=1000)(h:∀x∈l,-1<=x/\x<by'.length):F3 l by'=some (Db l by'):=by
 unfold F3 slices_Clone_int;rw[Bm (by unfold AZ;omega),bs,Bo (fun i=>(Au l.length).map fun j=>if j<i then(if AA l j<0 then -1 else AA by' (AA l j))else AA l j) (by omega)]
 .grind[Db,V5,Ca]
 .conv=>rhs;rw[<-Pe l]
  grind [Ca]
 .intro i b f;have o:=h _ (AI b f);rw[AD b (by rw[ca,A5];exact f),bs,Hq _ b f,ae (show¬i<i by omega)];by_cases e:0<=AA l i
  .rw[a6 (by simpa using e),AD e o.2,bs,bs,Hh _ b]
   grind
  grind
theorem dU(o:l.length<=1000)(h:∀x∈l,-1<=x/\x<by'.length):Ks l by'=some (Db l by'):=by
 unfold Ks;rw[Od (F:=fun x=>if x<0 then -1 else AA by' x) fun i s b f q=>?_]
 .rfl
 .have j:=h _ (AI b f);rw[AD b f,bs];by_cases e:AA l i<0
  .rw[a6 (by simpa using e),AY (by simp;unfold AZ;omega),bs,a6 e]
  .rw[ae (by simpa using e),bs,AD (by omega) j.2,bs,AY (by simp;unfold AZ;omega),bs,ae e]
variable{i:Int}
theorem mq(n:Nat)(b:0<=i)(e:i<n):AA (Au n) i=i:=by
 have:=Hq (n:=n) (fun x=>x) b e
 rwa [List.map_id']at this
variable{n:Nat}
theorem X6(h:n<=1000):F6 n=some (Au n):=by
 unfold F6 JW;rw[a6 (by omega),bs,Int.toNat_natCast,List.length_replicate,Bo (fun i=>(Au n).map fun j=>if j<i then j else 0) (by omega)]
 .rw[bs];congr 1
  conv=>rhs;rw[<-List.map_id' (Au n)]
  exact Ca fun j s f=>a6 f
 .refine List.ext_getElem (by simp[A5]) (fun k u y=>?_);have e:(Au n)[k]'(by simpa[A5]using u)=(k:Int):=by simp[Au]
  simp only[List.getElem_map,List.getElem_replicate,e];rw[ae (by omega)]
 .intro i o w;rw[AD o (by rw[ca,A5];exact w),bs,Hh _ o];congr 1;refine Ca fun j s f=>?_;by_cases b:j=i
  .rw[a6 b,a6 (by omega),b]
  .rw[ae b];by_cases q:j<i
   .rw[a6 q,a6 (show j<i+1 by omega)]
   .rw[ae q,ae (show¬j<i+1 by omega)]
variable{g:d5}
theorem fS(h:Bw g=0):Dq g=some (Ua g):=by
 have b:=DF h;have:=b.ec;have:=b.ei;unfold Dq FZ;rw[MC,bs,ae (by simp[h]),X6 (by omega),bs,X6 (by omega),bs,bs];rfl
theorem aq(h:n<=1000):JX n=some (Au n):=by
 unfold JX;rw[LT (fun _=>true) id]
 .rw[bs,List.map_id,List.filter_eq_self.2 fun _ _=>rfl]
 .intro i s b e f;rw[AY (by simp;unfold AZ;omega),bs,a6 rfl];rfl
theorem w8(h:Bw g=0):Qo g=some (Ua g):=by
 have b:=DF h;have:=b.ec;have:=b.ei;unfold Qo;rw[aq (by omega),bs,aq (by omega),bs];rfl
structure VT(m:d6)(g:d5):Prop where
 tn:m.d3.length<=1000
 wj:m.d4.length<=1000
 node:∀x∈m.d3,-1<=x/\x<g.d3.length
 edge:∀x∈m.d4,-1<=x/\x<g.d4.length
theorem ue(h:Bw g=0):VT (Ua g) g:=by
 have e:=DF h;have:=e.ec;have:=e.ei;refine⟨by show(Au _).length<=1000;rw[A5];omega,by show(Au _).length<=1000;rw[A5];omega,fun x b=>?_,fun x b=>?_⟩
 .have:=DT.1 b;omega
 .have:=DT.1 b;omega
theorem OX(e:∀x∈l,-1<=x/\x<by'.length)(f:∀x∈by',-1<=x/\x<n):∀x∈Db l by',-1<=x/\x<n:=by
 intro x b;obtain⟨y,j,rfl⟩:=List.mem_map.1 b
 grind [AI]
variable{h:AF}
theorem pR{m:d6}{s:AP}(b:VT m h.d5)(e:Pr h s):VT (B6 m s.mo) s.ia.d5:=by
 refine ⟨by show(List.map _ _).length<=1000;rw[ca];exact b.tn,by show(List.map _ _).length<=1000;rw[ca];exact b.wj,?_,?_⟩
 .exact OX (fun x f=>by have:=b.node x f;rw[e.tn];exact this) e.node
 .exact OX (fun x f=>by have:=b.edge x f;rw[e.wj];exact this) e.edge
variable{t:AC}{rules:List eg}
theorem UD(hf:Az t)(f:Jv rules){m:HF}(e:(J6 t rules h m).2=0):
  (0<=m.eg/\m.eg<rules.length)/\PJ t (AA rules m.eg) h m.kp/\J6 t rules h m=(US t (AA rules m.eg) h m.kp,0):=by
 unfold J6 at e|-;split at e
 .cases e
 rename_i j;rw[ae j];have b:=f.each _ (AI (l:=rules) (i:=m.eg) (by omega) (by omega));exact⟨by omega,Uq hf b.1 b.2 e⟩
theorem Rm(hf:Az t)(e:L8 t rules h=0):GZ t rules=0/\(FE t h).2=0/\(A7 t).2=0/\Hr t h:=by grind[L8,QH]
variable{d:A8}
theorem Pa(hf:Az t)(f:Jv rules)(h:Qz t rules d):∀n:Nat,n<=d.kl.length ->
  Ez (Gn t rules d.hV (d.kl.take n)).2/\VT (SI (Ua d.hV.d5) (Gn t rules d.hV (d.kl.take n)).1) (Gn t rules d.hV (d.kl.take n)).2.d5
 |0,_=>by
  obtain ⟨_,o,b,j⟩:=Rm hf h.given;exact⟨P1 hf b j,ue j.ge⟩
 |n+1,u=>by
  obtain ⟨o,b⟩:=Pa hf f h n (by omega);have he:=h.AaS n (by omega) (by omega);have e:=BS (l:=d.kl) (i:=(n:Int)) (by omega) (by omega);rw[show((n:Int)+1).toNat=n+1 by omega,Int.toNat_natCast]at e;unfold S2 at he;rw[Int.toNat_natCast]at he;obtain⟨_,s,q⟩:=UD hf f he;rw[e,On,q];refine⟨s.trk.sm,?_⟩;unfold SI at b|-;rw[List.foldl_append];exact pR b s.trk
noncomputable def Nw(t:AC)(rules:List eg)(d:A8):AF×d6×Int:=
 if (Ok t rules d).2.2≠0 then(⟨⟨[],[]⟩,[]⟩,⟨[],[]⟩,(Ok t rules d).2.2)else((Gn t rules d.hV d.kl).2,SI (Ua d.hV.d5) (Gn t rules d.hV d.kl).1,0)
variable{x:AF}
theorem iO(h:Ez x):G4 x=some x:=by
 have:=h.ec;have:=h.ei;have:=h.vals;unfold G4 slices_Clone_int Cz;rw[Bm (by unfold AZ;omega),bs,Bm (by unfold AZ;omega),bs];rw[Bo (fun i=>AF.mk x.d5 (x.ed.take i.toNat)) (by omega) (by rfl)]
 .rw[Int.toNat_natCast,List.take_length];rfl
 .intro i b e;have:=h.rows _ (AI b e)
  grind [AD,Bm,AZ,AY,BS]
theorem Zw(hf:Az t)(o:Jv rules)(h:Qz t rules d){f:Int->AF×d6->Option (AF×d6)}
  (u:∀(i:Int)(s:AF×d6),0<=i->i<d.kl.length->VT s.2 s.1.d5->Pr s.1 (AA (Gn t rules d.hV d.kl).1 i)->f i s=some ((AA (Gn t rules d.hV d.kl).1 i).ia,B6 s.2 (AA (Gn t rules d.hV d.kl).1 i).mo)):
  ne f 0 ((Gn t rules d.hV d.kl).1.length:Int) (d.hV,Ua d.hV.d5)=some ((Gn t rules d.hV d.kl).2,SI (Ua d.hV.d5) (Gn t rules d.hV d.kl).1):=by
 rw [QS,Bo (fun i=>((Gn t rules d.hV (d.kl.take i.toNat)).2,SI (Ua d.hV.d5) (Gn t rules d.hV (d.kl.take i.toNat)).1)) (by omega) (by rfl)]
 .rw[Int.toNat_natCast,List.take_length]
 .intro i b e;obtain⟨y,w⟩:=Pa hf o h i.toNat (by omega);have he:=h.AaS i b e;unfold S2 at he;obtain⟨_,s,q⟩:=UD hf o he;have j:=sC t rules d.hV d.kl i b e;rw[q]at j;rw[u i _ b e w (by rw[j];exact s.trk),BS b e,On,q,j];unfold SI;rw[List.foldl_append];rfl
theorem dO(hf:Az t)(e:Jv rules)(d:A8):D5 t rules d=some (Nw t rules d):=by
 unfold D5 Nw;rw[aY hf e,bs];refine FG fun o=>?_;have h:=WW.1 o;obtain⟨_,_,_,hh⟩:=Rm hf h.given;rw[fS hh.ge,bs,bB h];simp;rw[Zw hf e h fun i s q u b j=>?_]
 .have:=(Pa hf e h d.kl.length (az _)).1
  grind [List.take_length,iO]
 .rw[AD q (by rw[QS];exact u),bs,dM b.tn (fun x f=>by rw[j.tn];exact b.node x f),bs,dM b.wj (fun x f=>by rw[j.wj];exact b.edge x f),bs];rfl
theorem dX(hf:Az t)(e:Jv rules)(d:A8):Kq t rules d=some (Nw t rules d):=by
 unfold Kq Nw;rw[lU hf e,bs];refine FG fun o=>?_;have h:=WW.1 o;obtain⟨_,_,_,hh⟩:=Rm hf h.given;rw[w8 hh.ge,bs,bB h];simp;rw[Zw hf e h fun i s q u b j=>?_]
 .have:=(Pa hf e h d.kl.length (az _)).1;rw[List.take_length]at this;rw[bs,YD this];rfl
 .simp[AD q (show i<(Gn t rules d.hV d.kl).1.length by rw[QS];exact u)];rw[dU b.tn (fun x f=>by rw[j.tn];exact b.node x f),bs,dU b.wj (fun x f=>by rw[j.wj];exact b.edge x f),bs];rfl
structure VY(m:AL):Prop where
 ec:m.d6.d3.length<=1000
 ei:m.d6.d4.length<=1000
 vars:m.fa.length<=1000
structure gL(d:A8):Prop where
 start:Ez d.hV
 len:d.kl.length<=1000
 AaS:∀m∈d.kl,VY m.kp
variable{r:eg}{m:AL}
theorem PJ.small(s:PJ t r h m):VY m:=by
 have e:=s.f.left;have b:=s.f.ro.left;have j:=s.f.at_.len;have o:=s.f.at_.q.vars;have:=b.ec;have:=b.ei;exact⟨by omega,by omega,by omega⟩
theorem Qz.small(hf:Az t)(b:Jv rules)(h:Qz t rules d):gL d:=by
 obtain ⟨_,_,f,j⟩:=Rm hf h.given;refine⟨P1 hf f j,by have:=h.few;omega,fun m e=>?_⟩;obtain⟨i,o,q,rfl⟩:=Bb e;have he:=h.AaS i o q;unfold S2 at he;exact(UD hf b he).2.1.small
theorem n7:(Nw t rules d).2.2=(Ok t rules d).2.2:=by grind[Nw]
variable{α:Type}
theorem nk[Inhabited α]{l:List α}(v:α)(b:0<=i)(e:i<l.length):AA (BN l i v) i=v:=by grind[AA,BN]
theorem nm[Inhabited α]{l:List α}{i j:Int}(v:α)(b:0<=i)(e:0<=j)(h:j≠i):AA (BN l i v) j=AA l j:=by grind[AA,BN]
end Go.Sf.Sc
namespace Go.Sf.Sc
open Go Go.Sf
end Go.Sf.Sc
namespace Go.Sf.Sc
open Go Go.Sf
end Go.Sf.Sc
namespace Go.Sf.Sc
open Go Go.Sf
variable{ρ:Type}
theorem sY{f:Int×Int->Option (CC (Int×Int) ρ)}(I:Int->Int->Prop)(b:Int){s a:Int}(u:I a s)
  (step:∀i s,a<=i->I i s->(i<b/\∃s',f (s,i)=some (.next (s',i+1))/\I (i+1) s')\/f (s,i)=some (.brk (s,i))):∃i s',a<=i/\I i s'/\EG f (s,a)=some (.inl (s',i)):=by
 have key:∀(n:Nat)(i s:Int),a<=i->I i s->b-i<=n->∃j s',i<=j/\I j s'/\NB f (s,i) (.inl (s',j)):=by
  intro n
  induction n with
  |zero=>
   intro i s hi e w;rcases step i s hi e with⟨h,_⟩|h
   .omega
   .exact⟨i,s,Int.le_refl _,e,.brk h⟩
  |succ n E=>
   intro i s hi e w;rcases step i s hi e with⟨_,s',o,q⟩|h
   .obtain⟨j,s2,F,y,z⟩:=E (i+1) s' (by omega) q (by omega);exact⟨j,s2,by omega,y,.next o z⟩
   .exact⟨i,s,Int.le_refl _,e,.brk h⟩
 obtain ⟨j,s',o,q,D⟩:=key (b-a).toNat a s (Int.le_refl _) u (by omega);exact⟨j,s',o,q,D.eq⟩
theorem YV{q w k:Int}(c:Int)(G:q<=1000)(u:0<=k)(j:k<=1000)(o:1<=c/\c<=80)(y:1<=w/\w<=400000):∃w' z,(1<=w'/\w'<=400000)/\EG (ρ:=ρ) (fun(b:Int×Int)=>
  if ((decide (b.2<q))&&(decide (b.1<=5000)))=true then
  some (.next (Am (b.1*c),Am (b.2+1)))
  else
  some (.brk (b.1,b.2))) (w,k)=some (.inl (w',z)):=by
 obtain ⟨i,s',J,E,F⟩:=sY (ρ:=ρ) (f:=fun(b:Int×Int)=>
  if ((decide (b.2<q))&&(decide (b.1<=5000)))=true then
  some (.next (Am (b.1*c),Am (b.2+1)))
  else
  some (.brk (b.1,b.2))) (fun i s=>(1<=s/\s<=400000)/\0<=i/\i<=1000) q (s:=w) (a:=k) ⟨y,u,j⟩ (fun i s hi D=>by
   by_cases e:i<q/\s<=5000
   .left;have H:1*1<=s*c:=Int.mul_le_mul D.1.1 o.1 (by omega) (by omega);have I:s*c<=5000*80:=Int.mul_le_mul e.2 o.2 (by omega) (by omega)
    grind [Ay]
   grind)
 exact ⟨s',i,E.1,F⟩
theorem dh:∀(N:Nat)(c:d7)(p:ea)(w:Int),SizeOf.sizeOf c<=N->Dx c->OV p->Dc c<=1000->1<=w->w<=5000->∃b,∀n,N<=n->DP n p c w=some b
 |0,c,_,_,h,_,_,_,_,_=>by have:=Dn c;omega|N+1,c,p,w,h,U,O,hk,w0,w1=>by
  have key:∀q:ea,OV q->∃b,∀n,N<=n->ek (EG (ρ:=Bool) (fun(f:Int×Int)=>
    if ((decide (f.2<(q.d5.d3.length:Int)))&&(decide (f.1<=5000)))=true then
    some (.next (Am (f.1*40),Am (f.2+1)))
    else
    some (.brk (f.1,f.2))) (w,(p.d5.d3.length:Int))) (fun f=>
    ek (EG (ρ:=Bool) (fun(s2:Int×Int)=>
    if ((decide (s2.2<(q.d5.d4.length:Int)))&&(decide (s2.1<=5000)))=true then
    some (.next (Am (s2.1*80),Am (s2.2+1)))
    else
    some (.brk (s2.1,s2.2))) (f.1,(p.d5.d4.length:Int))) (fun s2=>
    ek (EG (ρ:=Bool) (fun(o:Int)=>
    if ((decide (o<(c.en.length:Int)))&&(decide (s2.1<=5000)))=true then
    (idx c.en o).bind fun y=>
    (DP n q y s2.1).bind fun z=>
    if (!z)=true then
    some (.ret false)
    else
    some (.next (Am (o+1)))
    else
    some (.brk o)) 0) (fun o=>
    some (decide (s2.1<=5000))) (fun W=>some W)) (fun X=>some X)) (fun Y=>some Y)=some b:=by
   intro q s;have q1:=s.ec;have q2:=s.ei;have p1:=O.ec;have p2:=O.ei;obtain⟨a,k,ha,S⟩:=YV (ρ:=Bool) (q:=q.d5.d3.length) (w:=w) (k:=p.d5.d3.length) 40 (by omega) (by omega) (by omega) (by omega) (by omega);obtain⟨a',k',I,u⟩:=YV (ρ:=Bool) (q:=q.d5.d4.length) (w:=a) (k:=p.d5.d4.length) 80 (by omega) (by omega) (by omega) (by omega) ha;have Z:c.en.length<=1000:=by have:=TN c.en;have:=TO c;omega
   by_cases H:a'<=5000
   .have kids:∀x∈c.en,∃b,∀n,N<=n->DP n q x a'=some b:=fun x D=>by
     have E:=ET D;have F:=Uu D;have h3:=TO c;exact dh N x q a' (by omega) (U.k x D) s (by omega) I.1 H
    have j:∀i:Int,∃b:Bool,0<=i->i<c.en.length->∀n,N<=n->DP n q (AA c.en i) a'=some b:=fun i=>by
     by_cases e:0<=i/\i<c.en.length
     .obtain⟨b,J⟩:=kids _ (AI e.1 e.2);exact⟨b,fun _ _=>J⟩
     .exact⟨true,fun E F=>absurd ⟨E,F⟩ e⟩
    obtain ⟨g,hg⟩:=Classical.axiomOfChoice j;refine⟨(fst (fun i=>if g i=true then none else some (Sum.inr false:Int ⊕ Bool)) 0 c.en.length).isNone,fun n G=>?_⟩;rw[S,Bt];simp only[];rw[u,Bt];simp only[];rw[Na (fun i=>if g i=true then none else some (.inr false)) (b:=c.en.length) (by omega)]
    .cases e:fst (fun i=>if g i=true then none else some (Sum.inr false:Int ⊕ Bool)) 0 (c.en.length:Int)with
     |none=>
      show some (decide (a'<=5000))=some true;rw[decide_eq_true H]
     |some r=>
      obtain ⟨i,_,_,K,_⟩:=Cu e;split at K
      .cases K
      .cases K;rfl
    .intro i P Q _;rw[a6 (by simp;omega),AD P Q,bs,hg i P Q n G,bs,Ay (by omega) (by omega)];cases g i<;>rfl
    .rw[ae (by simp)]
   .refine⟨false,fun n G=>?_⟩;rw[S,Bt];simp only[];rw[u,Bt];simp only[];rw[Na (fun _=>none) (b:=0) (by omega) (fun i E F _=>by omega) (by rw[ae (by simp;omega)])];rw[g6 (by omega)];show some _=some _;rw[decide_eq_false H]
  have s:OV (if c.j0=5 then c.ea else p):=by split;exact U.q;exact O
  obtain ⟨b,J⟩:=key _ s;refine⟨b,fun n G=>?_⟩;obtain⟨n,rfl⟩:∃k,n=k+1:=⟨n-1,by omega⟩;rw[DP,show(if decide (c.j0=5)=true then some c.ea else some p)=some (if c.j0=5 then c.ea else p)by by_cases e:c.j0=5<;>simp[e],bs];exact J n (by omega)
end Go.Sf.Sc
namespace Go.Sf.Sc
open Go Go.Sf
variable{r:eg}
theorem bJ(b:(Bz r).Sm):(AH r.d7).Sm:=by
 have e:TV.Sms [_,_,_,_,_,_,_,_,_,_,_,_,_,_,_,_,_,_,_,_,_,_,_,_,_]:=b;obtain⟨_,_,_,_,_,_,_,_,_,_,_,o,q,s,u,_,f,j,c3,c4,c5,c6,c7,c8,c9,_⟩:=e;exact⟨f,j,c3,c4,c5,c6,c7,c8,c9,trivial⟩
variable{t:AC}
theorem dB(hf:Az t)(st:(AM t).Sm)(e:(Bz r).Sm)(h:AF):∃b,GN t r h=some b/\(b=true->Jw r/\Dc r.d7<=40):=by
 obtain ⟨f,j,_⟩:=Q8 st;obtain⟨o,q,s⟩:=kR e;obtain⟨u,w,y⟩:=jA hf st r.gt (bJ e) h;unfold GN
 grind
variable{rules:List eg}
theorem oL(st:(AM t).Sm)(W:∀r∈rules,(Bz r).Sm)(h:AF):∃b,Mr t rules h=some b/\(b=true->Az t/\Jv rules):=by
 obtain ⟨b1,e1,f1⟩:=Q8 st;obtain⟨b2,e2⟩:=Zr h;unfold Mr;by_cases Q:(((decide (4<(rules.length:Int)))&&(decide ((rules.length:Int)<=10)))||(decide (12<(rules.length:Int))))=true
 .rw[a6 Q,bs,a6 rfl,bs,a6 rfl];exact⟨false,rfl,fun h=>by cases h⟩
 rw [ae Q,e1,bs,bs];cases b1 with
 |false=>exact⟨false,rfl,fun h=>by cases h⟩
 |true=>
 rw [ae (by decide),e2,bs,bs];cases b2 with
 |false=>exact⟨false,rfl,fun h=>by cases h⟩
 |true=>
 rw [ae (by decide)];have hf:=f1 rfl;have Z:rules.length<=12:=by
  simp only[Bool.or_eq_true,o4,t2,not_or]at Q;omega
 rcases SK (f:=fun(o:Int)(X:Bool)=>
  (idx rules o).bind fun y=>
  (GN t y h).bind fun z=>
  if (!z)=true then
  some (.ret false)
  else
  (if X=true then((idx rules o).bind fun D=>
  some (decide ((D.gt.d5.d3.length:Int)<=3)))else some false).bind fun E=>
  (if E=true then((idx rules o).bind fun F=>
  some (decide ((F.gt.d5.d4.length:Int)<=2)))else some false).bind fun G=>
  (if G=true then((idx rules o).bind fun H=>
  some (decide ((H.ee.d5.d3.length:Int)<=5)))else some false).bind fun I=>
  (if I=true then((idx rules o).bind fun J=>
  (idx rules o).bind fun K=>
  (M4 J.gt K.d7 1).bind fun N=>
  some (N))else some false).bind fun O=>
  some (.next O)) (fun i _=>∀j:Int,0<=j->j<i->Jw (AA rules j)/\Dc (AA rules j).d7<=40) (fun _=>False) (fun r=>r=false) (a:=0) (b:=rules.length) (s:=true) (by omega) (fun j h1 h2=>by omega) (fun i s o u P=>by
   have hm:=AI o u;obtain⟨b3,q,f3⟩:=dB hf st (W _ hm) h;simp only[AD o u,bs];rw[q,bs];cases b3 with
   |false=>exact .inr (.inr ⟨false,rfl,rfl⟩)|true=>
    obtain ⟨S,k2⟩:=f3 rfl;obtain⟨U,e4⟩:=dh _ (AA rules i).d7 (AA rules i).gt 1 (az _) S.cond S.left (by omega) (by decide) (by decide);have e5:M4 (AA rules i).gt (AA rules i).d7 1=some U:=Dd _ e4;left;refine⟨(((s&&decide (((AA rules i).gt.d5.d3.length:Int)<=3))&&decide (((AA rules i).gt.d5.d4.length:Int)<=2))&&decide (((AA rules i).ee.d5.d3.length:Int)<=5))&&U,?_,fun j Y j1=>?_⟩
    .rw[ae (by decide),e5];cases s<;>cases decide (((AA rules i).gt.d5.d3.length:Int)<=3)<;>cases decide (((AA rules i).gt.d5.d4.length:Int)<=2)<;>cases decide (((AA rules i).ee.d5.d3.length:Int)<=5)<;>rfl
    .by_cases e:j=i
     .rw[e];exact⟨S,k2⟩
     .exact P j Y (by omega))with⟨s',q,h3⟩|⟨r,q,h3⟩
 .rw[q,Bt];have P:=h3.resolve_right id;have w:Jv rules:=⟨Z,fun r w=>by
   obtain ⟨i,o,u,rfl⟩:=Bb w;exact P i o u⟩
  rw [ar hf w,bs];exact⟨_,rfl,fun _=>⟨hf,w⟩⟩
 .rw[q,Pd,h3];exact⟨false,rfl,fun h=>by cases h⟩
variable{h:AF}
theorem Xa:∃b,GW h=some b/\(b=true->Ez h):=by
 unfold GW Ii;rw[bs];by_cases f:((!((decide ((h.d5.d3.length:Int)<=45))&&(decide ((h.d5.d4.length:Int)<=90))))||(decide (45<(h.ed.length:Int))))=true
 .rw[a6 f];exact⟨false,rfl,fun h=>by cases h⟩
 rw [ae f,BQ (fun i=>decide (12<((AA h.ed i).length:Int))) false]
 .cases e:ll (fun i=>decide (12<((AA h.ed i).length:Int))) 0 h.ed.length with
  |true=>exact⟨false,rfl,fun h=>by cases h⟩
  |false=>
   refine ⟨true,rfl,fun _=>?_⟩;rw[BV]at e;simp only[Bool.or_eq_true,Bool.not_eq_true',Bool.and_eq_false_iff,decide_eq_false_iff_not,t2,not_or]at f;refine⟨by omega,by omega,by omega,fun v hv=>?_⟩
   grind [Bb]
 .intro i j o _;rw[AD j o,bs,IC]
variable{m:AL}
theorem gj(e:(m.d6.d3.length:Int)<=140737488351232)(f:(m.d6.d4.length:Int)<=140737488351232):∃b,E7 m 140=some b/\(b=true->VY m):=by
 unfold E7 HZ;rw[bs];refine⟨_,rfl,fun h=>?_⟩;rw[Wq (by omega) e (by omega) f]at h;simp only[o4,t2]at h;exact⟨by omega,by omega,by omega⟩
theorem oQ{m:HF}(h:(GE m).Sm):(m.kp.d6.d3.length:Int)<=140737488351232/\(m.kp.d6.d4.length:Int)<=140737488351232:=by
 have b:TV.Sms [_,_,_,_]:=h;exact⟨(Hl (e:=eI) b.2.1).1,(Hl (e:=eI) b.2.2.1).1⟩
variable{d:A8}
theorem ct(D:∀m∈d.kl,(GE m).Sm){pr:Int}(H:pr<=100):∃b,NW d pr=some b/\(b=true->gL d):=by
 obtain ⟨E,F,G⟩:=Xa (h:=d.hV);unfold NW;rw[F,bs];by_cases q:((!E)||(decide (pr<(d.kl.length:Int))))=true
 .grind
 rw [ae q];simp only[Bool.or_eq_true,Bool.not_eq_true',t2,not_or,Bool.not_eq_false]at q;rcases SK (f:=fun(o:Int)(_:Unit)=>
  (idx d.kl o).bind fun u=>
  (E7 u.kp 140).bind fun w=>
  if (!w)=true then
  some (.ret false)
  else
  some (.next ())) (fun i _=>∀j:Int,0<=j->j<i->VY (AA d.kl j).kp) (fun _=>False) (fun r=>r=false) (a:=0) (b:=d.kl.length) (s:=()) (by omega) (fun j q I=>by omega) (fun i s o z hi=>by
   have y:=oQ (D _ (AI o z));obtain⟨b,e,f⟩:=gj y.1 y.2;rw[AD o z,bs,e,bs];cases b with
   |false=>exact .inr (.inr ⟨false,rfl,rfl⟩)|true=>
    refine .inl ⟨(),rfl,fun j J K=>?_⟩
    grind)with⟨s',e3,h3⟩|⟨r,e3,h3⟩
 .rw[e3,Bt];have N:=h3.resolve_right id;refine⟨true,rfl,fun _=>⟨G q.1,by omega,fun m y=>?_⟩⟩
  grind [Bb]
 grind [Pd]
end Go.Sf.Sc
namespace Go.Sf.Sc
open Go Go.Sf
def QU(x:Int):Prop:=-9223372036854775808<=x/\x<=9223372036854775807
theorem pU{x y:Int}(b:QU x)(e:QU y):Am (x-y)=0↔x=y:=by
 unfold QU at b e;rw[bZ];split<;>omega
theorem ir{l m:Fp}(u:l.length<=1000)(w:m.length<=1000)(q:∀x∈l,QU x)(s:∀x∈m,QU x):∃v,Ka l m=some v/\(v=0↔l=m):=by
 unfold Ka;rw[Na (fun i=>if AA l i=AA m i then none else some (.inr (Am (AA l i-AA m i)))) (b:=min (l.length:Int) m.length) (by omega)]
 .cases e:fst (fun i=>if AA l i=AA m i then(none:Option (Int ⊕ Int))else some (.inr (Am (AA l i-AA m i)))) 0 (min (l.length:Int) m.length)with
  |none=>
   refine ⟨_,rfl,?_⟩;rw[Ay (by omega) (by omega)];rw[BW]at e;constructor
   .intro h;refine Zc (by omega) fun i f o=>?_;have:=e i f (by omega)
    grind
   .rintro rfl;omega
  |some x=>
   obtain ⟨i,f,o,j,_⟩:=Cu e;by_cases h:AA l i=AA m i
   .rw[a6 h]at j;cases j
   .rw[ae h]at j;cases j;refine⟨_,rfl,?_⟩;rw[pU (q _ (AI f (by omega))) (s _ (AI f (by omega)))];exact⟨fun k=>absurd k h,fun k=>by rw[k]⟩
 .intro i f o _;rw[a6 (by simp;omega),AD f (by omega),bs,AD f (by omega),bs];by_cases h:AA l i=AA m i
  .rw[ae (by simp[h]),a6 h,Ay (by omega) (by omega)];rfl
  .rw[a6 (by simp[h]),ae h,bs,bs];rfl
 .rw[ae (by simp;omega)]
structure K4(h:AF):Prop where
 s:Ez h
 w:∀v∈h.ed,∀x∈v,QU x
theorem k9(l m:List Fp):C8 l m slices_Equal_int=some (decide (l=m)):=by
 unfold C8;simp only[J8,bs];exact Ob l m
theorem QK(a b:AF):Fd a b=some (decide (a=b)):=by
 unfold Fd;rw[J8,bs,ai,bs,k9,bs];obtain⟨⟨n,e⟩,v⟩:=a;obtain⟨⟨q,s⟩,u⟩:=b;by_cases f:n=q<;>by_cases j:e=s<;>by_cases o:v=u<;>simp[f,j,o]
theorem QO{a b:AF}(q:K4 a)(u:K4 b):GL a b=some (decide (a=b)):=by
 unfold GL;rw[db,bs];obtain⟨g,v⟩:=a;obtain⟨G,e⟩:=b;simp only[];by_cases j:g=G
 .subst j;by_cases o:v.length=e.length
  .rw[ae (by simp[o]),BQ (fun i=>!decide (AA v i=AA e i)) false]
   .have:=XG (fun x y:Fp=>decide (x=y)) (l:=v) (m:=e) (fun _ _ _ _=>decide_eq_true_iff) o;by_cases h:v=e
    .rw[this.2 h,ae (by simp),Bt];simp[h]
    .cases F:ll (fun i=>!decide (AA v i=AA e i)) 0 v.length
     .exact absurd (this.1 F) h
     .rw[a6 rfl,Pd];simp[h]
   .intro i f z _;have D:=AI f z;have E:=AI (l:=e) f (by omega);obtain⟨x,H,I⟩:=ir (q.s.rows _ D) (u.s.rows _ E) (q.w _ D) (u.w _ E);rw[AD f z,bs,AD f (by omega),bs,H,bs];by_cases h:AA v i=AA e i<;>simp[h,I]
  .rw[a6 (by simp;omega)];have:v≠e:=fun h=>o (by rw[h]);simp[this]
 .rw[a6 (by simp[j])];simp[j]
theorem iZ(a b:ea):GA a b=some (decide (a=b)):=by
 unfold GA P0;simp only[J8,ai,il,im,bs];obtain⟨⟨n,e⟩,s,v,t⟩:=a;obtain⟨⟨w,y⟩,s',z,D⟩:=b;by_cases f:n=w<;>by_cases j:e=y<;>by_cases o:s=s'<;>by_cases q:v=z<;>by_cases u:t=D<;>simp[f,j,o,q,u]
noncomputable def XX(a b:eg):Bool:=@decide (a=b) (Classical.propDecidable _)
noncomputable def cj(a b:AP):Bool:=@decide (a=b) (Classical.propDecidable _)
theorem cp{a b:eg}:XX a b=true↔a=b:=by unfold XX;exact@decide_eq_true_iff _ (Classical.propDecidable _)
theorem cl{a b:AP}:cj a b=true↔a=b:=by unfold cj;exact@decide_eq_true_iff _ (Classical.propDecidable _)
theorem de(a b:eg):XX a b=(decide (a.ls=b.ls)&&decide (a.j4=b.j4)&&decide (a.gt=b.gt)&&decide (a.ee=b.ee)&&decide (a.pq=b.pq)&&decide (a.o3=b.o3)&&S1 a.d7 b.d7):=by
 rw [Bool.eq_iff_iff,cp];simp only[o4,t2,Wn];obtain⟨n,l,r,k,i,j,c⟩:=a;obtain⟨e,f,o,q,s,u,c'⟩:=b;simp only[eg.mk.injEq]
 grind
theorem dk(a b:AP):cj a b=(XX a.eg b.eg&&decide (a.kp=b.kp)&&decide (a.gp=b.gp)&&decide (a.ia=b.ia)&&decide (a.mo=b.mo)&&decide (a.rr=b.rr)):=by
 rw [Bool.eq_iff_iff,cl];simp only[o4,t2,cp];obtain⟨r,m,j,o,t,c⟩:=a;obtain⟨q,m',e,f,s,c'⟩:=b;simp only[AP.mk.injEq]
 grind
theorem ZZ{b c:Bool}{o:K1}(h:o=some c):(if b=true then o else some false)=some (b&&c):=by
 subst h;cases b<;>rfl
theorem oi(a b:eg):Lp a b=some (XX a b):=by
 unfold Lp;simp only[iZ,J8,UL,oh,bs];rw[de];obtain⟨n,l,r,⟨D,E⟩,i,j,c⟩:=a;obtain⟨F,G,H,⟨e,f⟩,I,J,c'⟩:=b;simp only[];by_cases o:n=F<;>by_cases q:j=J<;>by_cases s:l=G<;>by_cases u:r=H<;>simp[o,q,s,u];by_cases w:D=e<;>by_cases y:E=f<;>by_cases z:i=I<;>simp[w,y,z]
theorem jH(a b:eg):OB a b=some (XX a b):=by
 unfold OB P6;simp only[dc,QM,XD,o9,bs];rw[de];obtain⟨n,l,r,⟨D,E⟩,i,j,c⟩:=a;obtain⟨F,G,H,⟨e,f⟩,I,J,c'⟩:=b;simp only[];by_cases o:n=F<;>by_cases q:j=J<;>by_cases s:l=G<;>by_cases u:r=H<;>simp[o,q,s,u];by_cases w:D=e<;>by_cases y:E=f<;>by_cases z:i=I<;>simp[w,y,z]
theorem lG(a b:AL):Jk a b=some (decide (a=b)):=by
 unfold Jk;simp only[UL,J8,bs];obtain⟨m,v⟩:=a;obtain⟨m',j⟩:=b;by_cases e:m=m'<;>by_cases f:v=j<;>simp[e,f]
theorem lV(a b:AL):Ik a b=some (decide (a=b)):=by
 unfold Ik;simp only[QM,bs];obtain⟨⟨m1,s⟩,v⟩:=a;obtain⟨⟨e,f⟩,u⟩:=b;by_cases j:m1=e<;>by_cases o:s=f<;>by_cases q:v=u<;>simp[j,q,o]
theorem oj(a b:AP):Lu a b=some (cj a b):=by
 unfold Lu;simp only[oi,lG,QK,UL,bs,dk];cases XX a.eg b.eg<;>by_cases e:a.kp=b.kp<;>by_cases f:a.gp=b.gp<;>by_cases j:a.ia=b.ia<;>by_cases o:a.mo=b.mo<;>simp[e,f,j,o]
structure eP(s:AP):Prop where
 b:K4 s.gp
 a:K4 s.ia
theorem pA{a b:AP}(e:eP a)(f:eP b):OD a b=some (cj a b):=by
 unfold OD;simp only[jH,lV,QO e.b f.b,QO e.a f.a,XD,bs,dk];cases XX a.eg b.eg<;>by_cases j:a.kp=b.kp<;>by_cases o:a.gp=b.gp<;>by_cases q:a.ia=b.ia<;>by_cases s:a.mo=b.mo<;>simp[j,o,q,s]
variable{V:List Fp}
theorem Xh(h:∀v∈V,∀x∈v,QU x):∀{L:BX},(∀p∈L,QU p.2)->∀{V:List Fp},(∀v∈V,∀x∈v,QU x)->∀v∈L.foldl CR V,∀x∈v,QU x
 |[],_,_,k=>k|p::L,e,V,k=>by
  rw [List.foldl_cons];refine Xh h (L:=L) (fun q f=>e q (List.mem_cons_of_mem _ f)) ?_;unfold CR;split
  .intro v hv x b;obtain⟨n,j,rfl⟩:=List.mem_iff_getElem.1 hv;rw[List.getElem_modify]at b;split at b
   .rcases List.mem_or_eq_of_mem_set b with b|rfl
    .exact k _ (List.getElem_mem _) _ b
    .exact e p (List.mem_cons_self ..)
   .exact k _ (List.getElem_mem _) _ b
  .exact k
variable{t:AC}{h:AF}
theorem j7(hf:Az t)(e:(FE t h).2=0):K4 h:=by
 obtain ⟨hv,hh⟩:=QH hf e;refine⟨P1 hf hv hh,fun v b x f=>?_⟩;obtain⟨i,j,o,rfl⟩:=Bb b;have:=hh.low i j (by have:=hh.len;omega) x f;unfold QU;omega
variable{r:eg}{m:AL}
theorem YX(s:PJ t r h m):eP (US t r h m):=by
 have hh:=s.f.hh;have u:=j7 s.f.hf s.f.he;have y:=s.f.put;have q:=C4 s.f.hv;refine⟨u,s.trk.sm,?_⟩;have z:=(ah s.put).2;refine Xh (V:=[]) (by simp) (fun p b=>?_) ?_
 .obtain⟨sl,F,rfl⟩:=List.mem_map.1 b;have k:=y.slot sl F;rw[List.any_eq_false]at z;have e:=z _ b;unfold MS at e;have D:=y.kind _ (AI k.2.2.1.1 k.2.2.1.2);have G:=SA s.f.hf q D.1 D.2 _ (AI k.2.2.2.1 k.2.2.2.2);simp only[Bool.or_eq_true,t2,not_or]at e;unfold QU;unfold QC at e|-;dsimp only at e|-;omega
 .intro v hv x o;unfold Cm NI at hv;rcases List.mem_append.1 hv with hv|hv
  .unfold CB at hv;obtain⟨i,hi,rfl⟩:=List.mem_map.1 hv;have:=s.f.rem.ec.1 i hi;exact u.w _ (AI this.1 (by have:=hh.len;omega)) x o
  .obtain⟨i,hi,rfl⟩:=List.mem_map.1 hv;unfold Td at o;obtain⟨a,E,rfl⟩:=List.mem_map.1 o;have j:=Fm hi;have k:=s.f.grow.kind _ (AI (l:=r.ee.d5.d3) j.1 j.2);have H:=SA s.f.hf q k.1 k.2 a E;have e:=XP s.f.hf q k.1 k.2 a E;unfold QU;omega
end Go.Sf.Sc
namespace Go.Sf.Sc
open Go Go.Sf
variable{α:Type}
theorem Qv{e:α->TV}:∀{l:List α},TV.sc (l.map e)->∀x∈l,(e x).WF
 |y::l,h,x,b=>by
  rcases List.mem_cons.1 b with rfl|b
  .exact h.1
  .exact Qv h.2 x b
structure XL(h:AF)(p:At):Prop where
 tn:p.d3.length<=1000
 wj:p.d4.length<=1000
 node:∀x∈p.d3,0<=x/\x<h.d5.d3.length
 edge:∀x∈p.d4,0<=x/\x<h.d5.d4.length
theorem bl{a b:AP}(E:K4 a.gp)(U:K4 b.gp):∃v,EC a b=some v/\Jh a b=some v/\XL a.gp v.1:=by
 have e:Jh a b=EC a b:=by
  unfold Jh EC;rw[QK,QO E U]
 rw [e]
 suffices h:∃v,EC a b=some v/\XL a.gp v.1 by
  obtain ⟨v,h,k⟩:=h;exact⟨v,h,h,k⟩
 unfold EC;rw[QK,bs];split
 .exact⟨_,rfl,by simp,by simp,by simp,by simp⟩
 .rename_i O;simp only[Bool.or_eq_true,Bool.not_eq_true',decide_eq_false_iff_not,not_or,Classical.not_not]at O;obtain⟨⟨⟨⟨h1,h2⟩,h3⟩,h4⟩,h5⟩:=O;have Z:=E.s.ec;have n2:=E.s.ei;obtain⟨s,W,D⟩:=ND (f:=fun(o:Int)(F:At)=>
   (idx a.mo.d3 o).bind fun G=>
   (if(decide (0<=G))=true then((idx b.mo.d3 o).bind fun H=>
   some (decide (0<=H)))else some false).bind fun I=>
   if I=true then
   (Ap F.d3 [o]).bind fun J=>
   some (At.mk J F.d4)
   else
   some F) (fun i s=>((s.d3.length:Int)<=i/\∀x∈s.d3,0<=x/\x<i)/\s.d4=[]) (a:=0) (b:=a.gp.d5.d3.length) (s:=At.mk [] []) (by omega) ⟨by simp,rfl⟩ (fun i s o D hi=>by
    obtain ⟨P,Q⟩:=hi;rw[AD o (by omega),bs,AD o (by omega),bs];have ev:∀c d:Bool,∃x,(if c=true then some d else some false)=some x:=fun c d=>by cases c<;>exact⟨_,rfl⟩
    obtain ⟨x,N⟩:=ev (decide (0<=AA a.mo.d3 i)) (decide (0<=AA b.mo.d3 i));rw[N,bs];cases x with
    |true=>
     rw [a6 rfl,AY (by simp[AZ];omega),bs];exact⟨_,rfl,⟨by simp;omega,fun z j=>by
      rcases List.mem_append.1 j with j|j
      .have:=P.2 z j;omega
      .rw[List.mem_singleton.1 j];omega⟩,Q⟩
    |false=>exact⟨s,rfl,⟨by omega,fun z j=>by have:=P.2 z j;omega⟩,Q⟩)
  rw [W,bs];obtain⟨s',X,q⟩:=ND (f:=fun(q:Int)(s2:At)=>
   (idx a.mo.d4 q).bind fun K=>
   (if(decide (0<=K))=true then((idx b.mo.d4 q).bind fun u=>
   some (decide (0<=u)))else some false).bind fun w=>
   if w=true then
   (Ap s2.d4 [q]).bind fun y=>
   some (At.mk s2.d3 y)
   else
   some s2) (fun i z=>s.d3=z.d3/\(z.d4.length:Int)<=i/\∀x∈z.d4,0<=x/\x<i) (a:=0) (b:=a.gp.d5.d4.length) (s:=s) (by omega) ⟨rfl,by rw[D.2];simp⟩ (fun i s o D hi=>by
    rw [AD o (by omega),bs,AD o (by omega),bs];have ev:∀c d:Bool,∃x,(if c=true then some d else some false)=some x:=fun c d=>by cases c<;>exact⟨_,rfl⟩
    obtain ⟨x,N⟩:=ev (decide (0<=AA a.mo.d4 i)) (decide (0<=AA b.mo.d4 i));rw[N,bs];cases x with
    |true=>
     rw [a6 rfl,AY (by simp[AZ];omega),bs];exact⟨_,rfl,hi.1,by simp;omega,fun z j=>by
      rcases List.mem_append.1 j with j|j
      .have:=hi.2.2 z j;omega
      .rw[List.mem_singleton.1 j];omega⟩
    |false=>exact⟨s,rfl,hi.1,by omega,fun z j=>by have:=hi.2.2 z j;omega⟩)
  rw [X,bs];obtain⟨S,j2,Y⟩:=q;exact⟨_,rfl,by rw[<-S];omega,by show s'.d4.length<=1000;omega,by rw[<-S];exact D.1.2,Y⟩
end Go.Sf.Sc
