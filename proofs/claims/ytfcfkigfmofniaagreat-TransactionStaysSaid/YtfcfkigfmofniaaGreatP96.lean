/- Plain lemmas: what the functions of the program and of the reference compute. -/
import Derived.Test.YtfcfkigfmofniaaGreatSfF
import Derived.Test.YtfcfkigfmofniaaGreatP46
set_option linter.all false
set_option maxRecDepth 100000
namespace Go.Sf.Sc
open Go Go.Sf
def SZ(p g:d3)(m:d4):d3:=⟨m.ca.map (AA g.ca),p.ci⟩
variable{l:Fp}
theorem QD{n x:Int}:x∈A2 l n↔(0<=x/\x<n)/\x∉l:=by
 unfold A2;rw[List.mem_filter];constructor
 .grind[Int.natCast_nonneg,B3]
 .rintro⟨⟨j,o⟩,q⟩;refine⟨List.mem_map.2 ⟨x.toNat,List.mem_range.2 (by omega),Int.toNat_of_nonneg j⟩,?_⟩
  grind [hasB,B3]
theorem NI(l:Fp)(n:Int):(A2 l n).Pairwise (·<·):=by grind[A2,List.pairwise_lt_range.imp]
def EQ(images fm:Fp):Fp:=(A2 fm images.length).map (AA images)
theorem T9{images fm:Fp}{x:Int}:x∈EQ images fm↔∃i:Int,(0<=i/\i<images.length)/\i∉fm/\AA images i=x:=by grind[EQ,QD]
def y7(images fm:Fp):Bool:=mt (fun a=>mt (fun b=>decide (AA images a=AA images b)&&(!hasB fm a||!hasB fm b)) (a+1) images.length) 0 images.length
variable{a b:Int}
theorem eT{images fm:Fp}(h:y7 images fm=false)(a0:0<=a)(a1:a<images.length)(w:0<=b)(u:b<images.length)(y:a∈fm)(e:AA images a=AA images b):b∈fm:=by
 unfold y7 at h;rw[Bt]at h;by_cases o:a=b
 .exact o▸y
 by_cases z:a<b
 .have j:=h a a0 a1;rw[Bt]at j;have q:=j b (by omega) u;rw[decide_eq_true e,Bool.true_and,Bool.or_eq_false_iff]at q
  grind [B3]
 .have j:=h b w u;rw[Bt]at j;have q:=j a (by omega) a1;rw[decide_eq_true e.symm,Bool.true_and,Bool.or_eq_false_iff]at q
  grind [B3]
variable{i:Int}
theorem UA{images fm:Fp}(h:y7 images fm=false)(j:0<=i)(o:i<images.length)(q:i∈fm):AA images i∉EQ images fm:=by grind[T9,eT]
def NX(g:d3)(fm:BN)(m:d4)(i:Int):Bool:=
 !hasB m.ci i&&(hasB (EQ m.ca fm.ca) (AA g.ci i).kp||hasB (EQ m.ca fm.ca) (AA g.ci i).To)
def Mj(g:d3)(fm:BN)(m:d4):BN:=⟨A2 (EQ m.ca fm.ca) g.ca.length,A2 (EQ m.ci fm.ci) g.ci.length⟩
def NV(l g:d3)(fm:BN)(m:d4):BN×Int:=
 if HH l g m≠0 then(⟨[],[]⟩,HH l g m)else if Dg l fm≠0 then(⟨[],[]⟩,Dg l fm)else
 if (y7 m.ca fm.ca||y7 m.ci fm.ci)=true then(⟨[],[]⟩,15)else
 if mt (NX g fm m) 0 g.ci.length=true then(⟨[],[]⟩,14)else(Mj g fm m,0)
structure ZQ(l g:d3)(fm:BN)(m:d4):Prop where
 mor:SE l g m
 part:PI l fm
 ea:y7 m.ca fm.ca=false
 ec:y7 m.ci fm.ci=false
 free:∀i:Int,0<=i->i<g.ci.length->NX g fm m i=false
variable{g:d3}
theorem lH{p:BN}(h:Dg g p=0):Bm g=0/\Mf g p=0:=by grind[Dg]
theorem XP{l g:d3}{fm:BN}{m:d4}(h:(NV l g fm m).2=0):ZQ l g fm m/\NV l g fm m=(Mj g fm m,0):=by
 unfold NV at h|-;split at h
 .grind
 rename_i o;rw[az o];split at h
 .grind
 rename_i q;rw[az q];split at h
 .grind
 rename_i j;rw[az j];split at h
 .grind
 rename_i u;rw[az u];simp[not_or]at j;exact⟨⟨Ur (Classical.not_not.1 o),Ws (lH (Classical.not_not.1 q)).2,j.1,j.2,Bt.1 (by simpa using u)⟩,rfl⟩
theorem jL{l g:d3}{fm:BN}{m:d4}(h:ZQ l g fm m):Mf g (Mj g fm m)=0:=by
 have y:=h.mor;have I:=y.gb;have J:∀x∈(Mj g fm m).ca,0<=x/\x<g.ca.length:=fun x q=>Gx q;have K:∀x∈(Mj g fm m).ci,0<=x/\x<g.ci.length:=fun x q=>Gx q;have o:∀{l:Fp}{n:Int},(∀x∈l,0<=x/\x<n)->l.Pairwise (·<·)->OT l n=0:=by
  grind [OT,Ay,AF,Gq]
 unfold Mf;rw[o J (NI _ _),o K (NI _ _)];simp;rw[Ay.2 fun i G H=>?_]
 .rfl
 have q:=AF G H;generalize AA (Mj g fm m).ci i=x at q;have j:(0<=x/\x<g.ci.length)/\x∉EQ m.ci fm.ci:=QD.1 q;have hf:=I.fit _ (AF j.1.1 j.1.2);have z:(AA g.ci x).kp∉EQ m.ca fm.ca/\(AA g.ci x).To∉EQ m.ca fm.ca:=by
  by_cases hi:x∈m.ci
  .obtain⟨k,E,F,e⟩:=BR hi;have u:k∈fm.ci:=by
    by_cases u:k∈fm.ci
    .exact u
    .exact absurd (T9.2 ⟨k,⟨E,F⟩,u,e⟩) j.2
   have ends:=h.part.ends k u;have he:=y.edge k E F;rw[e]at he;have D:=h.part.ea.1;have N:=D _ ends.1;have O:=D _ ends.2;have Q:=y.yW;rw[<-he.2.2.1,<-he.2.2.2];exact⟨UA h.ea N.1 (by omega) ends.1,UA h.ea O.1 (by omega) ends.2⟩
  .have hd:=h.free x j.1.1 j.1.2;unfold NX at hd;rw[show hasB m.ci x=false from by cases P:hasB m.ci x with|false=>rfl|true=>exact absurd (B3.1 P) hi,Bool.not_false,Bool.true_and,Bool.or_eq_false_iff]at hd;exact⟨fun w=>by rw[B3.2 w]at hd;exact absurd hd.1 (by decide),fun w=>by rw[B3.2 w]at hd;exact absurd hd.2 (by decide)⟩
 grind [hasB,Mj,AA,B3,QD]
def Ha(n:Nat)(l:Fp):Fp:=(Ag n).map (C3 l)
variable{v:Int}
theorem XY(h:v∉l):C3 l v=-1:=by grind[C3,Ay,AF]
theorem QK(l:Fp)(v:Int):-1<=C3 l v/\C3 l v<l.length:=by
 by_cases h:v∈l
 .have:=G2 h;omega
 .rw[XY h];omega
theorem Nf:0<=C3 l v↔v∈l:=by grind[XY,G2]
theorem JV(n:Nat)(l:Fp):(Ha n l).length=n:=by unfold Ha;rw[c8,Ap]
variable{n:Nat}
theorem Vs(j:0<=i)(o:i<n):AA (Ha n l) i=C3 l i:=G6 _ j o
theorem aA(h:l.Nodup)(j:0<=i)(o:i<l.length):C3 l (AA l i)=i:=by
 have q:=G2 (AF j o)
 grind [C3,AA,Gq]
def QZ(fm into at_:Fp)(n i:Int):Int:=if hasB into i=true then AA at_ (AA fm (C3 into i))else n+(A2 into i).length
def Tu(count:Nat)(fm into at_:Fp)(n:Int):Fp:=(Ag count).map (QZ fm into at_ n)
theorem XO(count:Nat)(fm into at_:Fp)(n:Int):(Tu count fm into at_ n).length=count:=by unfold Tu;rw[c8,Ap]
variable{count:Nat}
theorem gS{fm into at_:Fp}{n i:Int}(j:0<=i)(o:i<count):AA (Tu count fm into at_ n) i=QZ fm into at_ n i:=G6 _ j o
theorem KU(h:0<=i):((A2 l i).length:Int)<=i:=by grind[RF]
end Go.Sf.Sc
namespace Go.Sf.Sc
open Go Go.Sf
variable{α:Type}
theorem Vq{P:List α->Prop}(j:P [])(o:∀l a,P l->P (l++[a]))(l:List α):P l:=by
 have:∀l:List α,P l.reverse:=by
  intro l
  induction l with
  |nil=>exact j|cons a l q=>rw[List.reverse_cons];exact o _ _ q
 rw [<-List.reverse_reverse l];exact this _
def Pu(L:BM):BM:=L.foldl (fun m p=>m.set p.1 p.2) []
theorem aG(L:BM)(p:(Int×Int)×Int):Pu (L++[p])=(Pu L).set p.1 p.2:=by
 unfold Pu
 grind
def SC(L:BM):Prop:=∀p∈L,∀q∈L,p.1=q.1->p.2=q.2
variable{k:Int×Int}{v:Int}
theorem UB:∀{m:BM},m.look k=some v->(k,v)∈m
 |[],h=>by cases h
 |p::r,h=>by
  unfold BM.look at h;split at h
  .grind
  .exact List.mem_cons_of_mem _ (UB h)
theorem YP:∀{m:BM},m.look k=none->∀p∈m,p.1≠k
 |[],_,p,j=>by cases j
 |q::r,h,p,j=>by
  unfold BM.look at h;split at h
  .cases h
  .rename_i e;rcases List.mem_cons.1 j with rfl|j
   .exact e
   .exact YP h p j
theorem dR:∀{m:BM},m.look k=none->m.set k v=m++[(k,v)]
 |[],_=>rfl|p::r,h=>by
  unfold BM.look at h;unfold BM.set;split at h
  .cases h
  .rename_i e;rw[az e,dR h];rfl
theorem bM:∀{m:BM},m.look k=some v->m.set k v=m
 |[],h=>by cases h
 |p::r,h=>by
  unfold BM.look at h;unfold BM.set;split at h
  .grind
  .rename_i e;rw[az e,bM h]
theorem eH(V:List Fp)(p:(Int×Int)×Int):CY (CY V p) p=CY V p:=by
 unfold CY;split
 .apply List.ext_getElem?
  grind [Option.map_eq_map,Option.map_map,List.set_set]
 .rfl
theorem kR{m:BM}(hd:m.Dis){p:(Int×Int)×Int}(j:p∈m)(V:List Fp):CY (m.foldl CY V) p=m.foldl CY V:=by
 have o:m.Perm (m.erase p++[p]):=(List.perm_cons_erase j).trans (List.perm_append_singleton p (m.erase p)).symm;rw[<-WH hd o V,List.foldl_append];exact eH _ _
theorem SC.sub{L M:BM}(h:SC L)(j:∀p∈M,p∈L):SC M:=fun p o q u=>h p (j p o) q (j q u)
theorem ct(L:BM):SC L->(Pu L).Dis/\(∀p,p∈Pu L↔p∈L)/\∀V,(Pu L).foldl CY V=L.foldl CY V:=by
 refine Vq (P:=fun L=>SC L->(Pu L).Dis/\(∀p,p∈Pu L↔p∈L)/\∀V,(Pu L).foldl CY V=L.foldl CY V) (fun _=>⟨List.Pairwise.nil,fun p=>Iff.rfl,fun V=>rfl⟩) (fun L p o j=>?_) L;obtain⟨D,z,E⟩:=o (j.sub fun q u=>List.mem_append_left _ u);rw[aG];cases w:(Pu L).look p.1 with
 |none=>
  grind [dR,BM.set_dis]
 |some v=>
  have y:=UB w;have hv:v=p.2:=j (p.1,v) (List.mem_append_left _ ((z _).1 y)) p (by simp) rfl
  grind [bM,List.mem_singleton,kR]
def P5(L:BM):Bool:=mt (fun i=>mt (fun k=>decide ((AA L k).1=(AA L i).1)&&!decide ((AA L k).2=(AA L i).2)) 0 i) 0 L.length
variable{L:BM}
theorem Xy(h:P5 L=false):SC L:=by
 intro p u q w e;obtain⟨a,a0,a1,rfl⟩:=BR u;obtain⟨b,y,z,rfl⟩:=BR w;unfold P5 at h;rw[Bt]at h;by_cases j:a=b
 .rw[j]
 by_cases D:a<b
 .have o:=h b y z;rw[Bt]at o
  grind
 .have o:=h a a0 a1;rw[Bt]at o
  grind
theorem Z3(L:BM)(V:List Fp):LS (L.foldl CY V) V:=by
 induction L generalizing V with
 |nil=>rfl|cons p r j=>exact(j (CY V p)).trans (X5 V p)
end Go.Sf.Sc
namespace Go.Sf.Sc
open Go Go.Sf
variable{t:eb}{p g:d3}
theorem Tr{m:d4}{inj:Bool}(h:FU t p g m inj=0):Ee t p g=0/\Mm t p g m=0/\Xr t p g m:=by grind[Zj,FU]
theorem gR{m:d4}{inj:Bool}(h:FU t p g m inj=0):FU t p g m false=0:=by grind[Tr,FU]
variable{α:Type}
theorem RK[Inhabited α](l:List α):(Ag l.length).map (AA l)=l:=by grind[gN,c8,Ap,G6]
variable{β:Type}
theorem g7[Inhabited α](l:List α)(f:α->β):l.map f=(Ag l.length).map fun j=>f (AA l j):=by
 rw [show(fun j=>f (AA l j))=f∘AA l from rfl,<-List.map_map,RK]
theorem rn(hf:Ai t){m:d4}{inj:Bool}(h:FU t p g m inj=0):FB t p g m=some (SZ p g m,0):=by
 obtain ⟨j,w,o⟩:=Tr h;obtain⟨_,q,D,_⟩:=Mw j;unfold FB;rw[Xh hf,bs,az (by simp[j]),YX hf j,bs,az (by simp[w])];unfold Cd;have:=q.ea;have:=q.ec;have:=o.yW;rw[Ao (by unfold AU;omega),bs];rw[SU (by omega) (fun x u=>?_) p.ci]
 .rfl
 .obtain⟨i,y,z,rfl⟩:=BR u;exact(o.node i y z).1
theorem sN(hf:Ai t){m:d4}{inj:Bool}(h:FU t p g m inj=0):JG t p g m=some (SZ p g m,0):=by
 obtain ⟨z,E,w⟩:=Tr h;obtain⟨_,y,F,_⟩:=Mw z;have:=y.ea;have:=y.ec;have D:=w.yW;unfold JG C4;rw[Xj hf,bs,az (by simp[gR h]),Ao (by unfold AU;omega),bs,Ao (by unfold AU;omega),bs,bs];rw[OK (fun i=>d3.mk ((Ag p.ca.length).map fun j=>if j<i then AA g.ca (AA m.ca j)else AA p.ca j) p.ci) (a:=0) (b:=p.ca.length) (by omega)]
 .have e:((Ag p.ca.length).map fun j=>if j<(p.ca.length:Int)then AA g.ca (AA m.ca j)else AA p.ca j)=m.ca.map (AA g.ca):=by
   grind [g7,CH]
  rw [e];rfl
 .congr 1;rw[<-RK p.ca,c8,Ap]
  grind [CH,RK]
 .intro i o q;have u:=w.node i o (by omega);simp[Ap];rw[ae (by simpa using q),AC o (by omega),bs,AC u.1.1 u.1.2,bs,AC o (by rw[c8,Ap];exact q),bs,Gz _ o,AV (by omega) (by omega)]
  grind
 grind [c8,Ap]
variable{n:Nat}{f:Int->List α->Option (List α)}
theorem M6(q:Int->Bool)(F:Int->α)(h:∀i s,0<=i->i<(n:Int)->s.length<=i.toNat->f i s=some (if q i=true then s++[F i]else s)):nd f 0 n []=some (((Ag n).filter q).map F):=by
 have j:∀k:Nat,(((Ag k).filter q).map F).length<=k:=fun k=>by
  rw [c8];exact Nat.le_trans (List.length_filter_le _ _) (by rw[Ap];exact b6 _)
 have:=BY (f:=f) (s:=[]) (fun i=>((Ag i.toNat).filter q).map F) (a:=0) (b:=n) (by omega) rfl (fun i o u=>by
  grind [Dx])
 grind
theorem Zx{q:Int->Bool}{F:Int->α}:decide (0<((((Ag n).filter q).map F).length:Int))=mt q 0 n:=by
 rw [Bool.eq_iff_iff,yf,CM,c8];constructor
 .intro h;have j:(Ag n).filter q≠[]:=fun e=>by rw[e]at h;simp at h
  obtain ⟨x,y⟩:=List.exists_mem_of_ne_nil _ j
  grind [DU]
 .rintro⟨i,o,u,w⟩;have:i∈(Ag n).filter q:=List.mem_filter.2 ⟨DU.2 ⟨o,u⟩,w⟩
  grind
theorem iQ{x:Cb}(j:x.m.ca.length<=1000):DC x=some (EQ x.m.ca x.fm.ca):=by
 unfold DC;rw[M6 (fun i=>!hasB x.fm.ca i) (AA x.m.ca)]
 .rfl
 grind [AC,L7,hasB,AQ,AU]
theorem Vi{images fm:Fp}(j:images.length<=1000):Jk images fm=some (EQ images fm):=by
 unfold Jk;rw[M6 (fun i=>!hasB fm i) (AA images)]
 .rfl
 grind [Dm,hasB,OY,AC,AQ,AU]
theorem fD{x:Cb}(j:x.m.ca.length<=1000)(he:x.g.ci.length<=1000):C1 x=some ((Ag x.g.ci.length).filter (NX x.g x.fm x.m)):=by
 unfold C1;rw[iQ j,bs,M6 (NX x.g x.fm x.m) id]
 .rw[bs,List.map_id]
 .intro i s o q u;rw[AC o q,bs,L7,bs,L7,bs,L7,bs];unfold NX;change (if(!hasB x.m.ci i)=true then(if hasB (EQ x.m.ca x.fm.ca) (AA x.g.ci i).kp=true then some true else some (hasB (EQ x.m.ca x.fm.ca) (AA x.g.ci i).To)).bind _ else some false).bind _=_;cases hasB x.m.ci i<;>cases hasB (EQ x.m.ca x.fm.ca) (AA x.g.ci i).kp<;>cases hasB (EQ x.m.ca x.fm.ca) (AA x.g.ci i).To<;>simp[AQ (show s.length+[i].length<=AU by simp;unfold AU;omega)]
theorem fJ{l g:d3}{fm:BN}{m:d4}(j:m.ca.length<=1000)(he:g.ci.length<=1000):JF l g fm m=some ((Ag g.ci.length).filter (NX g fm m)):=by
 unfold JF;rw[Vi j,bs,M6 (NX g fm m) id]
 .rw[bs,List.map_id]
 .intro i s o q u;have hh:∀(l:Fp)(v:Int),Dm l v=some (hasB l v):=OY;simp[AC o q,hh];unfold NX;cases hasB m.ci i<;>cases hasB (EQ m.ca fm.ca) (AA g.ci i).kp<;>cases hasB (EQ m.ca fm.ca) (AA g.ci i).To<;>simp[AQ (show s.length+[i].length<=AU by simp;unfold AU;omega)]
variable{a i:Int}
theorem Qu{p:Int->Bool}(h:a<=i):mt p a (i+1)=(mt p a i||p i):=by
 rw [Bool.eq_iff_iff,Bool.or_eq_true,CM,CM]
 grind
theorem Wr{images fm:Fp}(J:images.length<=100){f:Int->Int->List IX->Option (List IX)}(hf:∀(i j:Int)s,0<=i->i<images.length->i<j->j<images.length->s.length<=20000->f i j s=some (if(decide (AA images i=AA images j)&&(!hasB fm i||!hasB fm j))=true then s++[IX.mk i j]else s)):
  ∃l,nd (fun(o:Int)(u:List IX)=>(nd (fun(q:Int)(s2:List IX)=>f o q s2) (AG (o+1)) (images.length:Int) u).bind fun s2=>some s2) 0 (images.length:Int) []=some l/\l.length<=10000/\decide (0<l.length)=y7 images fm:=by
 have key:=Mv (f:=fun(o:Int)(u:List IX)=>(nd (fun(q:Int)(s2:List IX)=>f o q s2) (AG (o+1)) (images.length:Int) u).bind fun s2=>some s2) (s:=[])
  (fun i s=>(s.length:Int)<=100*i/\decide (0<s.length)=mt (fun a=>mt (fun b=>decide (AA images a=AA images b)&&(!hasB fm a||!hasB fm b)) (a+1) images.length) 0 i) (a:=0) (b:=images.length) (by omega)
  (by refine⟨by simp,?_⟩;rw[Bt.2 (fun i z D=>by omega)];rfl) (fun i s o E F=>by
   have w:=Mv (f:=fun(q:Int)(s2:List IX)=>f i q s2) (s:=s)
    (fun j s'=>(s'.length:Int)<=100*i+(j-(i+1))/\decide (0<s'.length)=(decide (0<s.length)||mt (fun b=>decide (AA images i=AA images b)&&(!hasB fm i||!hasB fm b)) (i+1) j)) (a:=i+1) (b:=images.length) (by omega)
    (by refine⟨by have:=F.1;omega,?_⟩;rw[Bt.2 (fun i z D=>by omega),Bool.or_false]) (fun j s' K G y=>by
     refine ⟨_,hf i j s' o E (by omega) G (by have:=y.1;omega),?_,?_⟩
     .grind
     .rw[Qu (by omega),<-Bool.or_assoc,<-y.2]
      grind)
   grind [AV,Qu])
 obtain ⟨l,H,N,I⟩:=key;exact⟨l,H,by omega,I⟩
theorem dA{images fm:Fp}(G:images.length<=100):∃l,Fd images fm=some l/\l.length<=10000/\decide (0<l.length)=y7 images fm:=by
 unfold Fd;obtain⟨l,N,O⟩:=Wr (fm:=fm) G (f:=fun o q s2=>
  (idx images o).bind fun u=>
  (idx images q).bind fun w=>
  (if(decide (u=w))=true then((slices_Contains_int fm o).bind fun y=>
  (if(!y)=true then some true else((slices_Contains_int fm q).bind fun z=>
  some (!z))).bind fun D=>
  some (D))else some false).bind fun E=>
  if E=true then
  (AT s2 [IX.mk o q]).bind fun F=>
  some F
  else
  some s2) (fun i j s o H J I K=>by
   have hh:∀(l:Fp)(v:Int),slices_Contains_int l v=some (hasB l v):=L7;simp[AC o H,AC (show 0<=j by omega) I,hh]
   grind [AA,hasB,AQ,AU])
 grind
theorem dM{images fm:Fp}(G:images.length<=100):∃l,Fw images fm=some l/\l.length<=10000/\decide (0<l.length)=y7 images fm:=by
 unfold Fw;obtain⟨l,N,O⟩:=Wr (fm:=fm) G (f:=fun o q s2=>
  (idx images o).bind fun u=>
  (idx images q).bind fun w=>
  (if(decide (u=w))=true then((Dm fm o).bind fun y=>
  (if(!y)=true then some true else((Dm fm q).bind fun z=>
  some (!z))).bind fun D=>
  some (D))else some false).bind fun E=>
  if E=true then
  (AT s2 [IX.mk o q]).bind fun F=>
  some F
  else
  some s2) (fun i j s o H J I K=>by
   have hh:∀(l:Fp)(v:Int),Dm l v=some (hasB l v):=OY;simp[AC o H,AC (show 0<=j by omega) I,hh]
   grind [AA,hasB,AQ,AU])
 grind
variable{l:Fp}
theorem ar(h:n<=1000):Li n l=some (A2 l n):=by
 unfold Li;rw[UU (f:=Dm l) (by omega) (by omega) (fun i=>OY l i)];rfl
theorem aX{images fm:Fp}(z:n<=1000)(hi:∀x∈images,0<=x/\x<n):GL n images fm=some (A2 (EQ images fm) n):=by
 unfold GL F9;rw[ae (by omega),bs];rw[BY (fun i=>(Ag n).map fun k=>mt (fun j=>!hasB fm j&&decide (AA images j=k)) 0 i) (by omega)]
 .rw[bs,c8,Ap,M6 (fun i=>!hasB (EQ images fm) i) id]
  .rw[bs,List.map_id];rfl
  .intro i s o q F;rw[AC o (by rw[c8,Ap];exact q),bs,G6 _ o q];have e:mt (fun j=>!hasB fm j&&decide (AA images j=i)) 0 images.length=hasB (EQ images fm) i:=by
    rw [Bool.eq_iff_iff,CM,B3,T9];constructor
    .rintro⟨j,w,y,h⟩;rw[sr,yf]at h
     grind [B3]
    .rintro⟨j,⟨w,y⟩,H,h⟩;refine⟨j,w,y,?_⟩;rw[sr,yf]
     grind [hasB,B3]
   grind [hasB,EQ,AQ,AU]
 .refine List.ext_getElem (by simp[Ap]) (fun k D E=>?_)
  grind [Int.toNat_natCast,Bt]
 .intro i o q;have u:=hi _ (AF o q);have hh:∀(l:Fp)(v:Int),slices_Contains_int l v=some (hasB l v):=L7;rw[AC o q,bs,hh,bs];cases G:hasB fm i
  .rw[ae (by decide),AC u.1 (by rw[c8,Ap];exact u.2),bs,Gz _ u.1]
   grind [CH,Qu,AA]
  grind [CH,Qu]
theorem dZ{a b:Nat}(j:a<=10000)(o:b<=10000):decide (0<AG ((a:Int)+(b:Int)))=(decide (0<a)||decide (0<b)):=by
 rw [AV (by omega) (by omega),Bool.eq_iff_iff,Bool.or_eq_true]
 grind
theorem rh{l g:d3}{fm:BN}{m:d4}(D:RL fm):GU l g fm m=some (NV l g fm m):=by
 unfold GU Cq NV;simp only[];rw[ZD,bs,dB D,bs];by_cases o:¬HH l g m=0
 .grind
 have o:=Classical.not_not.1 o;rw[az (by simp[o]),bs,az (show¬HH l g m≠0 by simp[o])];refine CN fun N=>?_;have j:=Ur o;have a1:=j.ga.ea;have a2:=j.ga.ec;have a3:=j.yW;have Q:=j.zb;have S:=j.gb.ea;have U:=j.gb.ec;unfold DW;obtain⟨u,E,G,H⟩:=dA (fm:=fm.ca) (images:=m.ca) (by omega);obtain⟨v,I,J,K⟩:=dA (fm:=fm.ci) (images:=m.ci) (by omega);simp only[];rw[E,bs,I,bs,bs];simp only[];rw[dZ G J,H,K];refine Zi fun O=>?_;rw[fD (by show m.ca.length<=1000;omega) (by show g.ci.length<=1000;omega),bs];have e:=Zx (n:=g.ci.length) (q:=NX g fm m) (F:=id);rw[List.map_id]at e;rw[e];refine Zi fun P=>?_;rw[aX (by omega) (fun x w=>?_),bs,aX (by omega) (fun x w=>?_),bs]
 .rfl
 .obtain⟨i,y,z,rfl⟩:=BR w;exact(j.edge i y z).1
 .obtain⟨i,y,z,rfl⟩:=BR w;exact(j.node i y z).1
theorem sG{l g:d3}{fm:BN}{m:d4}(w:RL fm):Qi l g fm m=some (NV l g fm m):=by
 unfold Qi O8 NV;rw[ZL,bs,Xk w,bs];by_cases o:¬HH l g m=0
 .grind
 have o:=Classical.not_not.1 o;rw[az (by simp[o]),bs,az (show¬HH l g m≠0 by simp[o])];refine CN fun I=>?_;have j:=Ur o;have a1:=j.ga.ea;have a2:=j.ga.ec;have a3:=j.yW;have N:=j.zb;have O:=j.gb.ea;have P:=j.gb.ec;obtain⟨u,y,z,D⟩:=dM (fm:=fm.ca) (images:=m.ca) (by omega);obtain⟨v,E,G,H⟩:=dM (fm:=fm.ci) (images:=m.ci) (by omega);rw[y,bs,E,bs,dZ z G,D,H];refine Zi fun J=>?_;rw[fJ (by omega) (by omega),bs];have e:=Zx (n:=g.ci.length) (q:=NX g fm m) (F:=id);rw[List.map_id]at e;rw[e];refine Zi fun K=>?_;rw[Vi (by omega),bs,ar (by omega),bs,Vi (by omega),bs,ar (by omega),bs];rfl
end Go.Sf.Sc
namespace Go.Sf.Sc
open Go Go.Sf
variable{α β:Type}
theorem Sb[Inhabited α]{l:List α}{F:α->β}{f:Int->List β->Option (List β)}(h:∀(i:Int)s,0<=i->i<l.length->s.length<=i.toNat->f i s=some (s++[F (AA l i)])):nd f 0 l.length []=some (l.map F):=by
 have:=BY (f:=f) (s:=[]) (fun i=>(l.take i.toNat).map F) (a:=0) (b:=l.length) (by omega) (by simp) (fun i j o=>by
  grind [c8,cE,Bh])
 rwa [Int.toNat_natCast,List.take_length]at this
variable{n:Nat}{l:Fp}
theorem dE(H:n<=1000)(z:l.length<=1000)(q:l.Pairwise (·<·)):Lv n l=some (Ha n l):=by
 unfold Lv F9;rw[ae (by omega),bs,Int.toNat_natCast,List.length_replicate,BY (fun i=>(Ag n).map fun j=>if j<i then C3 l j else 0) (by omega)]
 .rw[bs];congr 1;exact CH fun j D u=>ae u
 .refine List.ext_getElem (by simp[Ap]) (fun k E I=>?_);have e:(Ag n)[k]'(by simpa[Ap]using E)=(k:Int):=by simp[Ag]
  simp only[List.getElem_map,List.getElem_replicate,e];rw[az (by omega)]
 .intro i w G;rw[So z q,bs,AC w (by rw[c8,Ap];exact G),bs];have e:∀v:Int,v=C3 l i->some (Av ((Ag n).map fun j=>if j<i then C3 l j else 0) i v)=some ((Ag n).map fun j=>if j<i+1 then C3 l j else 0):=by
   rintro v rfl;rw[Gz _ w];congr 1;refine CH fun j D u=>?_;by_cases e:j=i
   .rw[ae e,ae (by omega),e]
   .rw[az e];by_cases y:j<i
    .rw[ae y,ae (by omega)]
    .rw[az y,az (by omega)]
  cases o:hasB l i with
  |false=>
   rw [ae (by rfl)];exact e _ (XY fun F=>by rw[B3.2 F]at o;cases o).symm
  |true=>
   rw [az (by simp)];exact e _ (VW q (B3.1 o))
theorem ac(K:n<=1000)(N:l.length<=1000)(F:l.Nodup):Lh l n=some (Ha n l):=by
 unfold Lh;rw[BY (fun k=>(Ag k.toNat).map (C3 l)) (by omega) (by rfl)]
 .rfl
 .intro k u O;have q:((Ag k.toNat).map (C3 l)).length=k.toNat:=by rw[c8,Ap]
  have J:(Ag k.toNat).map (C3 l)++[-1]=(Ag (k+1).toNat).map fun j=>if j<k then C3 l j else if C3 l k<0 then C3 l k else -1:=by
   rw [Dx u,List.map_append];congr 1
   .grind[List.map_congr_left,DU]
   .rw[List.map_singleton,az (by omega)];have:=QK l k
    grind
  rw [AQ (by rw[q];simp;unfold AU;omega),bs,J,BY (fun i=>(Ag (k+1).toNat).map fun j=>if j<k then C3 l j else if C3 l k<i then C3 l k else -1) (by omega) rfl]
  .rw[bs];congr 1;refine List.map_congr_left fun j G=>?_;have:=DU.1 G;split
   .rfl
   .have e:j=k:=by omega
    rw [ae (QK l k).2,e]
  .intro i w y;rw[AC w y,bs];by_cases e:AA l i=k
   .have z:C3 l k=i:=by rw[<-e];exact aA F w y
    rw [ae (by simp[e]),AC u (by rw[c8,Ap];omega),bs,Gz _ u];congr 1;refine CH fun j H I=>?_;by_cases D:j=k
    .rw[ae D,az (by omega),ae (by omega),z]
    .rw[az D];by_cases o:j<k
     .rw[ae o,ae o]
     .omega
   .have z:C3 l k≠i:=fun h=>by
     have:=(G2 (Nf.1 (show 0<=C3 l k by omega))).2.2.1;rw[h]at this;exact e this
    rw [az (by simp[e])];congr 1;refine CH fun j H I=>?_;by_cases o:j<k
    .rw[ae o,ae o]
    .rw[az o,az o];by_cases E:C3 l k<i
     .rw[ae E,ae (by omega)]
     .rw[az E,az (by omega)]
structure Ui(count:Nat)(fm into at_:Fp):Prop where
 few:count<=1000
 nodup:into.Nodup
 len:into.length=fm.length
 inn:∀x∈into,0<=x/\x<count
 kin:∀x∈fm,0<=x/\x<at_.length
 pos:∀x∈fm,0<=AA at_ x
theorem aI(j:l.Nodup)(h:∀x∈l,0<=x/\x<n):l.length<=n:=by
 have:=List.Nodup.length_le_of_subset (l₁:=l) (l₂:=Ag n) j (fun x o=>DU.2 (h x o))
 rwa [Ap]at this
variable{i:Int}
theorem QE(h:0<=i):((A2 l (i+1)).length:Int)=(A2 l i).length+if i∈l then 0 else 1:=by grind[N9,bk,hasB,B3]
theorem Rk{fm into at_:Fp}{n i:Int}(h:i∈into):QZ fm into at_ n i=AA at_ (AA fm (C3 into i)):=by grind[QZ,B3]
theorem SL{fm into at_:Fp}{n i:Int}(h:i∉into):QZ fm into at_ n i=n+(A2 into i).length:=by grind[QZ,B3]
variable{count:Nat}
theorem Ye{fm into at_:Fp}{n:Int}(h:Ui count fm into at_)(E:0<=n)(F:n<=1000):FQ fm into count at_ n=some (Tu count fm into at_ n):=by
 have G:=h.few;have y:=aI h.nodup h.inn;have z:=h.len;unfold FQ;rw[ac h.few (by omega) h.nodup,bs,BY (fun i=>(n+((A2 into i).length:Int),(Ag i.toNat).map (QZ fm into at_ n))) (by omega) (by simp[A2,Ag])]
 .rfl
 .intro i o w;have H:=KU (l:=into) o;have j:((Ag i.toNat).map (QZ fm into at_ n)).length=i.toNat:=by rw[c8,Ap]
  rw [AC o (by rw[JV];exact w),bs,Vs o w];by_cases hi:i∈into
  .have u:=G2 hi;have D:=AF (l:=fm) u.1 (by omega);have q:=h.kin _ D;rw[ae (by simpa using u.1),bs,AC u.1 (by omega),bs,AC q.1 q.2,bs,AQ (by rw[j];simp;unfold AU;omega),bs,Dx o,List.map_append,QE o,ae hi,Int.add_zero,List.map_singleton,Rk hi]
  .rw[az (by rw[yf,Nf];exact hi),AQ (by rw[j];simp;unfold AU;omega),bs,Dx o,List.map_append,QE o,az hi,List.map_singleton,SL hi,AV (by omega) (by omega),Int.add_assoc]
theorem YU{fm into o q:Fp}{n:Int}(h:Ui count fm into (o.map (AA q)))(K:∀x∈o,0<=x/\x<q.length)(U:0<=n)(V:n<=1000):GG count fm into o q n=some (Tu count fm into (o.map (AA q)) n):=by
 have Y:=h.few;have N:=aI h.nodup h.inn;have O:=h.len;unfold GG D8;rw[ae (by refine⟨rfl,by omega,by omega⟩),bs,Int.toNat_natCast];rw[BY (fun i=>(Ag count).map fun k=>if 0<=C3 into k/\C3 into k<i then QZ fm into (o.map (AA q)) n k else -1) (by omega)]
 .rw[bs,c8,Ap,BY (fun i=>(n+((A2 into i).length:Int),(Ag count).map fun k=>if k<i\/k∈into then QZ fm into (o.map (AA q)) n k else -1)) (by omega)]
  .rw[bs];congr 1;exact CH fun j H F=>ae (.inl F)
  .show _=(n,_);congr 1
   .simp[A2]
   .refine CH fun j H F=>?_;have J:=Nf (l:=into) (v:=j);have P:=QK into j;by_cases e:j∈into
    .rw[ae (.inr e),ae ⟨J.2 e,P.2⟩]
    .rw[az (by rintro(u|u);omega;exact e u),az fun u=>e (J.1 u.1)]
  .intro i y D;have Z:=KU (l:=into) y;rw[AC y (by rw[c8,Ap];exact D),bs,G6 _ y D];by_cases hi:i∈into
   .have Q:=G2 hi;have I:=AF (l:=fm) Q.1 (by have:=h.len;omega);have hp:=h.pos _ I;rw[ae (show i<i\/i∈into from .inr hi),Rk hi,az (by rw[yf];omega),QE y,ae hi,Int.add_zero];congr 2;refine CH fun j H F=>?_;by_cases e:j<i\/j∈into
    .rw[ae e,ae (e.imp (fun h=>by omega) id)]
    .rw[az e,az];rintro(u|u)
     .have:j=i:=by
       have:=fun hh=>e (.inl hh);omega
      exact e (.inr (this▸hi))
     .exact e (.inr u)
   .rw[az (show¬(i<i\/i∈into)by rintro(u|u);omega;exact hi u),ae (by decide),bs,QE y,az hi,AV (by simp;omega) (by simp;omega),Gz _ y,Int.add_assoc];congr 2;refine CH fun j H F=>?_;by_cases z:j=i
    .rw[ae z,ae (.inl (by omega)),z,SL hi]
    .rw[az z];by_cases e:j<i\/j∈into
     .rw[ae e,ae (e.imp (fun h=>by omega) id)]
     .rw[az e,az];rintro(u|u)
      .exact e (.inl (by omega))
      .exact e (.inr u)
 .refine List.ext_getElem (by simp[Ap]) (fun k W X=>?_);simp only[List.getElem_map,List.getElem_replicate];rw[az (by omega)];rfl
 .intro i y D;have E:=h.inn _ (AF y D);have I:=AF (l:=fm) y (by have:=h.len;omega);have w:=h.kin _ I;rw[c8]at w;have G:=K _ (AF w.1 w.2);rw[AC y D,bs,AC y (by have:=h.len;omega),bs,AC w.1 w.2,bs,AC G.1 G.2,bs,AC E.1 (by rw[c8,Ap];exact E.2),bs,Gz _ E.1];congr 1;refine CH fun j H F=>?_;by_cases z:j=AA into i
  .have e:=aA h.nodup y D;rw[ae z,z,e,ae ⟨y,by omega⟩,Rk (AF y D),e,PK w.1 w.2]
  .rw[az z];by_cases e:0<=C3 into j/\C3 into j<i
   .rw[ae e,ae ⟨e.1,by omega⟩]
   .rw[az e,az];rintro⟨u,h2⟩;have S:C3 into j=i:=by
     have:=fun hh=>e ⟨u,hh⟩;omega
    have:=(G2 (Nf.1 u)).2.2.1;rw[S]at this;exact z this.symm
theorem Wx{images j:Fp}(o:images.length<=1000)(q:∀x∈images,0<=x/\x<j.length):G3 images j=some (images.map (AA j)):=by
 unfold G3
 grind [Sb,AA,AF,AC,AQ,AU]
end Go.Sf.Sc
namespace Go.Sf.Sc
open Go Go.Sf
def Hb(h:ff)(d:BN):d4:=⟨Ha h.d3.ca.length d.ca,Ha h.d3.ci.length d.ci⟩
def xc(r:f0)(h:ff)(m:d4)(d:BN):d4:=
 ⟨Tu r.fl.d3.ca.length r.qo.ca r.o4.ca (m.ca.map (AA (Hb h d).ca)) d.ca.length,
 Tu r.fl.d3.ci.length r.qo.ci r.o4.ci (m.ci.map (AA (Hb h d).ci)) d.ci.length⟩
def ko(t:eb)(k:Int):Fp:=(Ak t k).map fun x=>x.ze
def eX(tr:Fp)(e:Bn):Bn:=⟨e.kl,AA tr e.kp,AA tr e.To⟩
def Nk(r:f0)(x:ff)(i:Int):Fp:=x.d3.ca++(A2 r.o4.ca i).map (AA r.fl.d3.ca)
def Nl(t:eb)(r:f0)(x:ff)(i:Int):List Fp:=x.ej++(A2 r.o4.ca i).map fun k=>ko t (AA r.fl.d3.ca k)
def Pn(r:f0)(c:d4)(x:ff)(i:Int):List Bn:=x.d3.ci++(A2 r.o4.ci i).map fun k=>eX c.ca (AA r.fl.d3.ci k)
def CR(t:eb)(r:f0)(x:ff)(c:d4):ff:=⟨⟨Nk r x r.fl.d3.ca.length,Pn r c x r.fl.d3.ci.length⟩,Nl t r x r.fl.d3.ca.length⟩
def Bx(h:ff)(d:BN):ff:=⟨⟨d.ca.map (AA h.d3.ca),d.ci.map fun x=>eX (Hb h d).ca (AA h.d3.ci x)⟩,d.ca.map (AA h.ej)⟩
structure I0(x:ff):Prop where
 ea:x.d3.ca.length<=1000
 ec:x.d3.ci.length<=1000
 vals:x.ej.length<=1000
 rows:∀v∈x.ej,v.length<=1000
structure Vz(t:eb)(r:f0)(c:d4):Prop where
 hf:Ai t
 hv:(As t).2=0
 g:CQ r.fl.d3
 kind:∀n∈r.fl.d3.ca,0<=n/\n<t.ca.length
 cn:c.ca.length=r.fl.d3.ca.length
variable{t:eb}{r:f0}{c:d4}
theorem ob(h:Vz t r c){n:Int}(j:n∈r.fl.d3.ca):(Ak t n).length<=600:=by
 have:=h.kind n j;exact Gg h.hf (Int.le_refl _) (C6 h.hv).par this.2
variable{x:ff}
theorem UQ(h:I0 x):HI x=some x:=by
 have:=h.ea;have:=h.ec;have:=h.vals;unfold HI C4;rw[Ao (by unfold AU;omega),bs,Ao (by unfold AU;omega),bs,bs];rw[BY (fun i=>ff.mk x.d3 (x.ej.take i.toNat)) (by omega) (by rfl)]
 .rw[Int.toNat_natCast,List.take_length];rfl
 .intro i j o;have:=h.rows _ (AF j o)
  grind [AC,Ao,AU,AQ,Bh]
theorem fC(h:I0 x):J9 x=some x:=by
 have:=h.ea;have:=h.ec;have:=h.vals;unfold J9 slices_Clone_int Cd;rw[Ao (by unfold AU;omega),bs,Ao (by unfold AU;omega),bs];rw[BY (fun i=>ff.mk x.d3 (x.ej.take i.toNat)) (by omega) (by rfl)]
 .rw[Int.toNat_natCast,List.take_length];rfl
 .intro i j o;have:=h.rows _ (AF j o)
  grind [AC,Ao,AU,AQ,Bh]
variable{α:Type}{i:Int}
theorem DG(l:Fp)(F:Int->α)(h:0<=i):(A2 l (i+1)).map F=(A2 l i).map F++if i∈l then[]else[F i]:=by grind[N9,hasB,B3]
theorem VH(l:Fp)(i:Int):Hr l i=some (!hasB l i):=by
 unfold Hr hasB;rw[BW (fun j=>decide (i=AA l j)) false,H0]
 .cases mt (fun j=>decide (i=AA l j)) 0 l.length<;>rfl
 grind [AC,AA]
theorem sL(h:Vz t r c)(w:I0 x):Lo t r x c=some (CR t r x c):=by
 have J:=h.g.ea;have K:=h.g.ec;have x1:=w.ea;have N:=w.ec;have O:=w.vals;unfold Lo;rw[OK (fun i=>ff.mk (d3.mk (Nk r x i) x.d3.ci) (Nl t r x i)) (a:=0) (b:=r.fl.d3.ca.length) (by omega)]
 .rw[Ba,OK (fun i=>ff.mk (d3.mk (Nk r x r.fl.d3.ca.length) (Pn r c x i)) (Nl t r x r.fl.d3.ca.length)) (a:=0) (b:=r.fl.d3.ci.length) (by omega)]
  .rfl
  .grind[Pn,A2]
  .intro i o q;have D:=KU (l:=r.o4.ci) o;have he:=h.g.fit _ (AF o q);have E:=h.cn;rw[ae (by simpa using q),VH,bs];by_cases hi:i∈r.o4.ci
   .grind[B3,Pn,DG,AV]
   .have u:hasB r.o4.ci i=false:=by cases u:hasB r.o4.ci i with|false=>rfl|true=>exact absurd (B3.1 u) hi
    rw [u,ae (by decide),AC o q,bs,AC he.2.1.1 (by omega),bs,AC he.2.2.1 (by omega),bs,AQ (by unfold Pn;simp;unfold AU;omega),bs];unfold Pn;rw[DG _ _ o,az hi,AV (by simp;omega) (by simp;omega),c9];rfl
  .rw[az (by simp)]
 .unfold Nk Nl;simp[A2]
 .intro i o q;have D:=KU (l:=r.o4.ca) o;have y:=AF o q;have z:=h.kind _ y;have P:=ob h y;rw[ae (by simpa using q),VH,bs];by_cases hi:i∈r.o4.ca
  .grind[B3,Nk,Nl,DG,AV]
  .have u:hasB r.o4.ca i=false:=by cases u:hasB r.o4.ca i with|false=>rfl|true=>exact absurd (B3.1 u) hi
   rw [u,az (by decide),AC o q,bs,AQ (by unfold Nk;simp;unfold AU;omega),bs,bs,NE h.hf,H5 h.hv z.1 z.2,bs];simp;rw[Sb (F:=fun a=>a.ze) fun j s G H I=>?_]
   .rw[bs,AQ (by unfold Nl;simp;unfold AU;omega),bs];unfold Nk Nl;rw[DG _ _ o,az hi,DG _ _ o,az hi,AV (by omega) (by omega),c9,c9];rfl
   grind [AC,AQ,AU]
 .rw[az (by simp)]
theorem ox(hf:Ai t)(hv:(As t).2=0){k:Int}(q:0<=k)(o:k<t.ca.length):Jp t k=some (ko t k):=by
 have:=Gg hf (Int.le_refl _) (C6 hv).par o;unfold Jp;rw[Rx hf,H5 hv q o,bs];simp;rw[Sb (F:=fun a=>a.ze) fun j s u w y=>?_]
 .rfl
 grind [AC,AQ,AU]
structure Y8(h:ff)(d:BN):Prop where
 sm:I0 h
 len:h.ej.length=h.d3.ca.length
 ea:(∀x∈d.ca,0<=x/\x<h.d3.ca.length)/\d.ca.length<=1000
 ec:(∀x∈d.ci,0<=x/\x<h.d3.ci.length)/\d.ci.length<=1000
 ends:∀e∈h.d3.ci,(0≤e.kp/\e.kp<h.d3.ca.length)/\0≤e.To/\e.To<h.d3.ca.length
variable{h:ff}
theorem Yl{d:BN}(hd:Y8 h d):I0 (Bx h d):=by
 have o:=hd.ea.2;have q:=hd.ec.2;refine⟨by unfold Bx;simp;omega,by unfold Bx;simp;omega,by unfold Bx;simp;omega,fun v hv=>?_⟩;obtain⟨x,j,rfl⟩:=List.mem_map.1 hv;have:=hd.ea.1 x j;exact hd.sm.rows _ (AF this.1 (by rw[hd.len];exact this.2))
variable{R:f0}{M:AO}{C:d4}
theorem oo{d:BN}(u:Vz t R C)(hd:Y8 h d)(I:C.ci.length=R.fl.d3.ci.length)
  (z:∀i:Int,0<=i->i<R.fl.d3.ca.length->(AA C.ca i=d.ca.length+(A2 R.o4.ca i).length↔i∉R.o4.ca))
  (D:∀i:Int,0<=i->i<R.fl.d3.ci.length->(AA C.ci i=d.ci.length+(A2 R.o4.ci i).length↔i∉R.o4.ci)):
  IQ t (Ax.mk R M h (ff.mk (d3.mk [] []) []) (Hb h d) C) d=some (Ax.mk R M h (CR t R (Bx h d) C) (Hb h d) C):=by
 have J:=hd.ea.2;have K:=hd.ec.2;have N:=u.g.ea;have O:=u.g.ec;have G:=u.cn;unfold IQ;simp only[];rw[BY (fun i=>Ax.mk R M h (ff.mk (d3.mk ((d.ca.take i.toNat).map (AA h.d3.ca)) []) ((d.ca.take i.toNat).map (AA h.ej))) (Hb h d) C) (by omega) (by simp)]
 rotate_left
 .intro i j o;have q:=hd.ea.1 _ (AF j o);have w:=hd.len;have E:=hd.sm.rows _ (AF q.1 (by omega));rw[AC j o,bs,AC q.1 q.2,bs,AQ (by simp;unfold AU;omega),bs,AC q.1 (by omega),bs,Ao (by unfold AU;omega),bs,AQ (by simp;unfold AU;omega),bs,Hp j o,Hp j o]
 rw [bs,Int.toNat_natCast,List.take_length];rw[BY (fun i=>Ax.mk R M h (ff.mk (d3.mk (d.ca.map (AA h.d3.ca)) ((d.ci.take i.toNat).map fun x=>eX (Hb h d).ca (AA h.d3.ci x))) (d.ca.map (AA h.ej))) (Hb h d) C) (by omega) (by simp)]
 rotate_left
 .intro i j o;have q:=hd.ec.1 _ (AF j o);have he:=hd.ends _ (AF q.1 q.2);have w:(Hb h d).ca.length=h.d3.ca.length:=JV _ _;simp only[];rw[AC j o,bs,AC q.1 q.2,bs,AC he.1.1 (by omega),bs,AC he.2.1 (by omega),bs,AQ (by simp;unfold AU;omega),bs,Hp j o];rfl
 rw [bs,Int.toNat_natCast,List.take_length];rw[BY (fun i=>Ax.mk R M h (ff.mk (d3.mk (Nk R (Bx h d) i) (Bx h d).d3.ci) (Nl t R (Bx h d) i)) (Hb h d) C) (by omega) (by unfold Nk Nl;simp[A2,Bx])]
 rotate_left
 .intro i j o;have E:=KU (l:=R.o4.ca) j;have H:=AF j o;have F:=u.kind _ H;have w:(Nk R (Bx h d) i).length=d.ca.length+(A2 R.o4.ca i).length:=by unfold Nk Bx;simp
  have y:(Nl t R (Bx h d) i).length=d.ca.length+(A2 R.o4.ca i).length:=by unfold Nl Bx;simp
  simp only[w];rw[AC j o,bs,AC j (by omega),bs];by_cases hi:i∈R.o4.ca
  .rw[az (by rw[yf];push_cast;exact fun e=>(z i j o).1 e hi)];unfold Nk Nl;rw[DG _ _ j,ae hi,List.append_nil,DG _ _ j,ae hi,List.append_nil]
  .rw[ae (by rw[yf];push_cast;exact(z i j o).2 hi),AQ (by rw[w];simp;unfold AU;omega),bs,ox u.hf u.hv F.1 F.2,bs,AQ (by rw[y];simp;unfold AU;omega),bs];unfold Nk Nl;rw[DG _ _ j,az hi,DG _ _ j,az hi,c9,c9]
 rw [bs];rw[BY (fun i=>Ax.mk R M h (ff.mk (d3.mk (Nk R (Bx h d) R.fl.d3.ca.length) (Pn R C (Bx h d) i)) (Nl t R (Bx h d) R.fl.d3.ca.length)) (Hb h d) C) (by omega) (by unfold Pn;simp[A2,Bx])]
 rotate_left
 .intro i j o;have E:=KU (l:=R.o4.ci) j;have he:=u.g.fit _ (AF j o);have w:(Pn R C (Bx h d) i).length=d.ci.length+(A2 R.o4.ci i).length:=by unfold Pn Bx;simp
  simp only[w];rw[AC j o,bs,AC j (by omega),bs];by_cases hi:i∈R.o4.ci
  .rw[az (by rw[yf];push_cast;exact fun e=>(D i j o).1 e hi)];unfold Pn;rw[DG _ _ j,ae hi,List.append_nil]
  .rw[ae (by rw[yf];push_cast;exact(D i j o).2 hi),AC he.2.1.1 (by omega),bs,AC he.2.2.1 (by omega),bs,AQ (by rw[w];simp;unfold AU;omega),bs];unfold Pn;rw[DG _ _ j,az hi,c9];rfl
 rw [bs];rfl
theorem b8(hf:Ai t){d:BN}(hh:(E4 t h).2=0)(u:Dg h.d3 d=0)(hd:Y8 h d):J4 t h d=some (Bx h d,0):=by
 have w:=hd.ea.2;unfold J4;rw[UR hf,bs,az (by simp[hh]),UP ⟨hd.ea.2,hd.ec.2⟩,az (by simp[u]),bs,az (by simp)];have e:Cg h.d3 d=(Bx h d).d3:=by
  unfold Cg Bx;congr 1;refine List.map_congr_left fun x j=>?_;have j:=hd.ec.1 x j;have he:=hd.ends _ (AF j.1 j.2)
  grind [eX,Hb,Vs]
 simp;rw[OK (fun i=>ff.mk (Cg h.d3 d) ((d.ca.take i.toNat).map (AA h.ej))) (a:=0) (b:=d.ca.length) (by omega) (by simp)]
 .rw[Int.toNat_natCast,List.take_length,Ba,e];rfl
 .intro i q o;have j:=hd.ea.1 _ (AF q o);have y:=hd.len;have z:=hd.sm.rows _ (AF j.1 (by omega));rw[ae (by simpa using o),AC q o,bs,AC j.1 (by omega),bs,Ao (by unfold AU;omega),bs,AQ (by simp;unfold AU;omega),bs,Hp q o,AV (by simp;omega) (by simp;omega)]
 .rw[az (by simp)]
end Go.Sf.Sc
namespace Go.Sf.Sc
open Go Go.Sf
def RH(c:d4)(vars:Fp)(s:Bw):(Int×Int)×Int:=((AA c.ca s.pc,s.kq),Cv s.jj vars)
def B0(r:f0)(c:d4)(vars:Fp):BM:=r.fl.ed.map (RH c vars)
def Pm(t:eb)(x:ff)(p:(Int×Int)×Int):Bool:=
 decide (p.2<(AA (Ak t (AA x.d3.ca p.1.1)) p.1.2).ze)||decide ((AA (Ak t (AA x.d3.ca p.1.1)) p.1.2).yl<p.2)
structure Ul(t:eb)(r:f0)(c:d4)(vars:Fp)(x:ff):Prop where
 hf:Ai t
 hv:(As t).2=0
 few:r.fl.ed.length<=1000
 fewv:vars.length<=1000
 slot:∀s∈r.fl.ed,(0<=s.pc/\s.pc<c.ca.length)/\(-1<=s.jj.Var/\s.jj.Var<vars.length)/\
  (0<=AA c.ca s.pc/\AA c.ca s.pc<x.d3.ca.length)/\(0<=s.kq/\s.kq<(Ak t (AA x.d3.ca (AA c.ca s.pc))).length)
 kind:∀n∈x.d3.ca,0<=n/\n<t.ca.length
 vlen:x.ej.length=x.d3.ca.length
 rows:∀i:Int,0<=i->i<x.d3.ca.length->(AA x.ej i).length=(Ak t (AA x.d3.ca i)).length
variable{L:BM}{i:Int}
theorem eA(o:0<=i)(q:i<=L.length)(h:∀j,0<=j->j<i->mt (fun k=>decide ((AA L k).1=(AA L j).1)&&!decide ((AA L k).2=(AA L j).2)) 0 j=false):SC (L.take i.toNat):=by grind[Xy,P5,Bt,cE,V7,KE]
def VY(L:BM)(i:Int):Bool:=mt (fun k=>decide ((AA L k).1=(AA L i).1)&&!decide ((AA L k).2=(AA L i).2)) 0 i
theorem kL(I:0<=i)(J:i<L.length)(y:SC (L.take i.toNat)):
  (((Pu (L.take i.toNat)).look (AA L i).1).isSome&&(!decide (((Pu (L.take i.toNat)).look (AA L i).1).getD 0=(AA L i).2)))=VY L i:=by
 obtain ⟨K,D,N⟩:=ct _ y;unfold VY;cases z:(Pu (L.take i.toNat)).look (AA L i).1 with
 |none=>
  rw [Option.isSome_none,Bool.false_and];refine Eq.symm (Bt.2 fun k u w=>?_);have q:AA L k∈L.take i.toNat:=by
   rw [<-KE (n:=i.toNat) (by omega)]
   grind [AF,cE]
  rw [decide_eq_false (YP z _ ((D _).2 q)),Bool.false_and]
 |some v=>
  have q:=(D _).1 (UB z);rw[Option.isSome_some,Bool.true_and,Option.getD_some];have o:∀k,0<=k->k<i->(AA L k).1=(AA L i).1->(AA L k).2=v:=fun k u w e=>by
   have F:AA L k∈L.take i.toNat:=by
    rw [<-KE (n:=i.toNat) (by omega)]
    grind [AF,cE]
   exact y _ F _ q e
  obtain ⟨k,u,w,E⟩:=BR q;rw[cE]at w;rw[KE (by omega)]at E;rw[Bool.eq_iff_iff,CM];constructor
  .intro h;refine⟨k,u,by omega,?_⟩;rw[E,decide_eq_true rfl,Bool.true_and];exact h
  .rintro⟨j,G,H,h⟩;rw[sr,yf]at h;rw[<-o j G H h.1];exact h.2
theorem Oj(r:f0)(c:d4)(vars:Fp)(j:0<=i)(o:i<r.fl.ed.length):AA (B0 r c vars) i=RH c vars (AA r.fl.ed i):=PK j o
theorem Jn(r:f0)(c:d4)(vars:Fp):(B0 r c vars).length=r.fl.ed.length:=c8 ..
variable{ρ:Type}
theorem Zl(L:BM)(v:ρ):fst (fun i=>if VY L i=true then some v else none) 0 L.length=if P5 L=true then some v else none:=M8
variable{t:eb}{R:f0}{M:AO}{B A:ff}{T C:d4}
theorem fB(h:Ul t R C M.fd A):Ht (Ax.mk R M B A T C)=some (if P5 (B0 R C M.fd)=true then([],11)else(Pu (B0 R C M.fd),0)):=by
 unfold Ht;simp only[];rw[Ho (a:=0) (s:=([]:BM)) (fun i=>Pu ((B0 R C M.fd).take i.toNat)) (fun i=>if VY (B0 R C M.fd) i=true then some ([],11)else none) (by omega) rfl]
 .have:=Zl (B0 R C M.fd) (([],11):BM×Int);rw[Jn]at this;rw[this];by_cases e:P5 (B0 R C M.fd)=true
  .rw[ae e,ae e];rfl
  .rw[az e,az e,<-Jn R C M.fd,Int.toNat_natCast,List.take_length];rfl
 .intro i o q D;have u:=h.slot _ (AF o q);have E:SC ((B0 R C M.fd).take i.toNat):=eA o (by rw[Jn];omega) fun j y z=>by
   have:=D j y z;split at this
   .cases this
   .rename_i e;exact Bool.eq_false_iff.2 e
  have w:=kL (L:=B0 R C M.fd) o (by rw[Jn];exact q) E;rw[AC o q,bs,aP u.2.1.1 u.2.1.2 h.fewv,bs,az (by simp),AC u.1.1 u.1.2,bs];rw[Oj R C M.fd o q]at w;simp[RH]at w;simp only[];by_cases e:VY (B0 R C M.fd) i=true
  .refine(ae (w.trans e)).trans ?_;rw[ae e];rfl
  .refine(az (fun h=>e (w.symm.trans h))).trans ?_;rw[az e,Bh o (by rw[Jn];exact q),aG,Oj R C M.fd o q];rfl
variable{α:Type}
theorem cv{f:α->K1}{g:α->Bool}:∀{l:List α},(∀p∈l,f p=some (g p))->zk f l=some (l.all g)
 |[],_=>rfl|p::r,h=>by
  unfold zk;rw[h p List.mem_cons_self,bs,cv fun q j=>h q (List.mem_cons_of_mem _ j),bs,List.all_cons]
variable{r:f0}{c:d4}{x:ff}
theorem bG{vars:Fp}(h:Ul t r c vars x){s:Bw}(u:s∈r.fl.ed){V:List Fp}(w:LS V x.ej):
  idx V (AA c.ca s.pc)=some (AA V (AA c.ca s.pc))/\idx (AA V (AA c.ca s.pc)) s.kq=some (AA (AA V (AA c.ca s.pc)) s.kq):=by
 have j:=h.slot s u;have hv:=h.vlen;have E:=h.rows _ j.2.2.1.1 j.2.2.1.2;have y:idx x.ej (AA c.ca s.pc)=some (AA x.ej (AA c.ca s.pc)):=AC j.2.2.1.1 (by omega);have z:idx (AA x.ej (AA c.ca s.pc)) s.kq=some (AA (AA x.ej (AA c.ca s.pc)) s.kq):=AC j.2.2.2.1 (by omega);obtain⟨D,x',a,b⟩:=w.idx y z;have o:=Ga a;have q:=Ga b;have F:=(List.getElem?_eq_some_iff.1 o.2.2).1;have e:AA V (AA c.ca s.pc)=D:=by
  grind [AC,Option.some.inj]
 have G:=(List.getElem?_eq_some_iff.1 q.2.2).1;refine⟨AC o.1 (by omega),?_⟩;rw[e];exact AC q.1 (by omega)
theorem kQ(h:Ul t R C M.fd A){p:(Int×Int)×Int}(u:p∈B0 R C M.fd):Ov t (Ax.mk R M B A T C) p=some (!Pm t A p):=by
 obtain ⟨s,q,rfl⟩:=List.mem_map.1 u;have j:=h.slot s q;have o:=h.kind _ (AF j.2.2.1.1 j.2.2.1.2);obtain⟨w,y⟩:=bG h q (V:=A.ej) rfl;unfold Ov Ou RH Pm;simp;rw[AC j.2.2.1.1 j.2.2.1.2,bs,Rx h.hf,H5 h.hv o.1 o.2,bs];simp;simp[AC j.2.2.2.1 j.2.2.2.2,w,y,Rw]
 grind
def Ia(t:eb)(x:ff)(L:BM):ff×Int:=
 if P5 L=true then(⟨⟨[],[]⟩,[]⟩,11)else if L.any (Pm t x)=true then(⟨⟨[],[]⟩,[]⟩,6)else(⟨x.d3,L.foldl CY x.ej⟩,0)
theorem rk(h:Ul t R C M.fd A):LM t (Ax.mk R M B A T C)=some ((Ia t A (B0 R C M.fd)).2,if(Ia t A (B0 R C M.fd)).2=0 then Ax.mk R M B (Ia t A (B0 R C M.fd)).1 T C else Ax.mk R M B A T C):=by
 unfold LM Ia;rw[fB h,bs];by_cases e:P5 (B0 R C M.fd)=true
 .grind
 .rw[az e,az (by simp),az e];obtain⟨q,u,w⟩:=ct _ (Xy (Bool.eq_false_iff.2 e));have o:zk (Ov t (Ax.mk R M B A T C)) (Pu (B0 R C M.fd))=some (!(B0 R C M.fd).any (Pm t A)):=by
   rw [cv (g:=fun p=>!Pm t A p) fun p j=>kQ h ((u p).1 j)]
   grind
  rw [ae (by simpa using(show List.Pairwise (fun x y:(Int×Int)×Int=>x.1≠y.1) _ from q)),o,bs]
  grind [B0,Pm,OF]
theorem vo{vars:Fp}(h:Ul t r c vars x):NG t r x c vars=some (Ia t x (B0 r c vars)):=by
 unfold NG Ia;rw[Ho (a:=0) (s:=ff.mk (d3.mk [] []) []) (fun _=>ff.mk (d3.mk [] []) []) (fun i=>if VY (B0 r c vars) i=true then some (ff.mk (d3.mk [] []) [],(11:Int))else none) (by omega) rfl]
 .have:=Zl (B0 r c vars) ((ff.mk (d3.mk [] []) [],(11:Int)));rw[Jn]at this;rw[this];by_cases e:P5 (B0 r c vars)=true
  .rw[ae e,ae e];rfl
  rw [az e,az e];show ek (some (Sum.inl _)) _ _=_;rw[Ba,Ho (a:=0) (s:=(x,ff.mk (d3.mk [] []) [])) (fun i=>(ff.mk x.d3 (((B0 r c vars).take i.toNat).foldl CY x.ej),ff.mk (d3.mk [] []) [])) (fun i=>if Pm t x (AA (B0 r c vars) i)=true then some (ff.mk (d3.mk [] []) [],(6:Int))else none) (by omega) rfl]
  .have:=cj (l:=B0 r c vars) (q:=Pm t x) (v:=(ff.mk (d3.mk [] []) [],(6:Int)));rw[Jn]at this;rw[this];by_cases o:(B0 r c vars).any (Pm t x)=true
   .rw[ae o,ae o];rfl
   .rw[az o,az o];show some (ff.mk x.d3 (((B0 r c vars).take (r.fl.ed.length:Int).toNat).foldl CY x.ej),(0:Int))=_
    grind [Jn,Int.toNat_natCast,List.take_length]
  .intro i u w _;have E:=AF u w;have j:=h.slot _ E;have y:=h.kind _ (AF j.2.2.1.1 j.2.2.1.2);obtain⟨G,H⟩:=bG h E (V:=((B0 r c vars).take i.toNat).foldl CY x.ej) (Z3 _ _);simp only[AC u w,bs];rw[Oe j.2.1.1 j.2.1.2,bs,AC j.1.1 j.1.2,bs,AC j.2.2.1.1 j.2.2.1.2,bs,NE h.hf,H5 h.hv y.1 y.2,bs];simp only[];rw[AC j.2.2.2.1 j.2.2.2.2,bs,bs,Rw,bs,G,bs,H,bs];rw[Oj r c vars u w,Bh u (by rw[Jn];exact w),List.foldl_append,Oj r c vars u w];show(if(Pm t x (RH c vars (AA r.fl.ed i)))=true then _ else _)=_;by_cases o:Pm t x (RH c vars (AA r.fl.ed i))=true
   .rw[ae o,ae o];rfl
   .rw[az o,az o];have:=Zv (p:=RH c vars (AA r.fl.ed i)) G H;exact congrArg (fun W=>some (Bf.next (σ:=ff×ff) (ρ:=ff×Int) (ff.mk x.d3 W,ff.mk (d3.mk [] []) []))) this
 .intro i u w _;have j:=h.slot _ (AF u w);rw[AC u w,bs,Oe j.2.1.1 j.2.1.2,bs];rw[Ho (a:=0) (s:=ff.mk (d3.mk [] []) []) (fun _=>ff.mk (d3.mk [] []) []) (fun k=>if(decide ((AA (B0 r c vars) k).1=(AA (B0 r c vars) i).1)&&!decide ((AA (B0 r c vars) k).2=(AA (B0 r c vars) i).2))=true then some (ff.mk (d3.mk [] []) [],(11:Int))else none) u rfl]
  .rw[M8];unfold VY;split<;>rfl
  .intro k z J _;have y:=h.slot _ (AF z (show k<r.fl.ed.length by omega));simp[AC u w,AC z (show k<r.fl.ed.length by omega)];rw[Oe y.2.1.1 y.2.1.2,bs,AC y.1.1 y.1.2,bs,AC j.1.1 j.1.2,bs,Oj r c vars u w,Oj r c vars z (by omega)];simp[RH];by_cases F:AA c.ca (AA r.fl.ed k).pc=AA c.ca (AA r.fl.ed i).pc<;>by_cases o:(AA r.fl.ed k).kq=(AA r.fl.ed i).kq<;>by_cases D:Cv (AA r.fl.ed i).jj vars=Cv (AA r.fl.ed k).jj vars
   all_goals first|(have I:¬Cv (AA r.fl.ed k).jj vars=Cv (AA r.fl.ed i).jj vars:=fun h=>D h.symm;simp[F,o,D,I,jV];done)|(simp[F,o,D,jV];done)
end Go.Sf.Sc
namespace Go.Sf.Sc
open Go Go.Sf
variable{t:eb}{r:f0}
theorem W8(h:DZ t r=0):EK t r.j4=0/\IM t r=0/\H8 t r.j4 r.d5=0:=by grind[DZ]
theorem cF(h:IM t r=0):r.fl.fd=r.j4.fd/\r.fl.ed.length<=10/\∀i:Int,0<=i->i<r.fl.ed.length->Mn t r.fl i=0:=by
 unfold IM at h;split at h
 .omega
 split at h
 .cases h
 split at h
 .cases h
 split at h
 .cases h
 rename_i j o q u;exact⟨by omega,by omega,WQ h⟩
variable{i:Int}
theorem fV{p:d7}(h:Mn t p i=0):(0<=(AA p.ed i).pc/\(AA p.ed i).pc<p.d3.ca.length)/\
  (0<=(AA p.ed i).kq/\(AA p.ed i).kq<(Ea t (AA p.d3.ca (AA p.ed i).pc)).1.length)/\-1<=(AA p.ed i).jj.Var/\(AA p.ed i).jj.Var<p.fd:=by
 unfold Mn at h;dsimp only at h;split at h
 .cases h
 split at h
 .cases h
 rename_i o j;simp[yf]at j;omega
structure Iq(t:eb)(r:f0)(h:ff)(m:AO):Prop where
 hf:Ai t
 fr:Ph r
 re:DZ t r=0
 he:(E4 t h).2=0
 at_:Vw t r.j4 h m
 co:ZQ (SZ r.j4.d3 h.d3 m.d4) h.d3 r.qo m.d4
abbrev dS(r:f0)(h:ff)(m:AO):BN:=Mj h.d3 r.qo m.d4
abbrev cS(r:f0)(h:ff)(m:AO):d4:=xc r h m.d4 (dS r h m)
variable{h:ff}{m:AO}
theorem Iq.hv(s:Iq t r h m):(As t).2=0:=(dQ s.re).1
theorem Iq.ro(s:Iq t r h m):gI t r:=(dQ s.re).2
theorem Iq.hh(s:Iq t r h m):Ix t h:=(Up s.hf s.he).2
theorem SY(hf:Ai t)(hv:(As t).2=0)(hh:Ix t h):I0 h:=by
 have q:=hh.g.ea;have u:=hh.g.ec;have w:=hh.len;refine⟨by omega,by omega,by omega,fun v j=>?_⟩;obtain⟨i,o,D,rfl⟩:=BR j;have y:=hh.row i o (by omega);have z:=Gg hf (Int.le_refl _) (C6 hv).par (hh.kind i o (by omega)).2;omega
theorem Iq.rem(s:Iq t r h m):Y8 h (dS r h m):=by
 have hh:=s.hh;have o:=hh.g.ea;have q:=hh.g.ec;have l1:=RF (EQ m.d4.ca r.qo.ca) h.d3.ca.length;have l2:=RF (EQ m.d4.ci r.qo.ci) h.d3.ci.length;exact⟨SY s.hf s.hv hh,hh.len,⟨fun x j=>Gx j,by show(A2 _ _).length<=1000;omega⟩,⟨fun x j=>Gx j,by show(A2 _ _).length<=1000;omega⟩,fun e he=>(hh.g.fit e he).2⟩
theorem Iq.part(s:Iq t r h m):Dg h.d3 (dS r h m)=0:=by
 unfold Dg;rw[az (by simp[s.hh.ge])];exact jL s.co
variable{count n:Nat}
theorem gT{fm into images:Fp}{A4:Fp}(few:count<=1000)(nodup:into.Nodup)(len:into.length=fm.length)(inn:∀x∈into,0<=x/\x<count)
  (kin:∀x∈fm,0<=x/\x<images.length)(o:∀x∈images,0<=x/\x<n)(hi:y7 images fm=false)(q:A4=EQ images fm):
  Ui count fm into (images.map (AA (Ha n (A2 A4 n))))/\(∀x∈fm,AA (images.map (AA (Ha n (A2 A4 n)))) x<(A2 A4 n).length)/\
  ∀x∈fm,AA (images.map (AA (Ha n (A2 A4 n)))) x=C3 (A2 A4 n) (AA images x)/\AA images x∈A2 A4 n:=by
 have e:∀x∈fm,AA (images.map (AA (Ha n (A2 A4 n)))) x=C3 (A2 A4 n) (AA images x)/\AA images x∈A2 A4 n:=fun x j=>by
  grind [AF,PK,Vs,QD,UA]
 refine ⟨⟨few,nodup,len,inn,fun x j=>by rw[c8];exact kin x j,fun x j=>?_⟩,fun x j=>?_,e⟩
 .rw[(e x j).1];exact Nf.2 (e x j).2
 .rw[(e x j).1];exact(QK _ _).2
theorem Iq.left(s:Iq t r h m):m.d4.ca.length=r.j4.d3.ca.length/\m.d4.ci.length=r.j4.d3.ci.length:=⟨s.at_.m.yW,s.at_.m.zb⟩
theorem Iq.AaO(s:Iq t r h m):Ui r.fl.d3.ca.length r.qo.ca r.o4.ca (m.d4.ca.map (AA (Hb h (dS r h m)).ca))/\
  (∀x∈r.qo.ca,AA (m.d4.ca.map (AA (Hb h (dS r h m)).ca)) x<(dS r h m).ca.length)/\
  ∀x∈r.qo.ca,AA (m.d4.ca.map (AA (Hb h (dS r h m)).ca)) x=C3 (dS r h m).ca (AA m.d4.ca x)/\AA m.d4.ca x∈(dS r h m).ca:=by
 have ro:=s.ro;have u:=ro.right.ea;refine gT (by omega) ro.inj.1 ?_ (fun x j=>?_) (fun x j=>?_) (fun x j=>?_) s.co.ea rfl
 .have:=ro.mor.yW;rw[this];exact c8 ..
 .obtain⟨i,o,q,rfl⟩:=BR j;exact(ro.mor.node i o q).1
 .have:=ro.part.ea.1 x j;have:=s.left.1;omega
 .obtain⟨i,o,q,rfl⟩:=BR j;exact(s.at_.m.node i o q).1
theorem Iq.AaV(s:Iq t r h m):Ui r.fl.d3.ci.length r.qo.ci r.o4.ci (m.d4.ci.map (AA (Hb h (dS r h m)).ci))/\
  (∀x∈r.qo.ci,AA (m.d4.ci.map (AA (Hb h (dS r h m)).ci)) x<(dS r h m).ci.length)/\
  ∀x∈r.qo.ci,AA (m.d4.ci.map (AA (Hb h (dS r h m)).ci)) x=C3 (dS r h m).ci (AA m.d4.ci x)/\AA m.d4.ci x∈(dS r h m).ci:=by
 have ro:=s.ro;have u:=ro.right.ec;refine gT (by omega) ro.inj.2 ?_ (fun x j=>?_) (fun x j=>?_) (fun x j=>?_) s.co.ec rfl
 .have:=ro.mor.zb;rw[this];exact c8 ..
 .obtain⟨i,o,q,rfl⟩:=BR j;exact(ro.mor.edge i o q).1
 .have:=ro.part.ec.1 x j;have:=s.left.2;omega
 .obtain⟨i,o,q,rfl⟩:=BR j;exact s.at_.m.edge i o q
theorem cW{fm into at_:Fp}(h:Ui count fm into at_)(j:∀x∈fm,AA at_ x<n)(o:0<=i)(q:i<count):AA (Tu count fm into at_ n) i=n+(A2 into i).length↔i∉into:=by
 rw [gS o q];constructor
 .intro e hi;rw[Rk hi]at e;have u:=G2 hi;have:=j _ (AF (l:=fm) u.1 (by have:=h.len;omega));omega
 .exact SL
theorem Iq.grow(s:Iq t r h m):Vz t r (cS r h m):=
 ⟨s.hf,s.hv,s.ro.right,(Hc s.ro.right s.ro.Aar).1,XO _ _ _ _ _⟩
theorem VL(l:Fp)(j:0<=i):∀(k:Nat),∃s,A2 l (i+k)=A2 l i++s
 |0=>⟨[],by simp⟩|k+1=>by
  obtain ⟨s,e⟩:=VL l j k
  grind [N9,c9]
variable{l:Fp}
theorem lu{i n:Int}(j:0<=i)(o:i<n)(h:i∉l):AA (A2 l n) (A2 l i).length=i/\((A2 l i).length:Int)<(A2 l n).length:=by
 obtain ⟨s,e⟩:=VL l (i:=i+1) (by omega) (n-(i+1)).toNat
 rw [show i+1+((n-(i+1)).toNat:Int)=n by omega,N9 l j]at e
 grind [hasB,B3,AA]
variable{α:Type}
theorem ql[Inhabited α]{l m:List α}(j:0<=i)(o:i<l.length):AA (l++m) i=AA l i:=by grind[M4]
theorem Zd[Inhabited α]{l m:List α}:AA (l++m) (l.length+n:Int)=AA m n:=by grind[M4,AA,Int.toNat_natCast]
variable{a:Int}
theorem kZ(h:0<=a):Hl t a a=true:=by
 unfold Hl;rw[show(a+1).toNat=a.toNat+1 by omega,Pw,az (by omega)];simp
theorem Iq.kindAt(s:Iq t r h m)(w:0<=i)(y:i<r.fl.d3.ca.length):
  (0<=AA (cS r h m).ca i/\AA (cS r h m).ca i<(CR t r (Bx h (dS r h m)) (cS r h m)).d3.ca.length)/\
  AA (CR t r (Bx h (dS r h m)) (cS r h m)).d3.ca (AA (cS r h m).ca i)<t.ca.length/\Hl t (AA (CR t r (Bx h (dS r h m)) (cS r h m)).d3.ca (AA (cS r h m).ca i)) (AA r.fl.d3.ca i)=true:=by
 obtain ⟨H,O,P⟩:=s.AaO;have I:AA (cS r h m).ca i=QZ r.qo.ca r.o4.ca (m.d4.ca.map (AA (Hb h (dS r h m)).ca)) (dS r h m).ca.length i:=gS w y;have el:(CR t r (Bx h (dS r h m)) (cS r h m)).d3.ca=(dS r h m).ca.map (AA h.d3.ca)++(IY r).map (AA r.fl.d3.ca):=rfl;rw[I,el,bk,c8,c8];by_cases hi:i∈r.o4.ca
 .have j:=G2 hi;have Q:=H.len;have q:=AF (l:=r.qo.ca) j.1 (by omega);have E:=P _ q;have F:=O _ q;have z:=H.pos _ q;rw[Rk hi];refine⟨⟨z,by push_cast;omega⟩,?_⟩;rw[ql z (by rw[c8];exact F),PK z F,E.1,(G2 E.2).2.2.1];have u:=s.ro.part.ea.1 _ q;have J:=s.left.1;have D:=s.at_.m.node _ u.1 (by omega);have K:=s.hh.kind _ D.1.1 D.1.2;have G:=s.ro.mor.node _ j.1 j.2.1;rw[j.2.2.1]at G;have N:AA (Cg r.j4.d3 r.qo).ca (C3 r.o4.ca i)=AA r.j4.d3.ca (AA r.qo.ca (C3 r.o4.ca i)):=PK j.1 (by omega);rw[G.2,N];exact⟨K.2,D.2⟩
 .have u:=lu w y hi;rw[SL hi];have o:((dS r h m).ca.map (AA h.d3.ca)).length=(dS r h m).ca.length:=c8 ..;refine⟨⟨by omega,?_⟩,?_⟩
  .have:((IY r).length:Int)=(A2 r.o4.ca r.fl.d3.ca.length).length:=rfl
   push_cast
   omega
  .rw[<-o,Zd,show IY r=A2 r.o4.ca r.fl.d3.ca.length from rfl,PK (by omega) u.2];show AA r.fl.d3.ca (AA (A2 r.o4.ca r.fl.d3.ca.length) (A2 r.o4.ca i).length)<(t.ca.length:Int)/\Hl t (AA r.fl.d3.ca (AA (A2 r.o4.ca r.fl.d3.ca.length) (A2 r.o4.ca i).length)) _=true;rw[u.1];have:=(Hc s.ro.right s.ro.Aar).1 _ (AF w y);exact⟨this.2,kZ this.1⟩
theorem Iq.rows(s:Iq t r h m):(CR t r (Bx h (dS r h m)) (cS r h m)).ej.map (fun v=>v.length)=(CR t r (Bx h (dS r h m)) (cS r h m)).d3.ca.map fun n=>(Ak t n).length:=by
 show (List.map _ (_++_))=List.map _ (_++_);rw[List.map_append,List.map_append];congr 1
 .show((dS r h m).ca.map (AA h.ej)).map _=((dS r h m).ca.map (AA h.d3.ca)).map _;rw[List.map_map,List.map_map];refine List.map_congr_left fun x j=>?_;have j:=s.rem.ea.1 x j;exact s.hh.row x j.1 j.2
 grind [List.map_map,List.map_congr_left,ko,c8]
theorem Iq.put(s:Iq t r h m):Ul t r (cS r h m) m.fd (CR t r (Bx h (dS r h m)) (cS r h m)):=by
 obtain ⟨S,J,U⟩:=W8 s.re;obtain⟨hv,V,E⟩:=cF J;have O:=s.at_.q.vars;have F:=s.at_.len;have z:=s.rows;have D:(CR t r (Bx h (dS r h m)) (cS r h m)).ej.length=(CR t r (Bx h (dS r h m)) (cS r h m)).d3.ca.length:=by
  grind [List.length,c8]
 refine ⟨s.hf,s.hv,by omega,by omega,fun x j=>?_,fun n o=>?_,D,fun i u y=>?_⟩
 .obtain⟨i,u,y,rfl⟩:=BR j;obtain⟨w,K,W⟩:=fV (E i u y);have G:=(Hc s.ro.right s.ro.Aar).1 _ (AF w.1 w.2);rw[H5 s.hv G.1 G.2]at K;obtain⟨X,N,H⟩:=s.kindAt w.1 w.2;replace H:=YN (C6 s.hv) N H;have I:(cS r h m).ca.length=r.fl.d3.ca.length:=XO _ _ _ _ _
  grind
 .have o:n∈(dS r h m).ca.map (AA h.d3.ca)++(IY r).map (AA r.fl.d3.ca):=o;rcases List.mem_append.1 o with o|o
  .obtain⟨x,j,rfl⟩:=List.mem_map.1 o;have j:=s.rem.ea.1 x j;exact s.hh.kind x j.1 j.2
  .obtain⟨x,j,rfl⟩:=List.mem_map.1 o;have j:=Gx j;exact(Hc s.ro.right s.ro.Aar).1 _ (AF j.1 j.2)
 .have P:=PK (l:=(CR t r (Bx h (dS r h m)) (cS r h m)).ej) (g:=fun v=>v.length) u (by omega);have Q:=PK (l:=(CR t r (Bx h (dS r h m)) (cS r h m)).d3.ca) (g:=fun n=>(Ak t n).length) u y
  grind
end Go.Sf.Sc
namespace Go.Sf.Sc
open Go Go.Sf
abbrev wv:f0:=f0.mk (⟨#[]⟩:ByteArray) (d7.mk (d3.mk [] []) [] 0 []) (d7.mk (d3.mk [] []) [] 0 []) (BN.mk [] []) (d4.mk [] []) false (d5.mk 0 [] (d4.mk [] []) (d7.mk (d3.mk [] []) [] 0 []))
abbrev zG:Ax:=Ax.mk wv (AO.mk (d4.mk [] []) []) (ff.mk (d3.mk [] []) []) (ff.mk (d3.mk [] []) []) (d4.mk [] []) (d4.mk [] [])
def ZB(t:eb)(r:f0)(h:ff)(m:AO):Ax×Int:=
 if (Ia t (CR t r (Bx h (dS r h m)) (cS r h m)) (B0 r (cS r h m) m.fd)).2≠0 then(zG,(Ia t (CR t r (Bx h (dS r h m)) (cS r h m)) (B0 r (cS r h m) m.fd)).2)else
 if 40<(Ia t (CR t r (Bx h (dS r h m)) (cS r h m)) (B0 r (cS r h m) m.fd)).1.d3.ca.length\/80<(Ia t (CR t r (Bx h (dS r h m)) (cS r h m)) (B0 r (cS r h m) m.fd)).1.d3.ci.length then(zG,3)else
 (Ax.mk r m h (Ia t (CR t r (Bx h (dS r h m)) (cS r h m)) (B0 r (cS r h m) m.fd)).1 (Hb h (dS r h m)) (cS r h m),0)
noncomputable def J0(t:eb)(r:f0)(h:ff)(m:AO):Ax×Int:=
 if DZ t r≠0 then(zG,DZ t r)else if(E4 t h).2≠0 then(zG,(E4 t h).2)else
 if FU t r.j4.d3 h.d3 m.d4 r.mo≠0 then(zG,1)else
 if (FV t r.j4 h m.d4).2≠0 then(zG,(FV t r.j4 h m.d4).2)else if¬(FV t r.j4 h m.d4).1=m.fd then(zG,11)else
 if (NV (SZ r.j4.d3 h.d3 m.d4) h.d3 r.qo m.d4).2≠0 then(zG,(NV (SZ r.j4.d3 h.d3 m.d4) h.d3 r.qo m.d4).2)else
 if (Mz t r.j4 r.d5 h m r.mo).2≠0 then(zG,(Mz t r.j4 r.d5 h m r.mo).2)else
 if (Mz t r.j4 r.d5 h m r.mo).1=false then(zG,16)else ZB t r h m
variable{t:eb}{r:f0}{h:ff}{m:AO}
theorem XN(j:DZ t r=0)(o:(E4 t h).2=0)(q:FU t r.j4.d3 h.d3 m.d4 r.mo=0)(u:(FV t r.j4 h m.d4).2=0)(w:(FV t r.j4 h m.d4).1=m.fd):Tq t r.j4 r.d5 h m r.mo=0:=by
 unfold Tq;rw[az (by simp[(W8 j).2.2]),az (by simp[o]),az (by simp[q]),az (by simp[u]),ae w]
theorem cp{X:Option (Ax×Int)}(hX:(Ia t (CR t r (Bx h (dS r h m)) (cS r h m)) (B0 r (cS r h m) m.fd)).2=0->X=
   if ((decide (40<((Ia t (CR t r (Bx h (dS r h m)) (cS r h m)) (B0 r (cS r h m) m.fd)).1.d3.ca.length:Int)))||(decide (80<((Ia t (CR t r (Bx h (dS r h m)) (cS r h m)) (B0 r (cS r h m) m.fd)).1.d3.ci.length:Int))))=true then some (zG,3)else
   some (Ax.mk r m h (Ia t (CR t r (Bx h (dS r h m)) (cS r h m)) (B0 r (cS r h m) m.fd)).1 (Hb h (dS r h m)) (cS r h m),0)):
  (if(!decide ((Ia t (CR t r (Bx h (dS r h m)) (cS r h m)) (B0 r (cS r h m) m.fd)).2=0))=true then some (zG,(Ia t (CR t r (Bx h (dS r h m)) (cS r h m)) (B0 r (cS r h m) m.fd)).2)else X)=some (ZB t r h m):=by
 unfold ZB;refine CN fun j=>?_;rw[hX j];refine GK (by simp;omega) fun _=>rfl
theorem r6(hf:Ai t)(fr:Ph r)(H:EH r.d5<=40)(h:ff)(m:AO):Jo t r h m=some (J0 t r h m):=by
 unfold Jo Lu J0;rw[Oc hf,bs];by_cases hv:¬(As t).2=0
 .grind[DZ,As]
 have hv:=Classical.not_not.1 hv;rw[az (by simp[hv]),iX hf fr,bs,Wn hf,bs];by_cases u:¬DZ t r=0
 .grind
 have u:=Classical.not_not.1 u;rw[az (by simp[u]),bs,az (show¬DZ t r≠0 by simp[u])];refine CN fun I=>?_;rw[Option.bind_fun_some];unfold Lt JP;rw[Xc hf,bs];by_cases w:¬FU t r.j4.d3 h.d3 m.d4 r.mo=0
 .grind
 have w:=Classical.not_not.1 w;rw[az (by simp[w]),cx hf,bs,az (show¬FU t r.j4.d3 h.d3 m.d4 r.mo≠0 by simp[w])];by_cases z:¬(FV t r.j4 h m.d4).2=0
 .grind
 have z:=Classical.not_not.1 z;rw[az (by simp[z]),nX,bs,az (show¬(FV t r.j4 h m.d4).2≠0 by simp[z])];by_cases D:¬(FV t r.j4 h m.d4).1=m.fd
 .grind
 have D:=Classical.not_not.1 D;rw[az (by simp[D]),bs,az (by simp),az (show¬¬(FV t r.j4 h m.d4).1=m.fd by simp[D])];rw[rn hf w,bs,az (by simp),rh fr.fm,bs];refine CN fun J=>?_;obtain⟨_,_,_,E⟩:=WD hf H (XN u I w z D);obtain⟨co,U⟩:=XP J;rw[bz hf _ fr.cond H,bs,U];refine CN fun V=>?_;refine WE fun W=>?_;have s:Iq t r h m:=⟨hf,fr,u,I,E,co⟩;have y:=s.rem;have X:=s.hh.g.ea;have Y:=s.hh.g.ec;have l1:=s.left.1;have l2:=s.left.2;have Z:=s.ro.left.ea;have g4:=s.ro.left.ec;have N:=E.len;have O:=E.q.vars;have G:JO m=some m:=by
  unfold JO slices_Clone_int;rw[Ao (by unfold AU;omega),bs,Ao (by unfold AU;omega),bs,Ao (by unfold AU;omega),bs]
 simp only[];rw[G,bs,fC y.sm,bs];rw[dE (by omega) y.ea.2 (NI _ _),bs,dE (by omega) y.ec.2 (NI _ _),bs];have P:GG r.fl.d3.ca.length r.qo.ca r.o4.ca m.d4.ca (Ha h.d3.ca.length (dS r h m).ca) (Mj h.d3 r.qo m.d4).ca.length=some (cS r h m).ca:=
  YU s.AaO.1 (fun x F=>by rw[JV];obtain⟨i,j,o,rfl⟩:=BR F;exact(E.m.node i j o).1) (by omega) (Int.ofNat_le.2 y.ea.2)
 have Q:GG r.fl.d3.ci.length r.qo.ci r.o4.ci m.d4.ci (Ha h.d3.ci.length (dS r h m).ci) (Mj h.d3 r.qo m.d4).ci.length=some (cS r h m).ci:=
  YU s.AaV.1 (fun x F=>by rw[JV];obtain⟨i,j,o,rfl⟩:=BR F;exact E.m.edge i j o) (by omega) (Int.ofNat_le.2 y.ec.2)
 rw [P,bs,Q,bs];have S:=oo (M:=m) s.grow y (XO _ _ _ _ _) (fun i j o=>cW s.AaO.1 s.AaO.2.1 j o) (fun i j o=>cW s.AaV.1 s.AaV.2.1 j o);change ((IQ t (Ax.mk r m h (ff.mk (d3.mk [] []) []) (Hb h (dS r h m)) (cS r h m)) (dS r h m)).bind _)=_;rw[S,bs,rk s.put,bs];exact cp fun K=>by rw[ae K]
theorem ir(hf:Ai t){p:d7}{c:d5}(j:EH c<=40){inj:Bool}(o:Tq t p c h m inj=0):MK t c h m inj=some (Mz t p c h m inj):=by
 obtain ⟨hv,hh,q,u⟩:=WD hf j o
 grind [MK,Mz,wS,Ch,p0,iI,lc]
theorem jF(hf:Ai t)(fr:Ph r)(J:EH r.d5<=40)(h:ff)(m:AO):KO t r h m=some (J0 t r h m):=by
 unfold KO Ih J0;rw[av hf fr,bs,UR hf,bs];by_cases j:¬DZ t r=0
 .rw[ae (by simp[j]),bs,ae (by simp[j]),ae j]
 have j:=Classical.not_not.1 j;rw[az (by simp[j]),bs,az (show¬DZ t r≠0 by simp[j])];refine CN fun E=>?_;unfold Lp;rw[Xj hf,bs];by_cases o:¬FU t r.j4.d3 h.d3 m.d4 r.mo=0
 .rw[ae (by simp[o]),bs,ae (by simp),ae o]
 have o:=Classical.not_not.1 o;rw[az (by simp[o]),pE hf,bs,az (show¬FU t r.j4.d3 h.d3 m.d4 r.mo≠0 by simp[o])];by_cases q:¬(FV t r.j4 h m.d4).2=0
 .rw[ae (by simp[q]),bs,ae (by simp[q]),ae q]
 have q:=Classical.not_not.1 q;rw[az (by simp[q]),pA,bs,az (show¬(FV t r.j4 h m.d4).2≠0 by simp[q])];by_cases y:¬(FV t r.j4 h m.d4).1=m.fd
 .rw[ae (by simp[y]),bs,ae (by simp),ae y]
 have y:=Classical.not_not.1 y;rw[az (by simp[y]),az (show¬¬(FV t r.j4 h m.d4).1=m.fd by simp[y])];rw[sN hf o,bs,az (by simp),sG fr.fm,bs];by_cases u:¬(NV (SZ r.j4.d3 h.d3 m.d4) h.d3 r.qo m.d4).2=0
 .rw[ae (by simp[u]),bs,ae (by simp[u]),ae u]
 have u:=Classical.not_not.1 u;rw[az (by simp[u]),az (show¬(NV (SZ r.j4.d3 h.d3 m.d4) h.d3 r.qo m.d4).2≠0 by simp[u])];have D:=XN j E o q y;obtain⟨_,_,_,G⟩:=WD hf J D;obtain⟨co,O⟩:=XP u;rw[ir hf J D,bs,O,JA,bs,bs];by_cases w:¬(Mz t r.j4 r.d5 h m r.mo).2=0
 .rw[az (show¬((decide ((Mz t r.j4 r.d5 h m r.mo).2=0)&&!(Mz t r.j4 r.d5 h m r.mo).1)=true)by simp[w]),ae (by simp[w]),ae w]
 have w:=Classical.not_not.1 w;rw[az (show¬(Mz t r.j4 r.d5 h m r.mo).2≠0 by simp[w])];cases Q:(Mz t r.j4 r.d5 h m r.mo).1 with
 |false=>rw[ae (show(decide ((Mz t r.j4 r.d5 h m r.mo).2=0)&&!false)=true by simp[w]),ae (by simp),ae rfl]|true=>
 rw [az (show¬(decide ((Mz t r.j4 r.d5 h m r.mo).2=0)&&!true)=true by simp),az (by simp[w]),az (by simp)];have s:Iq t r h m:=⟨hf,fr,j,E,G,co⟩;have z:=s.rem;have S:=s.hh.g.ea;have U:=s.hh.g.ec;have l1:=s.left.1;have l2:=s.left.2;have V:=s.ro.left.ea;have W:=s.ro.left.ec;unfold Mh LE;simp only[];rw[b8 hf E s.part z,bs,ac (by omega) z.ea.2 ((NI _ _).imp fun h=>by omega),bs,bs,ac (by omega) z.ec.2 ((NI _ _).imp fun h=>by omega),bs,bs,bs];simp only[];rw[Wx (by omega) (fun x F=>by rw[JV];obtain⟨i,H,I,rfl⟩:=BR F;exact(G.m.node i H I).1),bs];rw[Wx (by omega) (fun x F=>by rw[JV];obtain⟨i,H,I,rfl⟩:=BR F;exact G.m.edge i H I),bs];have K:FQ r.qo.ca r.o4.ca r.fl.d3.ca.length (m.d4.ca.map (AA (Ha h.d3.ca.length (dS r h m).ca))) (Mj h.d3 r.qo m.d4).ca.length=some (cS r h m).ca:=
  Ye s.AaO.1 (by omega) (Int.ofNat_le.2 z.ea.2)
 have N:FQ r.qo.ci r.o4.ci r.fl.d3.ci.length (m.d4.ci.map (AA (Ha h.d3.ci.length (dS r h m).ci))) (Mj h.d3 r.qo m.d4).ci.length=some (cS r h m).ci:=
  Ye s.AaV.1 (by omega) (Int.ofNat_le.2 z.ec.2)
 rw [K,bs,N,bs];rw[UQ (Yl z),bs];change ((Lo t r (Bx h (dS r h m)) (cS r h m)).bind _)=_;rw[sL s.grow (Yl z),bs];change ((NG t r (CR t r (Bx h (dS r h m)) (cS r h m)) (cS r h m) m.fd).bind _)=_;rw[vo s.put,bs];exact cp fun P=>rfl
end Go.Sf.Sc
namespace Go.Sf.Sc
open Go Go.Sf
instance:Inhabited f0:=⟨wv⟩
instance:Inhabited po:=⟨⟨0,⟨⟨[],[]⟩,[]⟩⟩⟩
instance:Inhabited Ax:=⟨zG⟩
structure EF(rules:List f0):Prop where
 len:rules.length<=12
 each:∀r∈rules,Ph r/\EH r.d5<=40
noncomputable def E6(t:eb)(rules:List f0)(h:ff)(m:po):Ax×Int:=if m.f0<0\/rules.length<=m.f0 then(zG,6)else J0 t (AA rules m.f0) h m.n8
variable{t:eb}{rules:List f0}
theorem iT(hf:Ai t)(j:EF rules)(h:ff)(m:po):Dj t rules h m=some (E6 t rules h m):=by
 unfold Dj E6;refine GK (by simp) fun e=>?_;have o:=j.each _ (AF (l:=rules) (i:=m.f0) (by omega) (by omega))
 grind [AC,r6]
theorem iz(hf:Ai t)(j:EF rules)(h:ff)(m:po):Lq t rules h m=some (E6 t rules h m):=by
 unfold Lq E6;refine GK (by simp) fun e=>?_;have o:=j.each _ (AF (l:=rules) (i:=m.f0) (by omega) (by omega))
 grind [AC,jF]
noncomputable def Pf(t:eb)(rules:List f0):Int:=
 if (As t).2≠0 then(As t).2 else if 10<rules.length then 3 else(fst (fun i=>nz (DZ t (AA rules i))) 0 rules.length).getD 0
noncomputable def Nc(t:eb)(rules:List f0)(h:ff):Int:=if Pf t rules≠0 then Pf t rules else(E4 t h).2
variable{e v:Int}
theorem iJ(h:nz e=some v):v≠0:=by grind[nz]
variable{a b:Int}
theorem oN{c:Int->Int}(h:fst (fun i=>nz (c i)) a b=some v):v≠0:=by grind[C2,iJ]
theorem jE(hf:Ai t)(q:EF rules):MU t rules=some (Pf t rules):=by
 unfold MU Pf;rw[QN hf,bs];refine DM fun u=>GK (by simp;try omega) fun w=>?_;rw[BF (fun i=>nz (DZ t (AA rules i))),CG];intro i j o _;rw[AC j o,bs,av hf (q.each _ (AF j o)).1,bs,L9]
theorem ai(hf:Ai t)(j:EF rules)(h:ff):KS t rules h=some (Nc t rules h):=by
 unfold KS Nc;rw[jE hf j,bs,UR hf,bs];exact DM fun _=>rfl
theorem lF(hf:Ai t)(u:EF rules)(h:ff):EU t rules h=some (Nc t rules h):=by
 unfold EU Nc Pf;rw[Oc hf,bs];by_cases j:¬(As t).2=0
 .grind
 have j:=Classical.not_not.1 j;rw[az (by simp[j]),az (show¬(As t).2≠0 by simp[j])];by_cases w:10<rules.length
 .grind
 rw [az (by simp;omega),az w,BF (fun i=>nz (DZ t (AA rules i))),Cx]
 .cases e:fst (fun i=>nz (DZ t (AA rules i))) 0 (rules.length:Int)with
  |none=>
   grind [Wn]
  |some v=>
   have:=oN e
   grind
 .intro i o q _;rw[AC o q,bs,iX hf (u.each _ (AF o q)).1,bs,L9]
noncomputable def Gd(t:eb)(rules:List f0)(h0:ff)(ms:List po):List Ax×ff:=
 ms.foldl (fun s m=>(s.1++[(E6 t rules s.2 m).1],(E6 t rules s.2 m).1.sc)) ([],h0)
noncomputable def PM(t:eb)(rules:List f0)(h0:ff)(ms:List po)(i:Int):Int:=(E6 t rules (Gd t rules h0 (ms.take i.toNat)).2 (AA ms i)).2
theorem Ql(t:eb)(rules:List f0)(j:ff)(o:List po)(m:po):Gd t rules j (o++[m])=((Gd t rules j o).1++[(E6 t rules (Gd t rules j o).2 m).1],(E6 t rules (Gd t rules j o).2 m).1.sc):=by
 unfold Gd
 grind
theorem QP(t:eb)(rules:List f0)(o:ff)(j:List po):(Gd t rules o j).1.length=j.length:=by
 refine Vq (P:=fun j=>(Gd t rules o j).1.length=j.length) rfl (fun j m q=>?_) j
 grind [Ql,bk]
variable{α:Type}{i:Int}
theorem Hm[Inhabited α]{l m:List α}(j:0<=i)(o:i<l.length):AA (l++m) i=AA l i:=by grind[M4]
theorem Tm[Inhabited α](l:List α)(a:α):AA (l++[a]) l.length=a:=by
 rw [M4,az (by simp),Int.toNat_natCast,Nat.sub_self];rfl
theorem sw(t:eb)(rules:List f0)(o:ff)(j:List po):∀i:Int,0<=i->i<j.length->AA (Gd t rules o j).1 i=(E6 t rules (Gd t rules o (j.take i.toNat)).2 (AA j i)).1:=by
 refine Vq (P:=fun j=>∀i:Int,0<=i->i<j.length->AA (Gd t rules o j).1 i=(E6 t rules (Gd t rules o (j.take i.toNat)).2 (AA j i)).1) (fun i u q=>by simp at q;omega) (fun j m w i u q=>?_) j;rw[Ql];have y:=QP t rules o j;rw[bk,List.length_singleton]at q
 grind [Hm,Tm,Int.toNat_natCast,List.take_left']
theorem Zq{j:ff}{a b:List po}(o:0<=i)(q:i<a.length):PM t rules j (a++b) i=PM t rules j a i:=by grind[PM,Hm]
noncomputable def Og(t:eb)(rules:List f0)(d:AS):List Ax×Int×Int:=
 if Nc t rules d.hV≠0 then([],0,Nc t rules d.hV)else if 30<d.gn.length then([],0,3)else
 match fst (fun i=>(nz (PM t rules d.hV d.gn i)).map fun e=>([],i,e)) 0 d.gn.length with
 |some r=>r|none=>((Gd t rules d.hV d.gn).1,(d.gn.length:Int),0)
variable{d:AS}
theorem bB(hd:d.gn.length<=1000){f:ff->po->Option (Ax×Int)}(hf:∀h m,f h m=some (E6 t rules h m)):
  ek (kg (ρ:=(List Ax×Int×Int)) (fun(o:Int)(q:List Ax×ff)=>
  (idx d.gn o).bind fun u=>
  (f q.2 u).bind fun j=>
  if (!decide (j.2=0))=true then
  some (.ret ([],o,j.2))
  else
  (AT q.1 [j.1]).bind fun w=>
  some (.next (w,j.1.sc))) 0 (d.gn.length:Int) ([],d.hV)) (fun q=>
  some (q.1,(q.1.length:Int),(0:Int))) (fun z=>some z)=some (match fst (fun i=>(nz (PM t rules d.hV d.gn i)).map fun e=>([],i,e)) 0 d.gn.length with
   |some r=>r|none=>((Gd t rules d.hV d.gn).1,(d.gn.length:Int),0)):=by
 rw [Ho (a:=0) (s:=(([],d.hV):List Ax×ff)) (fun i=>Gd t rules d.hV (d.gn.take i.toNat)) (fun i=>(nz (PM t rules d.hV d.gn i)).map fun e=>([],i,e)) (by omega) rfl]
 .cases fst (fun i=>(nz (PM t rules d.hV d.gn i)).map fun e=>(([],i,e):List Ax×Int×Int)) 0 (d.gn.length:Int)with
  |some r=>rfl|none=>
   show some _=some _;rw[Int.toNat_natCast,List.take_length,QP]
 .intro i o y _;have D:=QP t rules d.hV (d.gn.take i.toNat);rw[AC o y,bs,hf,bs];show(if(!decide (PM t rules d.hV d.gn i=0))=true then _ else _)=_;by_cases e:PM t rules d.hV d.gn i=0
  .rw[az (by simp[e]),AQ (by rw[D,cE];simp;unfold AU;omega),bs,Bh o y,Ql,FK.2 e];rfl
  .rw[ae (by simp[e])];unfold nz;rw[az e];rfl
theorem aW(hf:Ai t)(j:EF rules)(d:AS):DN t rules d=some (Og t rules d):=by
 unfold DN Og;rw[lF hf j,bs];refine CN fun o=>GK (by simp;try omega) fun q=>?_;exact bB (by omega) (iT hf j)
theorem aq(hf:Ai t)(j:EF rules)(d:AS):JL t rules d=some (Og t rules d):=by
 unfold JL Og;rw[ai hf j,bs];refine CN fun o=>GK (by simp;try omega) fun q=>?_;exact bB (by omega) (iz hf j)
structure LR(t:eb)(rules:List f0)(d:AS):Prop where
 given:Nc t rules d.hV=0
 few:d.gn.length<=30
 moves:∀i:Int,0<=i->i<d.gn.length->PM t rules d.hV d.gn i=0
theorem OB:(Og t rules d).2.2=0↔LR t rules d:=by
 unfold Og;constructor
 .intro h;split at h
  .grind
  rename_i j;split at h
  .cases h
  rename_i o;split at h
  .grind[C2,nz,PM,iJ]
  .rename_i e;rw[Ay]at e;refine⟨Classical.not_not.1 j,by omega,fun i q u=>?_⟩
   grind [Kz,FK]
 .rintro⟨j,o,w⟩
  grind [Ay,FK]
theorem jI(h:LR t rules d):Og t rules d=((Gd t rules d.hV d.gn).1,(d.gn.length:Int),0):=by
 unfold Og;rw[az (by simp[h.given]),az (by have:=h.few;omega),Ay.2 fun i j o=>by rw[FK.2 (h.moves i j o)];rfl]
structure du(h:ff)(s:Ax):Prop where
 yW:s.yn.ca.length=h.d3.ca.length
 zb:s.yn.ci.length=h.d3.ci.length
 node:∀x∈s.yn.ca,-1<=x/\x<s.sc.d3.ca.length
 edge:∀x∈s.yn.ci,-1<=x/\x<s.sc.d3.ci.length
 sm:I0 s.sc
variable{x:ff}{L:BM}
theorem sA(h:(Ia t x L).2=0):Ia t x L=(⟨x.d3,L.foldl CY x.ej⟩,0)/\L.any (Pm t x)=false:=by
 unfold Ia at h|-
 grind
structure Re(t:eb)(r:f0)(h:ff)(m:AO):Prop where
 f:Iq t r h m
 sat:Mz t r.j4 r.d5 h m r.mo=(true,0)
 solve:FV t r.j4 h m.d4=(m.fd,0)
 chk:FU t r.j4.d3 h.d3 m.d4 r.mo=0
 put:(Ia t (CR t r (Bx h (dS r h m)) (cS r h m)) (B0 r (cS r h m) m.fd)).2=0
 few:(CR t r (Bx h (dS r h m)) (cS r h m)).d3.ca.length<=40/\(CR t r (Bx h (dS r h m)) (cS r h m)).d3.ci.length<=80
def Tj(t:eb)(r:f0)(h:ff)(m:AO):ff:=⟨(CR t r (Bx h (dS r h m)) (cS r h m)).d3,(B0 r (cS r h m) m.fd).foldl CY (CR t r (Bx h (dS r h m)) (cS r h m)).ej⟩
def XB(t:eb)(r:f0)(h:ff)(m:AO):Ax:=Ax.mk r m h (Tj t r h m) (Hb h (dS r h m)) (cS r h m)
variable{r:f0}{h:ff}{m:AO}
theorem kF(hf:Ai t)(fr:Ph r)(H:EH r.d5<=40)(e:(J0 t r h m).2=0):Re t r h m/\J0 t r h m=(XB t r h m,0):=by
 unfold J0 at e|-;split at e
 .rename_i o;exact absurd e o
 rename_i o;rw[az o];split at e
 .rename_i q;exact absurd e q
 rename_i q;rw[az q];split at e
 .cases e
 rename_i D;rw[az D];split at e
 .rename_i u;exact absurd e u
 rename_i u;rw[az u];split at e
 .cases e
 rename_i E;rw[az E];split at e
 .rename_i y;exact absurd e y
 rename_i y;rw[az y];split at e
 .rename_i z;exact absurd e z
 rename_i z;rw[az z];split at e
 .cases e
 rename_i F;rw[az F];have o:=Classical.not_not.1 o;have q:=Classical.not_not.1 q;have D:=Classical.not_not.1 D;have u:=Classical.not_not.1 u;have E:=Classical.not_not.1 E;have y:=Classical.not_not.1 y;have z:=Classical.not_not.1 z;obtain⟨_,_,_,I⟩:=WD hf H (XN o q D u E);have s:Iq t r h m:=⟨hf,fr,o,q,I,(XP y).1⟩;unfold ZB at e|-;split at e
 .rename_i w;exact absurd e w
 rename_i w;rw[az w];have w:=Classical.not_not.1 w;obtain⟨G,J⟩:=sA w;split at e
 .cases e
 rename_i j;rw[az j];rw[G]at j;refine⟨⟨s,?_,?_,D,w,?_⟩,?_⟩
 .exact Prod.ext (by simpa using F) z
 .exact Prod.ext E u
 .simp[not_or]at j;exact j
 .rw[G];rfl
theorem Re.trk(s:Re t r h m):du h (XB t r h m):=by
 have D:=s.f.rem;have j:=s.f.put;have E:((CR t r (Bx h (dS r h m)) (cS r h m)).d3.ca.length)=(dS r h m).ca.length+(IY r).length:=by
  show (List.length (_++_))=_;rw[bk,c8];show((dS r h m).ca.map _).length+_=_;rw[c8];rfl
 have he:((CR t r (Bx h (dS r h m)) (cS r h m)).d3.ci.length)=(dS r h m).ci.length+(OW r).length:=by
  show (List.length (_++_))=_;rw[bk,c8];show((dS r h m).ci.map _).length+_=_;rw[c8];rfl
 have u:LS (Tj t r h m).ej (CR t r (Bx h (dS r h m)) (cS r h m)).ej:=Z3 _ _;have y:(Tj t r h m).ej.length=(CR t r (Bx h (dS r h m)) (cS r h m)).d3.ca.length:=by
  have:=congrArg List.length u;rw[c8,c8]at this;rw[this,j.vlen]
 refine ⟨JV _ _,JV _ _,fun x o=>?_,fun x o=>?_,⟨?_,?_,?_,fun v hv=>?_⟩⟩
 .obtain⟨i,hi,rfl⟩:=List.mem_map.1 o;have:=QK (dS r h m).ca i;have z:(XB t r h m).sc.d3.ca.length=(CR t r (Bx h (dS r h m)) (cS r h m)).d3.ca.length:=rfl
  grind
 .obtain⟨i,hi,rfl⟩:=List.mem_map.1 o;have:=QK (dS r h m).ci i;have z:(XB t r h m).sc.d3.ci.length=(CR t r (Bx h (dS r h m)) (cS r h m)).d3.ci.length:=rfl
  grind
 .have:=s.few.1;show(CR t r (Bx h (dS r h m)) (cS r h m)).d3.ca.length<=1000;omega
 .have:=s.few.2;show(CR t r (Bx h (dS r h m)) (cS r h m)).d3.ci.length<=1000;omega
 .have:=s.few.1;show(Tj t r h m).ej.length<=1000;omega
 .have w:v.length∈(Tj t r h m).ej.map List.length:=List.mem_map.2 ⟨v,hv,rfl⟩;rw[u,s.f.rows]at w;obtain⟨n,q,e⟩:=List.mem_map.1 w;have:=Gg j.hf (Int.le_refl _) (C6 j.hv).par (j.kind n q).2;omega
end Go.Sf.Sc
namespace Go.Sf.Sc
open Go Go.Sf
def Rf(l by':Fp):Fp:=l.map fun x=>if x<0 then -1 else AA by' x
def ft(m tr:d4):d4:=⟨Rf m.ca tr.ca,Rf m.ci tr.ci⟩
def XW(m:d4)(l:List Ax):d4:=l.foldl (fun m s=>ft m s.yn) m
def OO(g:d3):d4:=⟨Ag g.ca.length,Ag g.ci.length⟩
variable{l by':Fp}
theorem cy(w:l.length<=1000)(h:∀x∈l,-1<=x/\x<by'.length):Fg l by'=some (Rf l by'):=by
 unfold Fg slices_Clone_int;rw[Ao (by unfold AU;omega),bs,BY (fun i=>(Ag l.length).map fun j=>if j<i then(if AA l j<0 then -1 else AA by' (AA l j))else AA l j) (by omega)]
 .grind[Rf,g7,CH]
 .conv=>rhs;rw[<-RK l]
  grind [CH]
 .intro i o q;have u:=h _ (AF o q);rw[AC o (by rw[c8,Ap];exact q),bs,G6 _ o q,az (show¬i<i by omega)];by_cases e:0<=AA l i
  .rw[ae (by simpa using e),AC e u.2,bs,bs,Gz _ o]
   grind
  grind
theorem dG(u:l.length<=1000)(h:∀x∈l,-1<=x/\x<by'.length):KQ l by'=some (Rf l by'):=by
 unfold KQ;rw[Sb (F:=fun x=>if x<0 then -1 else AA by' x) fun i s j o w=>?_]
 .rfl
 .have q:=h _ (AF j o);rw[AC j o,bs];by_cases e:AA l i<0
  .rw[ae (by simpa using e),AQ (by simp;unfold AU;omega),bs,ae e]
  .rw[az (by simpa using e),bs,AC (by omega) q.2,bs,AQ (by simp;unfold AU;omega),bs,az e]
variable{i:Int}
theorem TP(n:Nat)(j:0<=i)(o:i<n):AA (Ag n) i=i:=by
 have:=G6 (n:=n) (fun x=>x) j o
 rwa [List.map_id']at this
variable{n:Nat}
theorem YW(h:n<=1000):Fu n=some (Ag n):=by
 unfold Fu F9;rw[ae (by omega),bs,Int.toNat_natCast,List.length_replicate,BY (fun i=>(Ag n).map fun j=>if j<i then j else 0) (by omega)]
 .rw[bs];congr 1
  conv=>rhs;rw[<-List.map_id' (Ag n)]
  exact CH fun j y q=>ae q
 .refine List.ext_getElem (by simp[Ap]) (fun k z E=>?_);have e:(Ag n)[k]'(by simpa[Ap]using z)=(k:Int):=by simp[Ag]
  simp only[List.getElem_map,List.getElem_replicate,e];rw[az (by omega)]
 .intro i u D;rw[AC u (by rw[c8,Ap];exact D),bs,Gz _ u];congr 1;refine CH fun j y q=>?_;by_cases o:j=i
  .rw[ae o,ae (by omega),o]
  .rw[az o];by_cases w:j<i
   .rw[ae w,ae (show j<i+1 by omega)]
   .rw[az w,az (show¬j<i+1 by omega)]
variable{g:d3}
theorem fE(h:Bm g=0):DQ g=some (OO g):=by
 have j:=Cr h;have:=j.ea;have:=j.ec;unfold DQ FJ;rw[Lb,bs,az (by simp[h]),YW (by omega),bs,YW (by omega),bs,bs];rfl
theorem ah(h:n<=1000):JB n=some (Ag n):=by
 unfold JB;rw[M6 (fun _=>true) id]
 .rw[bs,List.map_id,List.filter_eq_self.2 fun _ _=>rfl]
 .intro i s j o q;rw[AQ (by simp;unfold AU;omega),bs,ae rfl];rfl
theorem lj(h:Bm g=0):My g=some (OO g):=by
 have j:=Cr h;have:=j.ea;have:=j.ec;unfold My;rw[ah (by omega),bs,ah (by omega),bs];rfl
structure gE(m:d4)(g:d3):Prop where
 yW:m.ca.length<=1000
 zb:m.ci.length<=1000
 node:∀x∈m.ca,-1<=x/\x<g.ca.length
 edge:∀x∈m.ci,-1<=x/\x<g.ci.length
theorem vD(h:Bm g=0):gE (OO g) g:=by
 have o:=Cr h;have:=o.ea;have:=o.ec;refine⟨by show(Ag _).length<=1000;rw[Ap];omega,by show(Ag _).length<=1000;rw[Ap];omega,fun x j=>?_,fun x j=>?_⟩
 .have:=DU.1 j;omega
 .have:=DU.1 j;omega
theorem Za(o:∀x∈l,-1<=x/\x<by'.length)(q:∀x∈by',-1<=x/\x<n):∀x∈Rf l by',-1<=x/\x<n:=by
 intro x j;obtain⟨y,u,rfl⟩:=List.mem_map.1 j
 grind [AF]
variable{h:ff}
theorem px{m:d4}{s:Ax}(j:gE m h.d3)(o:du h s):gE (ft m s.yn) s.sc.d3:=by
 refine ⟨by show(List.map _ _).length<=1000;rw[c8];exact j.yW,by show(List.map _ _).length<=1000;rw[c8];exact j.zb,?_,?_⟩
 .exact Za (fun x q=>by have:=j.node x q;rw[o.yW];exact this) o.node
 .exact Za (fun x q=>by have:=j.edge x q;rw[o.zb];exact this) o.edge
variable{t:eb}{rules:List f0}
theorem Rt(hf:Ai t)(o:EF rules){m:po}(e:(E6 t rules h m).2=0):
  (0<=m.f0/\m.f0<rules.length)/\Re t (AA rules m.f0) h m.n8/\E6 t rules h m=(XB t (AA rules m.f0) h m.n8,0):=by
 unfold E6 at e|-;split at e
 .cases e
 rename_i q;rw[az q];have j:=o.each _ (AF (l:=rules) (i:=m.f0) (by omega) (by omega));exact⟨by omega,kF hf j.1 j.2 e⟩
theorem Uo(hf:Ai t)(e:Nc t rules h=0):Pf t rules=0/\(E4 t h).2=0/\(As t).2=0/\Ix t h:=by grind[Nc,Up]
variable{d:AS}
theorem Pd(hf:Ai t)(o:EF rules)(h:LR t rules d):∀n:Nat,n<=d.gn.length ->
  I0 (Gd t rules d.hV (d.gn.take n)).2/\gE (XW (OO d.hV.d3) (Gd t rules d.hV (d.gn.take n)).1) (Gd t rules d.hV (d.gn.take n)).2.d3
 |0,_=>by
  obtain ⟨_,u,j,q⟩:=Uo hf h.given;exact⟨SY hf j q,vD q.ge⟩
 |n+1,y=>by
  obtain ⟨u,j⟩:=Pd hf o h n (by omega);have he:=h.moves n (by omega) (by omega);have e:=Bh (l:=d.gn) (i:=(n:Int)) (by omega) (by omega);rw[show((n:Int)+1).toNat=n+1 by omega,Int.toNat_natCast]at e;unfold PM at he;rw[Int.toNat_natCast]at he;obtain⟨_,s,w⟩:=Rt hf o he;rw[e,Ql,w];refine⟨s.trk.sm,?_⟩;unfold XW at j|-;rw[List.foldl_append];exact px j s.trk
noncomputable def Kt(t:eb)(rules:List f0)(d:AS):ff×d4×Int:=
 if (Og t rules d).2.2≠0 then(⟨⟨[],[]⟩,[]⟩,⟨[],[]⟩,(Og t rules d).2.2)else((Gd t rules d.hV d.gn).2,XW (OO d.hV.d3) (Gd t rules d.hV d.gn).1,0)
variable{x:ff}
theorem YV(h:I0 x):FI x=some x:=by
 have:=h.ea;have:=h.ec;have:=h.vals;unfold FI slices_Clone_int Cd;rw[Ao (by unfold AU;omega),bs,Ao (by unfold AU;omega),bs];rw[BY (fun i=>ff.mk x.d3 (x.ej.take i.toNat)) (by omega) (by rfl)]
 .rw[Int.toNat_natCast,List.take_length];rfl
 .intro i j o;have:=h.rows _ (AF j o)
  grind [AC,Ao,AU,AQ,Bh]
theorem Zy(hf:Ai t)(u:EF rules)(h:LR t rules d){f:Int->ff×d4->Option (ff×d4)}
  (y:∀(i:Int)(s:ff×d4),0<=i->i<d.gn.length->gE s.2 s.1.d3->du s.1 (AA (Gd t rules d.hV d.gn).1 i)->f i s=some ((AA (Gd t rules d.hV d.gn).1 i).sc,ft s.2 (AA (Gd t rules d.hV d.gn).1 i).yn)):
  nd f 0 ((Gd t rules d.hV d.gn).1.length:Int) (d.hV,OO d.hV.d3)=some ((Gd t rules d.hV d.gn).2,XW (OO d.hV.d3) (Gd t rules d.hV d.gn).1):=by
 rw [QP,BY (fun i=>((Gd t rules d.hV (d.gn.take i.toNat)).2,XW (OO d.hV.d3) (Gd t rules d.hV (d.gn.take i.toNat)).1)) (by omega) (by rfl)]
 .rw[Int.toNat_natCast,List.take_length]
 .intro i j o;obtain⟨D,z⟩:=Pd hf u h i.toNat (by omega);have he:=h.moves i j o;unfold PM at he;obtain⟨_,s,w⟩:=Rt hf u he;have q:=sw t rules d.hV d.gn i j o;rw[w]at q;rw[y i _ j o z (by rw[q];exact s.trk),Bh j o,Ql,w,q];unfold XW;rw[List.foldl_append];rfl
theorem Xe(hf:Ai t)(o:EF rules)(d:AS):DE t rules d=some (Kt t rules d):=by
 unfold DE Kt;rw[aW hf o,bs];refine CN fun w=>?_;have h:=OB.1 w;obtain⟨_,_,_,hh⟩:=Uo hf h.given;rw[fE hh.ge,bs,jI h];simp;rw[Zy hf o h fun i s y z j u=>?_]
 .have:=(Pd hf o h d.gn.length (b6 _)).1
  grind [List.take_length,YV]
 .rw[AC y (by rw[QP];exact z),bs,cy j.yW (fun x q=>by rw[u.yW];exact j.node x q),bs,cy j.zb (fun x q=>by rw[u.zb];exact j.edge x q),bs];rfl
theorem dK(hf:Ai t)(o:EF rules)(d:AS):Ii t rules d=some (Kt t rules d):=by
 unfold Ii Kt;rw[aq hf o,bs];refine CN fun w=>?_;have h:=OB.1 w;obtain⟨_,_,_,hh⟩:=Uo hf h.given;rw[lj hh.ge,bs,jI h];simp;rw[Zy hf o h fun i s y z j u=>?_]
 .have:=(Pd hf o h d.gn.length (b6 _)).1;rw[List.take_length]at this;rw[bs,UQ this];rfl
 .simp[AC y (show i<(Gd t rules d.hV d.gn).1.length by rw[QP];exact z)];rw[dG j.yW (fun x q=>by rw[u.yW];exact j.node x q),bs,dG j.zb (fun x q=>by rw[u.zb];exact j.edge x q),bs];rfl
structure V5(m:AO):Prop where
 ea:m.d4.ca.length<=1000
 ec:m.d4.ci.length<=1000
 vars:m.fd.length<=1000
structure V4(d:AS):Prop where
 start:I0 d.hV
 len:d.gn.length<=1000
 moves:∀m∈d.gn,V5 m.n8
variable{r:f0}{m:AO}
theorem Re.small(s:Re t r h m):V5 m:=by
 have o:=s.f.left;have j:=s.f.ro.left;have u:=s.f.at_.len;have w:=s.f.at_.q.vars;have:=j.ea;have:=j.ec;exact⟨by omega,by omega,by omega⟩
theorem LR.small(hf:Ai t)(j:EF rules)(h:LR t rules d):V4 d:=by
 obtain ⟨_,_,q,u⟩:=Uo hf h.given;refine⟨SY hf q u,by have:=h.few;omega,fun m o=>?_⟩;obtain⟨i,w,y,rfl⟩:=BR o;have he:=h.moves i w y;unfold PM at he;exact(Rt hf j he).2.1.small
theorem iW(h:V5 m):Fh m=some m:=by
 have:=h.ea;have:=h.ec;have:=h.vars;unfold Fh slices_Clone_int;rw[Ao (by unfold AU;omega),bs,Ao (by unfold AU;omega),bs,Ao (by unfold AU;omega),bs]
theorem jC(h:V5 m):Ij m=some m:=by
 have:=h.ea;have:=h.ec;have:=h.vars;unfold Ij;rw[Ao (by unfold AU;omega),bs,Ao (by unfold AU;omega),bs,Ao (by unfold AU;omega),bs]
variable{α σ:Type}
theorem Sn[Inhabited α]{l:List α}(j:l.length<=1000)(g:List α->σ){f:Int->σ->Option σ}(h:∀(i:Int)s,0<=i->i<l.length->s.length<=1000->f i (g s)=some (g (s++[AA l i]))):nd f 0 l.length (g [])=some (g l):=by
 have:=BY (f:=f) (s:=g []) (fun i=>g (l.take i.toNat)) (a:=0) (b:=l.length) (by omega) rfl (fun i o q=>by
  grind [cE,Bh])
 rwa [Int.toNat_natCast,List.take_length]at this
theorem ru(h:V4 d):Dk d=some d:=by
 unfold Dk;rw[YV h.start,bs];have:=Sn (l:=d.gn) h.len (fun l=>AS.mk d.hV l) (f:=fun(o:Int)(w:AS)=>
  (idx d.gn o).bind fun j=>
  (Fh j.n8).bind fun q=>
  (AT w.gn [po.mk j.f0 q]).bind fun u=>
  some (AS.mk w.hV u)) (fun i s o y z=>by
   rw [AC o y,bs,iW (h.moves _ (AF o y)),bs,AQ (by simp;unfold AU;omega),bs])
 rw [this];rfl
theorem jB(h:V4 d):JK d=some d:=by
 unfold JK;rw[UQ h.start,bs];have:=Sn (l:=d.gn) h.len (fun l=>AS.mk d.hV l) (f:=fun(j:Int)(y:AS)=>
  (idx d.gn j).bind fun o=>
  (idx d.gn j).bind fun q=>
  (Ij q.n8).bind fun u=>
  (AT y.gn [po.mk o.f0 u]).bind fun w=>
  some (AS.mk y.hV w)) (fun i s j z D=>by
   rw [AC j z,bs,bs,jC (h.moves _ (AF j z)),bs,AQ (by simp;unfold AU;omega),bs])
 rw [this];rfl
abbrev zD:AS:=AS.mk (ff.mk (d3.mk [] []) []) []
noncomputable def RM(t:eb)(rules:List f0)(d:AS)(m:po):AS×Int:=
 if (Kt t rules d).2.2≠0 then(zD,(Kt t rules d).2.2)else if d.gn.length=30 then(zD,17)else
 if (E6 t rules (Kt t rules d).1 m).2≠0 then(zD,(E6 t rules (Kt t rules d).1 m).2)else(⟨d.hV,d.gn++[m]⟩,0)
theorem Un:(Kt t rules d).2.2=(Og t rules d).2.2:=by grind[Kt]
theorem k8(hf:Ai t)(j:EF rules)(d:AS)(m:po):D5 t rules d m=some (RM t rules d m):=by
 unfold D5 RM;rw[Xe hf j,bs];refine CN fun o=>GK (by simp;try omega) fun u=>?_;rw[iT hf j,bs];refine CN fun q=>?_;rw[Un]at o;have h:=(OB.1 o).small hf j;have:=h.len;rw[ru h,bs,iW (Rt hf j q).2.1.small,bs,AQ (by simp;unfold AU;omega),bs]
theorem lY(hf:Ai t)(j:EF rules)(d:AS)(m:po):LF t rules d m=some (RM t rules d m):=by
 unfold LF RM;rw[dK hf j,bs];refine CN fun o=>GK (by simp;try omega) fun u=>?_;rw[iz hf j,bs];refine CN fun q=>?_;rw[Un]at o;have h:=(OB.1 o).small hf j;have:=h.len;rw[jB h,bs,jC (Rt hf j q).2.1.small,bs,AQ (by simp;unfold AU;omega),bs]
theorem qk{m:po}(e:(RM t rules d m).2=0):LR t rules d/\d.gn.length<30/\(E6 t rules (Gd t rules d.hV d.gn).2 m).2=0/\RM t rules d m=(⟨d.hV,d.gn++[m]⟩,0):=by
 unfold RM at e|-;split at e
 .grind
 rename_i j;rw[az j];split at e
 .cases e
 rename_i o;rw[az o];split at e
 .grind
 rename_i q;rw[az q];have j:=Classical.not_not.1 j;have u:=j;rw[Un]at j;have h:=OB.1 j;have:=h.few
 grind [Kt,Gd]
theorem oC{m:po}(h:LR t rules d)(q:d.gn.length<30)(e:(E6 t rules (Gd t rules d.hV d.gn).2 m).2=0):LR t rules ⟨d.hV,d.gn++[m]⟩:=by
 refine ⟨h.given,by simp;omega,fun i j o=>?_⟩;simp at o;show PM t rules d.hV (d.gn++[m]) i=0;by_cases hi:i<d.gn.length
 .rw[Zq j hi];exact h.moves i j hi
 grind [PM,Tm,Int.toNat_natCast,List.take_left']
theorem my(h:LR t rules d)(n:Nat):LR t rules ⟨d.hV,d.gn.take n⟩:=by
 have:=h.few;refine⟨h.given,by simp;omega,fun i o j=>?_⟩;show PM t rules d.hV (d.gn.take n) i=0;have j:i<(d.gn.take n).length:=j;rw[cE]at j;have:=h.moves i o (by omega)
 grind [List.take_append_drop,Zq,cE]
theorem Rg[Inhabited α]{l:List α}(v:α)(j:0<=i)(o:i<l.length):AA (Av l i v) i=v:=by grind[AA,Av]
theorem XK[Inhabited α]{l:List α}{i j:Int}(v:α)(o:0<=i)(q:0<=j)(h:j≠i):AA (Av l i v) j=AA l j:=by grind[AA,Av]
end Go.Sf.Sc
namespace Go.Sf.Sc
open Go Go.Sf
instance:Inhabited Bp:=⟨⟨0,default⟩⟩
def P8(s:AH)(i:Int):a5:=if AA s.gp i<0\/s.em.gn.length<AA s.gp i then some 6 else if 0<i/\AA s.gp i<AA s.gp (i-1)then some 12 else none
def K0(s:AH):Int:=if 20<s.gp.length then 3 else(fst (P8 s) 0 s.gp.length).getD 0
variable{s:AH}{i:Int}
theorem YR(y:0<=i)(z:i<s.gp.length)(D:s.gp.length<=20):(if((decide (AA s.gp i<0))||(decide ((s.em.gn.length:Int)<AA s.gp i)))=true then
  some (Bf.ret 6)else(if(decide (0<i))=true then((idx s.gp (AG (i-1))).bind fun u=>some (decide (AA s.gp i<u)))else some false).bind fun w=>
  if w=true then some (Bf.ret 12)else some (Bf.next ()))=some (QV (P8 s i)):=by
 unfold P8;by_cases j:AA s.gp i<0\/(s.em.gn.length:Int)<AA s.gp i
 .rw[ae (by simpa using j),ae j];rfl
 rw [az (by simpa using j),az j];by_cases o:0<i
 .rw[ae (by simpa using o),AV (by omega) (by omega),AC (by omega) (by omega),bs,bs];by_cases q:AA s.gp i<AA s.gp (i-1)
  .rw[ae (by simpa using q),ae ⟨o,q⟩];rfl
  .rw[az (by simpa using q),az (by simp[q])];rfl
 .rw[az (by simpa using o),bs,az (by decide),az (by simp[o])];rfl
theorem Xg(s:AH):D9 s=some (K0 s):=by
 unfold D9 K0;refine GK (by simp;try omega) fun j=>?_
 grind [BF,P8,CG,AC,YR]
theorem US(s:AH):Ik s=some (K0 s):=by
 unfold Ik K0;refine GK (by simp;try omega) fun j=>?_
 grind [BF,P8,CG,YR,AC,Rw]
structure Iy(s:AH):Prop where
 few:s.gp.length<=20
 inn:∀i:Int,0<=i->i<s.gp.length->0<=AA s.gp i/\AA s.gp i<=s.em.gn.length
 asc:∀i:Int,0<i->i<s.gp.length->AA s.gp (i-1)<=AA s.gp i
theorem iA:K0 s=0↔Iy s:=by
 unfold K0;constructor
 .intro h;split at h
  .cases h
  rename_i u;have w:∀i:Int,0<=i->i<s.gp.length->P8 s i=none:=PP (fun i e=>by
   grind [P8]) h
  have q:∀i:Int,0<=i->i<s.gp.length->(0<=AA s.gp i/\AA s.gp i<=s.em.gn.length)/\(0<i->AA s.gp (i-1)<=AA s.gp i):=fun i j o=>by
   grind [P8]
  exact ⟨by omega,fun i j o=>(q i j o).1,fun i j o=>(q i (by omega) o).2 j⟩
 .rintro⟨u,w,q⟩
  grind [Ay,P8]
noncomputable def Pt(t:eb)(rules:List f0)(s:AH):Int:=if(Og t rules s.em).2.2≠0 then(Og t rules s.em).2.2 else K0 s
variable{t:eb}{rules:List f0}
theorem iZ(hf:Ai t)(j:EF rules)(s:AH):Cz t rules s=some (Pt t rules s):=by
 unfold Cz Pt;rw[aW hf j,bs,Xg];exact DM fun _=>rfl
theorem jH(hf:Ai t)(j:EF rules)(s:AH):KT t rules s=some (Pt t rules s):=by
 unfold KT Pt;rw[aq hf j,bs,US];exact DM fun _=>rfl
structure Hf(t:eb)(rules:List f0)(s:AH):Prop where
 rep:LR t rules s.em
 marks:Iy s
theorem Qo:Pt t rules s=0↔Hf t rules s:=by
 unfold Pt;constructor
 .intro h;split at h
  .grind
  rename_i j;exact⟨OB.1 (Classical.not_not.1 j),iA.1 h⟩
 .rintro⟨j,o⟩
  grind [OB,iA]
structure PJ(s:AH):Prop where
 d:V4 s.em
 marks:s.gp.length<=1000
theorem Hf.small(hf:Ai t)(j:EF rules)(h:Hf t rules s):PJ s:=⟨h.rep.small hf j,by have:=h.marks.few;omega⟩
theorem Wo(h:PJ s):Da s=some s:=by
 have w:=h.d.start;have:=w.ea;have:=w.ec;have:=w.vals;have:=h.marks;unfold Da;simp only[slices_Clone_int,Cd];rw[Ao (by unfold AU;omega),bs,Ao (by unfold AU;omega),bs,Ao (by unfold AU;omega),bs];have O:=Sn (l:=s.em.hV.ej) w.vals (fun l=>AH.mk (AS.mk (ff.mk s.em.hV.d3 l) []) s.gp) (f:=fun(q:Int)(y:AH)=>
  (idx s.em.hV.ej q).bind fun z=>
  (AT [] z).bind fun D=>
  (AT y.em.hV.ej [D]).bind fun E=>
  some (AH.mk (AS.mk (ff.mk y.em.hV.d3 E) y.em.gn) y.gp)) (fun i x q u N=>by
   have:=w.rows _ (AF q u);rw[AC q u,bs,Ao (by unfold AU;omega),bs,AQ (by simp;unfold AU;omega),bs])
 have P:=Sn (l:=s.em.gn) h.d.len (fun l=>AH.mk (AS.mk s.em.hV l) s.gp) (f:=fun(K:Int)(s2:AH)=>
  (idx s.em.gn K).bind fun j=>
  (AT [] j.n8.d4.ca).bind fun F=>
  (AT [] j.n8.d4.ci).bind fun G=>
  (AT [] j.n8.fd).bind fun H=>
  (AT s2.em.gn [po.mk j.f0 (AO.mk (d4.mk F G) H)]).bind fun I=>
  some (AH.mk (AS.mk s2.em.hV I) s2.gp)) (fun i x q u N=>by
   have J:=h.d.moves _ (AF q u);have:=J.ea;have:=J.ec;have:=J.vars;rw[AC q u,bs,Ao (by unfold AU;omega),bs,Ao (by unfold AU;omega),bs,Ao (by unfold AU;omega),bs,AQ (by simp;unfold AU;omega),bs])
 refine Eq.trans (congrArg (fun o=>Option.bind o _) O) ?_;rw[bs];refine Eq.trans (congrArg (fun o=>Option.bind o _) P) ?_;rfl
theorem am(h:PJ s):HO s=some s:=by
 have:=h.marks;unfold HO;rw[jB h.d,bs,Ao (by unfold AU;omega),bs]
abbrev zS:AH:=AH.mk zD []
def Rh(s:AH):AH×Int:=if K0 s≠0 then(zS,K0 s)else if s.gp.length=20 then(zS,17)else(AH.mk s.em (s.gp++[(s.em.gn.length:Int)]),0)
theorem k9(h:PJ s):Ge s=some (Rh s):=by
 have:=h.marks;unfold Ge Rh;rw[Xg,bs];refine CN fun j=>GK (by simp;try omega) fun o=>?_
 grind [Wo,AQ,AU]
theorem lZ(h:PJ s):MV s=some (Rh s):=by
 have:=h.marks;unfold MV Rh;rw[US,bs];refine CN fun j=>GK (by simp;try omega) fun o=>?_;rw[am h,bs,AQ (by simp;unfold AU;omega),bs]
def OU(s:AH):AH×Int:=if K0 s≠0 then(zS,K0 s)else if s.gp.length=0 then(zS,8)else(AH.mk s.em (s.gp.take (s.gp.length-1)),0)
theorem iN(h:PJ s):GH s=some (OU s):=by
 have:=h.marks;unfold GH OU;rw[Xg,bs];refine CN fun j=>GK (by simp) fun o=>?_
 grind [Wo,AV,DT]
theorem io(h:PJ s):LG s=some (OU s):=by
 have:=h.marks;unfold LG OU;rw[US,bs];refine CN fun j=>GK (by simp) fun o=>?_;rw[am h,bs,AV (by omega) (by omega),DT (by omega) (by omega),bs,show((s.gp.length:Int)-1).toNat=s.gp.length-1 by omega]
def SJ(s:AH):AH×Int:=if s.gp.length=0 then(zS,8)else(AH.mk (AS.mk s.em.hV (s.em.gn.take (AA s.gp ((s.gp.length:Int)-1)).toNat)) (s.gp.take (s.gp.length-1)),0)
theorem om(h:PJ s)(j:Iy s):Dw s=some (SJ s):=by
 have:=h.marks;unfold Dw SJ;refine GK (by simp) fun o=>?_;have hi:=j.inn ((s.gp.length:Int)-1) (by omega) (by omega)
 grind [Wo,AV,AC,DT]
noncomputable def fR(t:eb)(rules:List f0)(s:AH):AH×Int:=if Pt t rules s≠0 then(zS,Pt t rules s)else SJ s
theorem pQ(hf:Ai t)(j:EF rules)(s:AH):JM t rules s=some (fR t rules s):=by
 unfold JM fR;rw[jH hf j,bs];refine CN fun q=>?_;have o:=Qo.1 q;have h:=o.small hf j;have:=h.marks;unfold SJ;refine GK (by simp) fun u=>?_;have hi:=o.marks.inn ((s.gp.length:Int)-1) (by omega) (by omega);rw[am h,bs,AV (by omega) (by omega),AC (by omega) (by omega),bs,DT hi.1 hi.2,bs,DT (by omega) (by omega),bs,show((s.gp.length:Int)-1).toNat=s.gp.length-1 by omega]
noncomputable def Sd(t:eb)(rules:List f0)(s:AH)(m:po):AH×Int:=if(RM t rules s.em m).2≠0 then(zS,(RM t rules s.em m).2)else(AH.mk (RM t rules s.em m).1 s.gp,0)
theorem oy(hf:Ai t)(j:EF rules)(h:Iy s)(m:po):Fy t rules s m=some (Sd t rules s m):=by
 have:=h.few;unfold Fy Sd slices_Clone_int;rw[k8 hf j,bs];refine CN fun o=>?_
 grind [Ao,AU]
noncomputable def q8(t:eb)(rules:List f0)(s:AH)(m:po):AH×Int:=if Pt t rules s≠0 then(zS,Pt t rules s)else Sd t rules s m
theorem vh(hf:Ai t)(j:EF rules)(s:AH)(m:po):Qk t rules s m=some (q8 t rules s m):=by
 unfold Qk q8 Sd;rw[jH hf j,bs];refine CN fun o=>?_;have:=(Qo.1 o).marks.few;rw[lY hf j,bs];refine CN fun q=>?_;rw[Ao (by unfold AU;omega),bs]
noncomputable def I3(t:eb)(rules:List f0)(s:AH)(a:Bp):AH×Int:=
 if a.ll=1 then Sd t rules s a.po else if a.ll=2 then Rh s else if a.ll=3 then OU s else if a.ll=4 then SJ s else(zS,1)
variable{α β:Type}
theorem Ty(x:α×β):(some x).bind (fun y=>some (y.1,y.2))=some x:=rfl
theorem rf(hf:Ai t)(o:EF rules)(h:Hf t rules s)(a:Bp):FG t rules s a=some (I3 t rules s a):=by
 have j:=h.small hf o;unfold FG I3;rw[oy hf o h.marks,k9 j,iN j,om j h.marks,Ty,Ty,Ty,Ty]
 grind
theorem sC(hf:Ai t)(j:EF rules)(h:Hf t rules s)(a:Bp):IK t rules s a=some (I3 t rules s a):=by
 have o:=h.small hf j;unfold IK I3;rw[vh hf j,lZ o,io o,pQ hf j,Ty,Ty,Ty,Ty];have q:q8 t rules s a.po=Sd t rules s a.po:=az (by simp[Qo.2 h]);have u:fR t rules s=SJ s:=az (by simp[Qo.2 h]);rw[q,u];exact GK (by simp) fun _=>GK (by simp) fun _=>GK (by simp) fun _=>GK (by simp) fun _=>rfl
end Go.Sf.Sc
namespace Go.Sf.Sc
open Go Go.Sf
variable{s:AH}
theorem hU(h:Iy s)(q:s.gp.length<20):Iy (AH.mk s.em (s.gp++[(s.em.gn.length:Int)])):=by
 refine ⟨by simp;omega,fun i j o=>?_,fun i j o=>?_⟩
 .simp only[bk,List.length_singleton]at o;show 0<=AA (s.gp++[(s.em.gn.length:Int)]) i/\AA (s.gp++[(s.em.gn.length:Int)]) i<=_;by_cases e:i<s.gp.length
  .rw[Hm j e];exact h.inn i j e
  .have e:i=(s.gp.length:Int):=by omega
   rw [e,Tm];exact⟨by omega,Int.le_refl _⟩
 .simp only[bk,List.length_singleton]at o;show AA (s.gp++[(s.em.gn.length:Int)]) (i-1)<=AA (s.gp++[(s.em.gn.length:Int)]) i;by_cases e:i<s.gp.length
  .rw[Hm (by omega) e,Hm (by omega) (by omega)];exact h.asc i j e
  .have e:i=(s.gp.length:Int):=by omega
   rw [e,Tm,Hm (by omega) (by omega)];exact(h.inn _ (by omega) (by omega)).2
theorem Wc(h:Iy s)(n:Nat):Iy (AH.mk s.em (s.gp.take n)):=by
 have hf:=h.few;refine⟨by simp;omega,fun i o j=>?_,fun i o j=>?_⟩
 .have j:i<(s.gp.take n).length:=j;rw[cE]at j;show 0<=AA (s.gp.take n) i/\AA (s.gp.take n) i<=_;rw[KE (by omega)];exact h.inn i o (by omega)
 .have j:i<(s.gp.take n).length:=j;rw[cE]at j;show AA (s.gp.take n) (i-1)<=AA (s.gp.take n) i;rw[KE (by omega),KE (by omega)];exact h.asc i o (by omega)
theorem aF(h:Iy s):∀(k:Nat)(i:Int),0<=i->i+k<s.gp.length->AA s.gp i<=AA s.gp (i+k)
 |0,i,_,_=>by rw[show i+((0:Nat):Int)=i by omega];exact Int.le_refl _|k+1,i,j,u=>by
  have o:=aF h k i j (by omega);have q:=h.asc (i+k+1) (by omega) (by omega)
  grind
variable{d:AS}
theorem bn{m:Fp}(h:Iy (AH.mk d m))(x:po):Iy (AH.mk ⟨d.hV,d.gn++[x]⟩ m):=by
 refine ⟨h.few,fun i j o=>?_,h.asc⟩;have q:=h.inn i j o
 grind
variable{t:eb}{rules:List f0}
theorem ZW(h:Hf t rules s){a:Bp}(e:(I3 t rules s a).2=0):Hf t rules (I3 t rules s a).1:=by
 unfold I3 at e|-;split at e
 .rename_i o;rw[ae o];unfold Sd at e|-;split at e
  .rename_i j;exact absurd e j
  rename_i j;rw[az j];obtain⟨q,E,y,G⟩:=qk (Classical.not_not.1 j);rw[G];exact⟨oC q E y,bn h.marks a.po⟩
 rename_i o;rw[az o];split at e
 .rename_i o;rw[ae o];unfold Rh at e|-;split at e
  .rename_i j;exact absurd e j
  rename_i j;rw[az j];split at e
  .cases e
  rename_i q;rw[az q];have:=h.marks.few;exact⟨h.rep,hU h.marks (by omega)⟩
 rename_i o;rw[az o];split at e
 .rename_i o;rw[ae o];unfold OU at e|-;split at e
  .rename_i j;exact absurd e j
  rename_i j;rw[az j];split at e
  .cases e
  rename_i q;rw[az q];exact⟨h.rep,Wc h.marks _⟩
 rename_i o;rw[az o];split at e
 .rename_i o;rw[ae o];unfold SJ at e|-;split at e
  .cases e
  rename_i q;rw[az q];refine⟨my h.rep _,?_⟩;have u:=h.marks;have w:=Wc u (s.gp.length-1);refine⟨w.few,fun i z D=>?_,w.asc⟩;have F:i<(s.gp.take (s.gp.length-1)).length:=D;rw[cE]at F;have j:=w.inn i z D;refine⟨j.1,?_⟩;show AA (s.gp.take (s.gp.length-1)) i<=((s.em.gn.take _).length:Int);rw[KE (by omega),cE];have E:=u.inn ((s.gp.length:Int)-1) (by omega) (by omega);have y:=aF u (s.gp.length-1-i.toNat) i z (by omega);rw[show i+((s.gp.length-1-i.toNat:Nat):Int)=(s.gp.length:Int)-1 by omega]at y;omega
 .cases e
noncomputable def Il(t:eb)(rules:List f0)(s:AH)(l:List Bp):AH:=l.foldl (fun s a=>(I3 t rules s a).1) s
noncomputable def TT(t:eb)(rules:List f0)(s:AH)(l:List Bp)(i:Int):Int:=(I3 t rules (Il t rules s (l.take i.toNat)) (AA l i)).2
theorem RG(t:eb)(rules:List f0)(s:AH)(l:List Bp)(a:Bp):Il t rules s (l++[a])=(I3 t rules (Il t rules s l) a).1:=by
 unfold Il
 grind
theorem bK(h:Hf t rules s){l:List Bp}:∀n:Nat,n<=l.length->(∀j:Int,0<=j->j<n->TT t rules s l j=0)->Hf t rules (Il t rules s (l.take n))
 |0,_,_=>h|n+1,w,he=>by
  have u:=bK h n (by omega) fun j o q=>he j o (by omega)
  grind [Bh,Int.toNat_natCast,RG,TT,ZW]
noncomputable def bI(t:eb)(rules:List f0)(s:AH)(l:List Bp):AH×Int×Int:=
 if Pt t rules s≠0 then(zS,0,Pt t rules s)else if 100<l.length then(zS,0,3)else
 match fst (fun i=>(nz (TT t rules s l i)).map fun e=>(zS,i,e)) 0 l.length with
 |some r=>r|none=>(Il t rules s l,(l.length:Int),0)
variable{ρ:Type}{e:Int}
theorem rb{g:Int->ρ}:(nz e).map g=if e=0 then none else some (g e):=by unfold nz;split<;>rfl
variable{i:Int}
theorem sX{l:List Bp}(h:∀j,0<=j->j<i->(nz (TT t rules s l j)).map (fun e=>(zS,j,e))=none):∀j:Int,0<=j->j<i.toNat->TT t rules s l j=0:=by grind[Kz,FK]
theorem ry(hf:Ai t)(j:EF rules)(s:AH)(l:List Bp):EE t rules s l=some (bI t rules s l):=by
 unfold EE bI;rw[iZ hf j,bs];refine CN fun u=>GK (by simp;try omega) fun z=>?_;have h:=Qo.1 u;rw[Wo (h.small hf j),bs,Ho (a:=0) (s:=(zS,s)) (fun i=>(zS,Il t rules s (l.take i.toNat))) (fun i=>(nz (TT t rules s l i)).map fun e=>(zS,i,e)) (by omega) rfl]
 .cases fst (fun i=>(nz (TT t rules s l i)).map fun e=>(zS,i,e)) 0 (l.length:Int)with
  |some r=>rfl|none=>
   show some _=some _;rw[Int.toNat_natCast,List.take_length]
 .intro i o q w;have y:=bK h (l:=l) i.toNat (by omega) (sX w);rw[AC o q,bs,rf hf j y,bs,rb];by_cases e:TT t rules s l i=0
  .rw[az (show¬(!decide ((I3 t rules (Il t rules s (l.take i.toNat)) (AA l i)).2=0))=true by rw[show(I3 t rules (Il t rules s (l.take i.toNat)) (AA l i)).2=0 from e];decide),ae e,Bh o q,RG];rfl
  .rw[ae (show(!decide ((I3 t rules (Il t rules s (l.take i.toNat)) (AA l i)).2=0))=true by rw[Bool.not_eq_true'];exact decide_eq_false e),az e];rfl
end Go.Sf.Sc
namespace Go.Sf.Sc
open Go Go.Sf
variable{ρ:Type}
theorem tQ{f:Int×Int->Option (Bf (Int×Int) ρ)}(I:Int->Int->Prop)(b:Int){s a:Int}(w:I a s)
  (step:∀i s,a<=i->I i s->(i<b/\∃s',f (s,i)=some (.next (s',i+1))/\I (i+1) s')\/f (s,i)=some (.brk (s,i))):∃i s',a<=i/\I i s'/\Ca f (s,a)=some (.inl (s',i)):=by
 have key:∀(n:Nat)(i s:Int),a<=i->I i s->b-i<=n->∃j s',i<=j/\I j s'/\L3 f (s,i) (.inl (s',j)):=by
  intro n
  induction n with
  |zero=>
   intro i s hi o y;rcases step i s hi o with⟨h,_⟩|h
   .omega
   .exact⟨i,s,Int.le_refl _,o,.brk h⟩
  |succ n F=>
   intro i s hi o y;rcases step i s hi o with⟨_,s',q,u⟩|h
   .obtain⟨j,s2,G,z,D⟩:=F (i+1) s' (by omega) u (by omega);exact⟨j,s2,by omega,z,.next q D⟩
   .exact⟨i,s,Int.le_refl _,o,.brk h⟩
 obtain ⟨j,s',q,u,E⟩:=key (b-a).toNat a s (Int.le_refl _) w (by omega);exact⟨j,s',q,u,E.eq⟩
theorem Yw{q w k:Int}(c:Int)(H:q<=1000)(y:0<=k)(o:k<=1000)(u:1<=c/\c<=80)(z:1<=w/\w<=400000):∃w' D,(1<=w'/\w'<=400000)/\Ca (ρ:=ρ) (fun(j:Int×Int)=>
  if ((decide (j.2<q))&&(decide (j.1<=5000)))=true then
  some (.next (AG (j.1*c),AG (j.2+1)))
  else
  some (.brk (j.1,j.2))) (w,k)=some (.inl (w',D)):=by
 obtain ⟨i,s',K,F,G⟩:=tQ (ρ:=ρ) (f:=fun(j:Int×Int)=>
  if ((decide (j.2<q))&&(decide (j.1<=5000)))=true then
  some (.next (AG (j.1*c),AG (j.2+1)))
  else
  some (.brk (j.1,j.2))) (fun i s=>(1<=s/\s<=400000)/\0<=i/\i<=1000) q (s:=w) (a:=k) ⟨z,y,o⟩ (fun i s hi E=>by
   by_cases e:i<q/\s<=5000
   .left;have I:1*1<=s*c:=Int.mul_le_mul E.1.1 u.1 (by omega) (by omega);have J:s*c<=5000*80:=Int.mul_le_mul e.2 u.2 (by omega) (by omega)
    grind [AV]
   grind)
 exact ⟨s',i,F.1,G⟩
theorem dT:∀(N:Nat)(c:d5)(p:d7)(w:Int),SizeOf.sizeOf c<=N->Db c->OR p->EH c<=1000->1<=w->w<=5000->∃b,∀n,N<=n->C5 n p c w=some b
 |0,c,_,_,h,_,_,_,_,_=>by have:=DO c;omega|N+1,c,p,w,h,W,Q,hk,w0,w1=>by
  have key:∀q:d7,OR q->∃b,∀n,N<=n->ek (Ca (ρ:=Bool) (fun(j:Int×Int)=>
    if ((decide (j.2<(q.d3.ca.length:Int)))&&(decide (j.1<=5000)))=true then
    some (.next (AG (j.1*40),AG (j.2+1)))
    else
    some (.brk (j.1,j.2))) (w,(p.d3.ca.length:Int))) (fun j=>
    ek (Ca (ρ:=Bool) (fun(s2:Int×Int)=>
    if ((decide (s2.2<(q.d3.ci.length:Int)))&&(decide (s2.1<=5000)))=true then
    some (.next (AG (s2.1*80),AG (s2.2+1)))
    else
    some (.brk (s2.1,s2.2))) (j.1,(p.d3.ci.length:Int))) (fun s2=>
    ek (Ca (ρ:=Bool) (fun(u:Int)=>
    if ((decide (u<(c.fu.length:Int)))&&(decide (s2.1<=5000)))=true then
    (idx c.fu u).bind fun D=>
    (C5 n q D s2.1).bind fun E=>
    if (!E)=true then
    some (.ret false)
    else
    some (.next (AG (u+1)))
    else
    some (.brk u)) 0) (fun u=>
    some (decide (s2.1<=5000))) (fun X=>some X)) (fun Y=>some Y)) (fun Z=>some Z)=some b:=by
   intro q y;have q1:=y.ea;have q2:=y.ec;have p1:=Q.ea;have p2:=Q.ec;obtain⟨a,k,ha,V⟩:=Yw (ρ:=Bool) (q:=q.d3.ca.length) (w:=w) (k:=p.d3.ca.length) 40 (by omega) (by omega) (by omega) (by omega) (by omega);obtain⟨a',k',K,z⟩:=Yw (ρ:=Bool) (q:=q.d3.ci.length) (w:=a) (k:=p.d3.ci.length) 80 (by omega) (by omega) (by omega) (by omega) ha;have hkl:c.fu.length<=1000:=by have:=Ts c.fu;have:=Tt c;omega
   by_cases J:a'<=5000
   .have kids:∀x∈c.fu,∃b,∀n,N<=n->C5 n q x a'=some b:=fun x F=>by
     have G:=D7 F;have H:=VV F;have h3:=Tt c;exact dT N x q a' (by omega) (W.k x F) y (by omega) K.1 J
    have o:∀i:Int,∃b:Bool,0<=i->i<c.fu.length->∀n,N<=n->C5 n q (AA c.fu i) a'=some b:=fun i=>by
     by_cases e:0<=i/\i<c.fu.length
     .obtain⟨b,O⟩:=kids _ (AF e.1 e.2);exact⟨b,fun _ _=>O⟩
     .exact⟨true,fun G H=>absurd ⟨G,H⟩ e⟩
    obtain ⟨g,hg⟩:=Classical.axiomOfChoice o;refine⟨(fst (fun i=>if g i=true then none else some (Sum.inr false:Int ⊕ Bool)) 0 c.fu.length).isNone,fun n I=>?_⟩;rw[V,Ba];simp only[];rw[z,Ba];simp only[];rw[NM (fun i=>if g i=true then none else some (.inr false)) (b:=c.fu.length) (by omega)]
    .cases e:fst (fun i=>if g i=true then none else some (Sum.inr false:Int ⊕ Bool)) 0 (c.fu.length:Int)with
     |none=>
      show some (decide (a'<=5000))=some true;rw[decide_eq_true J]
     |some r=>
      obtain ⟨i,_,_,P,_⟩:=C2 e;split at P
      .cases P
      .cases P;rfl
    .intro i S U _;rw[ae (by simp;omega),AC S U,bs,hg i S U n I,bs,AV (by omega) (by omega)];cases g i<;>rfl
    .rw[az (by simp)]
   .refine⟨false,fun n I=>?_⟩;rw[V,Ba];simp only[];rw[z,Ba];simp only[];rw[NM (fun _=>none) (b:=0) (by omega) (fun i G H _=>by omega) (by rw[az (by simp;omega)])];rw[gm (by omega)];show some _=some _;rw[decide_eq_false J]
  have y:OR (if c.ll=5 then c.d7 else p):=by split;exact W.q;exact Q
  obtain ⟨b,O⟩:=key _ y;refine⟨b,fun n I=>?_⟩;obtain⟨n,rfl⟩:∃k,n=k+1:=⟨n-1,by omega⟩;rw[C5,show(if decide (c.ll=5)=true then some c.d7 else some p)=some (if c.ll=5 then c.d7 else p)by by_cases e:c.ll=5<;>simp[e],bs];exact O n (by omega)
end Go.Sf.Sc
namespace Go.Sf.Sc
open Go Go.Sf
variable{r:f0}
theorem bH(j:(BX r).Sm):(AI r.d5).Sm:=by
 have o:TV.zy [_,_,_,_,_,_,_,_,_,_,_,_,_,_,_,_,_,_,_,_,_,_,_,_,_]:=j;obtain⟨_,_,_,_,_,_,_,_,_,_,_,F,G,H,I,_,q,u,w,c4,c5,y,z,D,E,_⟩:=o;exact⟨q,u,w,c4,c5,y,z,D,E,trivial⟩
variable{t:eb}
theorem oZ(hf:Ai t)(st:(AJ t).Sm)(j:(BX r).Sm)(h:ff):∃b,KP t r h=some b/\(b=true->Ph r/\EH r.d5<=40):=by
 obtain ⟨o,q,_⟩:=Tz st;obtain⟨u,w,y⟩:=kP j;obtain⟨z,D,E⟩:=iv hf st r.j4 (bH j) h;unfold KP
 grind
variable{rules:List f0}
theorem oa(st:(AJ t).Sm)(V:∀r∈rules,(BX r).Sm)(h:ff):∃b,MT t rules h=some b/\(b=true->Ai t/\EF rules):=by
 obtain ⟨b1,e1,f1⟩:=Tz st;obtain⟨b2,e2⟩:=Zt h;unfold MT;by_cases Q:(((decide (4<(rules.length:Int)))&&(decide ((rules.length:Int)<=10)))||(decide (12<(rules.length:Int))))=true
 .rw[ae Q,bs,ae rfl,bs,ae rfl];exact⟨false,rfl,fun h=>by cases h⟩
 rw [az Q,e1,bs,bs];cases b1 with
 |false=>exact⟨false,rfl,fun h=>by cases h⟩
 |true=>
 rw [az (by decide),e2,bs,bs];cases b2 with
 |false=>exact⟨false,rfl,fun h=>by cases h⟩
 |true=>
 rw [az (by decide)];have hf:=f1 rfl;have Y:rules.length<=12:=by
  simp only[Bool.or_eq_true,sr,yf,not_or]at Q;omega
 rcases SR (f:=fun(o:Int)(W:Bool)=>
  (idx rules o).bind fun y=>
  (KP t y h).bind fun z=>
  if (!z)=true then
  some (.ret false)
  else
  (if W=true then((idx rules o).bind fun D=>
  some (decide ((D.j4.d3.ca.length:Int)<=3)))else some false).bind fun E=>
  (if E=true then((idx rules o).bind fun F=>
  some (decide ((F.j4.d3.ci.length:Int)<=2)))else some false).bind fun G=>
  (if G=true then((idx rules o).bind fun H=>
  some (decide ((H.fl.d3.ca.length:Int)<=5)))else some false).bind fun I=>
  (if I=true then((idx rules o).bind fun J=>
  (idx rules o).bind fun K=>
  (Mi J.j4 K.d5 1).bind fun N=>
  some (N))else some false).bind fun O=>
  some (.next O)) (fun i _=>∀j:Int,0<=j->j<i->Ph (AA rules j)/\EH (AA rules j).d5<=40) (fun _=>False) (fun r=>r=false) (a:=0) (b:=rules.length) (s:=true) (by omega) (fun j h1 h2=>by omega) (fun i s o u P=>by
   have Z:=AF o u;obtain⟨b3,q,f3⟩:=oZ hf st (V _ Z) h;simp only[AC o u,bs];rw[q,bs];cases b3 with
   |false=>exact .inr (.inr ⟨false,rfl,rfl⟩)|true=>
    obtain ⟨S,k2⟩:=f3 rfl;obtain⟨U,e4⟩:=dT _ (AA rules i).d5 (AA rules i).j4 1 (b6 _) S.cond S.left (by omega) (by decide) (by decide);have e5:Mi (AA rules i).j4 (AA rules i).d5 1=some U:=Dy _ e4;left;refine⟨(((s&&decide (((AA rules i).j4.d3.ca.length:Int)<=3))&&decide (((AA rules i).j4.d3.ci.length:Int)<=2))&&decide (((AA rules i).fl.d3.ca.length:Int)<=5))&&U,?_,fun j X j1=>?_⟩
    .rw[az (by decide),e5];cases s<;>cases decide (((AA rules i).j4.d3.ca.length:Int)<=3)<;>cases decide (((AA rules i).j4.d3.ci.length:Int)<=2)<;>cases decide (((AA rules i).fl.d3.ca.length:Int)<=5)<;>rfl
    .by_cases e:j=i
     .rw[e];exact⟨S,k2⟩
     .exact P j X (by omega))with⟨s',q,h3⟩|⟨r,q,h3⟩
 .rw[q,Ba];have P:=h3.resolve_right id;have w:EF rules:=⟨Y,fun r w=>by
   obtain ⟨i,o,u,rfl⟩:=BR w;exact P i o u⟩
  rw [ai hf w,bs];exact⟨_,rfl,fun _=>⟨hf,w⟩⟩
 .rw[q,RI,h3];exact⟨false,rfl,fun h=>by cases h⟩
theorem lM(g:d3):Nw g g=some true:=by
 unfold Nw;rw[pB,bs,az (by simp),BW (fun _=>false) false]
 .rw[show mt (fun _=>false) 0 (g.ci.length:Int)=false from Bt.2 fun _ _ _=>rfl];rfl
 grind [AC]
variable{l:Fp}
theorem ic(q:l.length<=1000):J5 l l=some 0:=by
 unfold J5;rw[NM (fun _=>none) (b:=l.length) (by omega)]
 .rw[show fst (fun _=>(none:Option (Int ⊕ Int))) 0 (l.length:Int)=none from Ay.2 fun _ _ _=>rfl];show some (AG ((l.length:Int)-l.length))=some 0;rw[AV (by omega) (by omega),Int.sub_self]
 .intro i o j _;rw[ae (by simp[j]),AC o j,bs,bs,az (by simp),AV (by omega) (by omega)];rfl
 .rw[az (by simp)]
variable{h:ff}
theorem sB(q:I0 h):Lj h h=some true:=by
 unfold Lj;rw[lM,bs,az (by simp),BW (fun _=>false) false]
 .rw[show mt (fun _=>false) 0 (h.ej.length:Int)=false from Bt.2 fun _ _ _=>rfl];rfl
 .intro i j o _;rw[AC j o,bs,bs,ic (q.rows _ (AF j o)),bs];simp
end Go.Sf.Sc
namespace Go.Sf.Sc
open Go Go.Sf
theorem l9:I0 ⟨⟨[],[]⟩,[]⟩:=⟨by simp,by simp,by simp,fun v hv=>by cases hv⟩
variable{t:eb}{rules:List f0}
theorem gc(hf:Ai t)(j:EF rules)(d:AS):I0 (Kt t rules d).1:=by
 unfold Kt;split
 .exact l9
 .rename_i o;have:=(Pd hf j (OB.1 (Classical.not_not.1 o)) d.gn.length (b6 _)).1
  grind
end Go.Sf.Sc
namespace Go.Sf.Sc
open Go Go.Sf
def Pl(t:eb)(p g:d3)(inj:Bool):List d4×Int:=
 if Ee t p g≠0 then([],Ee t p g)else if 5000<(J1 t p g (Q9 p) inj).length then([],3)else(J1 t p g (Q9 p) inj,0)
variable{t:eb}
theorem sE(hf:Ai t)(p g:d3)(inj:Bool):Pb t p g inj=some (Pl t p g inj):=by
 unfold Pb Pl;rw[Sp hf,bs];refine CN fun j=>?_;obtain⟨hv,q⟩:=XS (inj:=inj) (pa:=Q9 p) j (by simp[Q9]) (by simp[Q9]);have o:=(Mw j).2.1;have:=o.ea;have:=o.ec
 grind [lm,bs,nf,J1,Q9]
end Go.Sf.Sc
namespace Go.Sf.Sc
open Go Go.Sf
variable{α:Type}{f:Int->List α->Option (List α)}
theorem g6[Inhabited α]{x:List α}{p:α->Bool}(w:x.length<=5000)
  (hf:∀(i:Int)(s:List α),0<=i->i<x.length->s.length<=5000->f i s=some (if p (AA x i)=true then s++[AA x i]else s)):
  nd f 0 (x.length:Int) []=some (x.filter p):=by
 rw [BY (a:=0) (b:=x.length) (s:=[]) (fun i=>(x.take i.toNat).filter p) (by omega) rfl,Int.toNat_natCast,List.take_length];intro i j o;have q:((x.take i.toNat).filter p).length<=5000:=by grind
 rw [hf i _ j o q,Bh j o,List.filter_append];cases u:p (AA x i)<;>simp[u]
def PS(t:eb)(p:d7)(h:ff)(inj:Bool):List AO×Int:=
 if O0 t p h≠0 then([],O0 t p h)else if(Pl t p.d3 h.d3 inj).2≠0 then([],(Pl t p.d3 h.d3 inj).2)else
 (((Pl t p.d3 h.d3 inj).1.filter fun y=>decide ((HV p h y).2=0)).map fun y=>⟨y,(HV p h y).1⟩,0)
variable{t:eb}{p g:d3}
theorem gM{inj:Bool}(h:(Pl t p g inj).2=0):(Pl t p g inj).1.length<=5000/\∀m∈(Pl t p g inj).1,FU t p g m inj=0:=by grind[Pl,gj]
theorem lh(hf:Ai t)(p:d7)(h:ff)(inj:Bool):J6 t p h inj=some (PS t p h inj):=by
 unfold J6 PS;rw[Yf hf,bs];refine CN fun w=>?_;rw[sE hf,bs];refine CN fun z=>?_;obtain⟨G,H⟩:=gM z;rw[RR (F:=fun y=>((HV p h y).1,decide ((HV p h y).2=0))) G,bs];intro i s D E o;have q:HK p h (AA (Pl t p.d3 h.d3 inj).1 i)=some (HV p h (AA (Pl t p.d3 h.d3 inj).1 i)):=by
  obtain ⟨hv,u,hh,j⟩:=RY hf w (H _ (AF D E));exact dO u (fun s o=>Oi (C6 hv) u hh j o)
 grind [AC,bs,HV,AA,Pl,AQ,AU]
variable{h:ff}
theorem YS{p:d7}{inj:Bool}:(PS t p h inj).1.length<=5000:=by grind[PS,gM,c8,Nat.le_trans,List.length_filter_le]
noncomputable def ZA(t:eb)(r:f0)(h:ff):Int:=if DZ t r≠0 then DZ t r else(E4 t h).2
variable{r:f0}
theorem pI(hf:Ai t)(fr:Ph r)(h:ff):Ih t r h=some (ZA t r h):=by
 unfold Ih ZA;rw[av hf fr,bs,UR hf];exact CN fun _=>rfl
noncomputable def Ks(t:eb)(r:f0)(h:ff):List AO×Int:=
 if ZA t r h≠0 then([],ZA t r h)else if(PS t r.j4 h r.mo).2≠0 then([],(PS t r.j4 h r.mo).2)else
 ((PS t r.j4 h r.mo).1.filter fun m=>decide ((J0 t r h m).2=0),0)
theorem sF(hf:Ai t)(fr:Ph r)(j:EH r.d5<=40)(h:ff):HN t r h=some (Ks t r h):=by
 unfold HN Ks;rw[pI hf fr,bs];refine CN fun o=>?_;rw[lh hf,bs];refine CN fun q=>?_;rw[g6 (p:=fun m=>decide ((J0 t r h m).2=0)) YS,bs]
 grind [AC,bs,jF,J0,AA,PS,AQ,AU]
theorem oF:(Ks t r h).1.length<=5000:=by grind[Ks,Nat.le_trans,List.length_filter_le,YS]
variable{m:AO}
theorem qu(j:m∈(Ks t r h).1):(J0 t r h m).2=0:=by
 unfold Ks at j
 grind
end Go.Sf.Sc
namespace Go.Sf
variable{σ ρ:Type}
theorem VB{f g:Int->σ->Option (Bf σ ρ)}:∀(n:Nat)(i:Int)(s:σ),(∀j s,i<=j->j<i+n->f j s=g j s)->x9 f n i s=x9 g n i s
 |0,_,_,_=>rfl|n+1,i,s,h=>by
  rw [EP,EP,h i s (by omega) (by omega)];cases g i s with
  |none=>rfl|some c=>
   cases c with
   |next s'=>exact VB n (i+1) s' fun j t o q=>h j t (by omega) (by omega)|brk _=>rfl|ret _=>rfl
variable{a b:Int}
theorem eK{f g:Int->σ->Option (Bf σ ρ)}{s:σ}(h:∀j s,a<=j->j<b->f j s=g j s):kg f a b s=kg g a b s:=VB _ _ _ fun j t o q=>h j t o (by omega)
end Go.Sf
namespace Go.Sf.Sc
open Go Go.Sf
instance:Inhabited po:=⟨⟨0,default⟩⟩
noncomputable def Wu(t:eb)(rules:List f0)(h:ff):Option (List po×Int):=
 ek (kg (ρ:=(List po×Int)) (fun(i0:Int)(s0:List po)=>
 (idx rules i0).bind fun x20=>
 if (!decide ((Ks t x20 h).2=0))=true then
 some (.ret ([],(Ks t x20 h).2))
 else
 (nd (fun(i2:Int)(s2:List po)=>
 (idx (Ks t x20 h).1 i2).bind fun x36=>
 (AT s2 [po.mk i0 x36]).bind fun x43=>
 some x43) 0 ((Ks t x20 h).1.length:Int) s0).bind fun s2=>
 some (.next s2)) 0 (rules.length:Int) []) (fun s0=>
 some (s0,0)) (fun v0=>some v0)
variable{t:eb}{rules:List f0}
theorem sQ(hf:Ai t)(o:EF rules)(h:ff):G4 t rules h=Wu t rules h:=by
 unfold G4 Wu;congr 1;refine eK fun j s q u=>?_;have:=o.each _ (AF q u)
 grind [AC,bs,sF]
variable{i:Int}
theorem kC{L:List AO}{s:List po}(z:s.length+L.length<=100000):nd (fun(y:Int)(s2:List po)=>
 (idx L y).bind fun o=>
 (AT s2 [po.mk i o]).bind fun q=>
 some q) 0 (L.length:Int) s=some (s++L.map (po.mk i)):=by
 rw [BY (fun j=>s++(L.take j.toNat).map (po.mk i)) (by omega) (by simp),Int.toNat_natCast,List.take_length];intro j u w;rw[AC u w,bs,AQ (by simp;unfold AU;omega),bs,Bh u w,List.map_append,<-c9];rfl
theorem lL(E:EF rules)(h:ff):∃v,Wu t rules h=some v/\v.1.length<=60000/\(∀m∈v.1,(E6 t rules h m).2=0)/\(v.2=0\/∃r∈rules,v.2=(Ks t r h).2):=by
 unfold Wu;have z:=E.len;rcases SR (f:=fun(o:Int)(F:List po)=>
  (idx rules o).bind fun j=>
  if (!decide ((Ks t j h).2=0))=true then
  some (.ret ([],(Ks t j h).2))
  else
  (nd (fun(G:Int)(s2:List po)=>
  (idx (Ks t j h).1 G).bind fun u=>
  (AT s2 [po.mk o u]).bind fun w=>
  some w) 0 ((Ks t j h).1.length:Int) F).bind fun s2=>
  some (.next s2)) (fun i s=>(s.length:Int)<=5000*i/\∀m∈s,(E6 t rules h m).2=0) (fun _=>False) (fun v=>v.1=[]/\∃r∈rules,v.2=(Ks t r h).2) (a:=0) (b:=rules.length) (s:=[]) (by omega) ⟨by simp,by simp⟩ (fun i s o y hi=>by
   have I:=oF (t:=t) (r:=AA rules i) (h:=h);rw[AC o y,bs];by_cases e:(Ks t (AA rules i) h).2=0
   .left;rw[az (by simp[e]),kC (by omega),bs];refine⟨_,rfl,by rw[bk,c8];omega,fun m q=>?_⟩;rcases List.mem_append.1 q with q|q
    .exact hi.2 m q
    .obtain⟨x,H,rfl⟩:=List.mem_map.1 q;unfold E6;rw[az (by dsimp only;omega)];exact qu H
   .right;right;rw[ae (by simp[e])];exact⟨_,rfl,rfl,_,AF o y,rfl⟩)with⟨s',e,h1⟩|⟨v,e,h1⟩
 .rw[e,Ba];have D:=h1.resolve_right id;exact⟨_,rfl,by have:=D.1;dsimp only;omega,D.2,.inl rfl⟩
 .rw[e,RI];exact⟨_,rfl,by rw[h1.1];simp,by rw[h1.1];simp,.inr h1.2⟩
theorem o9(j:EF rules)(h:ff):∃v,Wu t rules h=some v/\v.1.length<=60000/\∀m∈v.1,(E6 t rules h m).2=0:=by
 obtain ⟨v,e,o,q,_⟩:=lL (t:=t) j h;exact⟨v,e,o,q⟩
end Go.Sf.Sc
